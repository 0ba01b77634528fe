/- The contracts of the functions that RegistryTells reaches, the plain facts about them, and its walk (part 2): no condition but those that each theorem names. -/
import Derived.Test.YtbgdamlidohfhaaZRegistryTells1
set_option linter.unusedVariables false
set_option linter.unusedSimpArgs false
namespace Go.Proofs.Ytbgdamlidohfhaa.P
open Go.RowKit Go.Proofs.YtbgdamlidohfhaaW.PrintWords Go.Proofs.YtbgdamlidohfhaaW.PrintLast Go.Proofs.YtbgdamlidohfhaaW.PrintMore
attribute [local go_sem] max2_int min2_int max_two min_two max_three min_three max_four min_four   -- for this text's walks alone
set_option linter.unusedVariables false
set_option linter.unusedSimpArgs false

/-! ### towncrierref05_May: function 36 -/
mutual
def towncrierref05_May.j0 : Nat → Bool → ByteArray → Int → List (SField) → Option (Bool)
  | 0, _, _, _, _ => none
  | k + 1, x27, x192000, x192001, x192002 => if x27 = true then (some false) else (towncrierref05_May.l0 k 0 x192000 x192001 x192002)
def towncrierref05_May.l0 : Nat → Int → ByteArray → Int → List (SField) → Option (Bool)
  | 0, _, _, _, _ => none
  | k + 1, x4, x192000, x192001, x192002 => if x4 < (x192002.length : Int) then (if 0 ≤ x4 then ((towncrierref05_Name.f k ((rd_TField x192002 x4).f0)).bind fun t194 => (if t194 = true then (if ((rd_TField x192002 x4).f1) < 0 then (towncrierref05_May.j2 k x4 true x192000 x192001 x192002) else (towncrierref05_May.j2 k x4 (decide (((rd_TField x192002 x4).f1) ≥ 4)) x192000 x192001 x192002)) else (towncrierref05_May.j2 k x4 true x192000 x192001 x192002))) else (none)) else (some true)
def towncrierref05_May.j2 : Nat → Int → Bool → ByteArray → Int → List (SField) → Option (Bool)
  | 0, _, _, _, _, _ => none
  | k + 1, x4, x61, x192000, x192001, x192002 => if x61 = true then (some false) else (towncrierref05_May.l1 k x4 0 x192000 x192001 x192002)
def towncrierref05_May.l1 : Nat → Int → Int → ByteArray → Int → List (SField) → Option (Bool)
  | 0, _, _, _, _, _ => none
  | k + 1, x4, x6, x192000, x192001, x192002 => if x6 < x4 then (if 0 ≤ x6 then (if x6 < (x192002.length : Int) then (if 0 ≤ x4 then (if x4 < (x192002.length : Int) then (if ((rd_TField x192002 x6).f0).toList = ((rd_TField x192002 x4).f0).toList then (some false) else (towncrierref05_May.l1 k x4 (wrap64 (x6 + 1)) x192000 x192001 x192002)) else (none)) else (none)) else (none)) else (none)) else (towncrierref05_May.l0 k (wrap64 (x4 + 1)) x192000 x192001 x192002)
end
def towncrierref05_May.f (k : Nat) (a0_0 : ByteArray) (a0_1 : Int) (l0_2 : List (SField)) : Option (Bool) := (towncrierref05_Name.f k a0_0).bind fun t192 => (if t192 = true then (if a0_1 < 1 then (towncrierref05_May.j0 k true a0_0 a0_1 l0_2) else (if a0_1 > 1000 then (towncrierref05_May.j0 k true a0_0 a0_1 l0_2) else (towncrierref05_May.j0 k (decide ((l0_2.length : Int) > 6)) a0_0 a0_1 l0_2))) else (towncrierref05_May.j0 k true a0_0 a0_1 l0_2))
theorem towncrierref05_May.mono_l : ∀ k, (∀ y0 y1 y2 y3, LeO (towncrierref05_May.j0 k y0 y1 y2 y3) (towncrierref05_May.j0 (k + 1) y0 y1 y2 y3)) ∧ (∀ y0 y1 y2 y3, LeO (towncrierref05_May.l0 k y0 y1 y2 y3) (towncrierref05_May.l0 (k + 1) y0 y1 y2 y3)) ∧ (∀ y0 y1 y2 y3 y4, LeO (towncrierref05_May.j2 k y0 y1 y2 y3 y4) (towncrierref05_May.j2 (k + 1) y0 y1 y2 y3 y4)) ∧ (∀ y0 y1 y2 y3 y4, LeO (towncrierref05_May.l1 k y0 y1 y2 y3 y4) (towncrierref05_May.l1 (k + 1) y0 y1 y2 y3 y4))
  | 0 => ⟨fun _ _ _ _ r h => by simp [towncrierref05_May.j0] at h, fun _ _ _ _ r h => by simp [towncrierref05_May.l0] at h, fun _ _ _ _ _ r h => by simp [towncrierref05_May.j2] at h, fun _ _ _ _ _ r h => by simp [towncrierref05_May.l1] at h⟩
  | k + 1 => by
    obtain ⟨ih0, ih1, ih2, ih3⟩ := towncrierref05_May.mono_l k
    refine ⟨?_, ?_, ?_, ?_⟩
    · intro y0 y1 y2 y3
      unfold towncrierref05_May.j0
      repeat' first
      | (with_reducible exact ih0 _ _ _ _)
      | (with_reducible exact ih1 _ _ _ _)
      | (with_reducible exact ih2 _ _ _ _ _)
      | (with_reducible exact ih3 _ _ _ _ _)
      | (with_reducible exact towncrierref05_Name.mono _ _)
      | (with_reducible exact LeO.refl _)
      | (with_reducible exact LeO.none _)
      | (with_reducible refine LeO.ite ?_ ?_)
      | (with_reducible refine LeO.bind ?_ (fun _ => ?_))
      | exact ih0 _ _ _ _
      | exact ih1 _ _ _ _
      | exact ih2 _ _ _ _ _
      | exact ih3 _ _ _ _ _
      | exact towncrierref05_Name.mono _ _
      | exact LeO.none _
      | refine LeO.ite ?_ ?_
      | refine LeO.bind ?_ (fun _ => ?_)
    · intro y0 y1 y2 y3
      unfold towncrierref05_May.l0
      repeat' first
      | (with_reducible exact ih0 _ _ _ _)
      | (with_reducible exact ih1 _ _ _ _)
      | (with_reducible exact ih2 _ _ _ _ _)
      | (with_reducible exact ih3 _ _ _ _ _)
      | (with_reducible exact towncrierref05_Name.mono _ _)
      | (with_reducible exact LeO.refl _)
      | (with_reducible exact LeO.none _)
      | (with_reducible refine LeO.ite ?_ ?_)
      | (with_reducible refine LeO.bind ?_ (fun _ => ?_))
      | exact ih0 _ _ _ _
      | exact ih1 _ _ _ _
      | exact ih2 _ _ _ _ _
      | exact ih3 _ _ _ _ _
      | exact towncrierref05_Name.mono _ _
      | exact LeO.none _
      | refine LeO.ite ?_ ?_
      | refine LeO.bind ?_ (fun _ => ?_)
    · intro y0 y1 y2 y3 y4
      unfold towncrierref05_May.j2
      repeat' first
      | (with_reducible exact ih0 _ _ _ _)
      | (with_reducible exact ih1 _ _ _ _)
      | (with_reducible exact ih2 _ _ _ _ _)
      | (with_reducible exact ih3 _ _ _ _ _)
      | (with_reducible exact towncrierref05_Name.mono _ _)
      | (with_reducible exact LeO.refl _)
      | (with_reducible exact LeO.none _)
      | (with_reducible refine LeO.ite ?_ ?_)
      | (with_reducible refine LeO.bind ?_ (fun _ => ?_))
      | exact ih0 _ _ _ _
      | exact ih1 _ _ _ _
      | exact ih2 _ _ _ _ _
      | exact ih3 _ _ _ _ _
      | exact towncrierref05_Name.mono _ _
      | exact LeO.none _
      | refine LeO.ite ?_ ?_
      | refine LeO.bind ?_ (fun _ => ?_)
    · intro y0 y1 y2 y3 y4
      unfold towncrierref05_May.l1
      repeat' first
      | (with_reducible exact ih0 _ _ _ _)
      | (with_reducible exact ih1 _ _ _ _)
      | (with_reducible exact ih2 _ _ _ _ _)
      | (with_reducible exact ih3 _ _ _ _ _)
      | (with_reducible exact towncrierref05_Name.mono _ _)
      | (with_reducible exact LeO.refl _)
      | (with_reducible exact LeO.none _)
      | (with_reducible refine LeO.ite ?_ ?_)
      | (with_reducible refine LeO.bind ?_ (fun _ => ?_))
      | exact ih0 _ _ _ _
      | exact ih1 _ _ _ _
      | exact ih2 _ _ _ _ _
      | exact ih3 _ _ _ _ _
      | exact towncrierref05_Name.mono _ _
      | exact LeO.none _
      | refine LeO.ite ?_ ?_
      | refine LeO.bind ?_ (fun _ => ?_)
theorem towncrierref05_May.mono : ∀ a0 a1 a2 k, LeO (towncrierref05_May.f k a0 a1 a2) (towncrierref05_May.f (k + 1) a0 a1 a2) := by
  intro a0 a1 a2 k
  obtain ⟨ih0, ih1, ih2, ih3⟩ := towncrierref05_May.mono_l k
  unfold towncrierref05_May.f
  repeat' first
      | (with_reducible exact ih0 _ _ _ _)
      | (with_reducible exact ih1 _ _ _ _)
      | (with_reducible exact ih2 _ _ _ _ _)
      | (with_reducible exact ih3 _ _ _ _ _)
      | (with_reducible exact towncrierref05_Name.mono _ _)
      | (with_reducible exact LeO.refl _)
      | (with_reducible exact LeO.none _)
      | (with_reducible refine LeO.ite ?_ ?_)
      | (with_reducible refine LeO.bind ?_ (fun _ => ?_))
      | exact ih0 _ _ _ _
      | exact ih1 _ _ _ _
      | exact ih2 _ _ _ _ _
      | exact ih3 _ _ _ _ _
      | exact towncrierref05_Name.mono _ _
      | exact LeO.none _
      | refine LeO.ite ?_ ?_
      | refine LeO.bind ?_ (fun _ => ?_)
set_option maxHeartbeats 8000000 in
set_option maxRecDepth 100000 in
theorem towncrierref05_May.calls (k : Nat) (a0_0 : ByteArray) (a0_1 : Int) (A0_2 : Option Addr) (c0_2 : Nat) (l0_2 : List (SField)) (r : Bool) (w : World) (hr0_2 : Kd.C kField w A0_2 l0_2.length l0_2) (hc0_2 : l0_2.length ≤ c0_2) (h : towncrierref05_May.f k a0_0 a0_1 l0_2 = some r) :
    Calls Try.prog 36 #[.agg #[.string a0_0, .int .i64 a0_1, .slice A0_2 l0_2.length c0_2]] w fun e w' => e = .returned (.bool r) ∧ Below w.heap.size w w' := by
  have hu25 := Try.underlying25
  have HR0_2 := Aside0.mk hr0_2
  have HC0_2 := Aside0.mk hc0_2
  clear hr0_2 hc0_2
  have HB := Aside0.mk (Below.refl w.heap.size w)
  have H : ((towncrierref05_Name.f k a0_0).bind fun t192 => (if t192 = true then (if a0_1 < 1 then (towncrierref05_May.j0 k true a0_0 a0_1 l0_2) else (if a0_1 > 1000 then (towncrierref05_May.j0 k true a0_0 a0_1 l0_2) else (towncrierref05_May.j0 k (decide ((l0_2.length : Int) > 6)) a0_0 a0_1 l0_2))) else (towncrierref05_May.j0 k true a0_0 a0_1 l0_2))) = some r := h
  clear h
  replace H := Option.bind_eq_some_iff.mp H
  obtain ⟨t192, A20, H⟩ := H
  replace H : (if t192 = true then (if a0_1 < 1 then (towncrierref05_May.j0 k true a0_0 a0_1 l0_2) else (if a0_1 > 1000 then (towncrierref05_May.j0 k true a0_0 a0_1 l0_2) else (towncrierref05_May.j0 k (decide ((l0_2.length : Int) > 6)) a0_0 a0_1 l0_2))) else (towncrierref05_May.j0 k true a0_0 a0_1 l0_2)) = some r := H
  have A2 := Aside0.mk A20
  clear A20
  have HC3 := Aside0.mk H
  clear H
  go_enter Try.func36, Try.ntmps36
  go_upto_region 2 with (first | ((with_reducible refine gate_dst (N := 1) rfl ?_); (try (refine gate_guard (by rfl) ?_; dsimp only)); refine box_event ?hg (N := 1) ?hd (cs := #[.string a0_0, .int .i64 a0_1, .slice A0_2 l0_2.length c0_2]) (t := 25) ?hr ?_; (case hd => rfl); (case hg => rfl); (case hr => first | (go_simp; done) | (go_simp; rfl)); intro gb191 hg w4 hbox hb; have n0_ := Aside0.mk (below_step (by repeat (first | (with_reducible first | exact HB.out | apply below_alloc | apply pw_below_drewN | apply below_drew1) | exact HB.out)) hb); have n1_ := Aside0.mk (hbox); have n2_ := Aside0.mk ((by rw [hg]; exact (below_size (by repeat (first | (with_reducible first | exact HB.out | apply below_alloc | apply pw_below_drewN | apply below_drew1) | exact HB.out))) : w.heap.size ≤ gb191)); have n3_ := Aside0.mk ((by rw [hg]; exact (below_size (by repeat (first | (with_reducible first | exact HB.out | apply below_alloc | apply pw_below_drewN | apply below_drew1) | exact HB.out))) : w.heap.size ≤ gb191)); clear HB; have HB := n0_; have BK191 := n1_; have GW191 := n2_; have GE191 := n3_; clear n0_ n1_ n2_ n3_; clear hb hbox hg; have hcz5_0 : w4.cell? ⟨gb191, 0, none⟩ = some (.string a0_0) := (blk_cell BK191.out 0).trans rfl; have hcz5_1 : w4.cell? ⟨gb191, 1, none⟩ = some (.int .i64 a0_1) := (blk_cell BK191.out 1).trans rfl; have hcz5_2 : w4.cell? ⟨gb191, 2, none⟩ = some (.slice A0_2 l0_2.length c0_2) := (blk_cell BK191.out 2).trans rfl; have hfz5_0 := blk_frozen BK191.out 0; have hfz5_1 := blk_frozen BK191.out 1; have hfz5_2 := blk_frozen BK191.out 2) | (go_at_call 35; (with_reducible refine (towncrierref05_Name.calls k a0_0 t192 _ A2.out).mono ?_); rintro e w' ⟨rfl, ⟨nd, rfl⟩⟩; (try first | exact ⟨rfl, _, World.drewN_drewN _ _ _⟩ | exact ⟨rfl, _, Eq.trans (World.drewN_drewN _ _ _) (congrArg (World.drewN _) (Nat.add_assoc _ _ _))⟩)))
  repeat (go_quiet (first | ((with_reducible refine gate_dst (N := 1) rfl ?_); (try (refine gate_guard (by rfl) ?_; dsimp only)); refine box_event ?hg (N := 1) ?hd (cs := #[.string a0_0, .int .i64 a0_1, .slice A0_2 l0_2.length c0_2]) (t := 25) ?hr ?_; (case hd => rfl); (case hg => rfl); (case hr => first | (go_simp; done) | (go_simp; rfl)); intro gb191 hg w4 hbox hb; have n0_ := Aside0.mk (below_step (by repeat (first | (with_reducible first | exact HB.out | apply below_alloc | apply pw_below_drewN | apply below_drew1) | exact HB.out)) hb); have n1_ := Aside0.mk (hbox); have n2_ := Aside0.mk ((by rw [hg]; exact (below_size (by repeat (first | (with_reducible first | exact HB.out | apply below_alloc | apply pw_below_drewN | apply below_drew1) | exact HB.out))) : w.heap.size ≤ gb191)); have n3_ := Aside0.mk ((by rw [hg]; exact (below_size (by repeat (first | (with_reducible first | exact HB.out | apply below_alloc | apply pw_below_drewN | apply below_drew1) | exact HB.out))) : w.heap.size ≤ gb191)); clear HB; have HB := n0_; have BK191 := n1_; have GW191 := n2_; have GE191 := n3_; clear n0_ n1_ n2_ n3_; clear hb hbox hg; have hcz5_0 : w4.cell? ⟨gb191, 0, none⟩ = some (.string a0_0) := (blk_cell BK191.out 0).trans rfl; have hcz5_1 : w4.cell? ⟨gb191, 1, none⟩ = some (.int .i64 a0_1) := (blk_cell BK191.out 1).trans rfl; have hcz5_2 : w4.cell? ⟨gb191, 2, none⟩ = some (.slice A0_2 l0_2.length c0_2) := (blk_cell BK191.out 2).trans rfl; have hfz5_0 := blk_frozen BK191.out 0; have hfz5_1 := blk_frozen BK191.out 1; have hfz5_2 := blk_frozen BK191.out 2) | (go_at_call 35; (with_reducible refine (towncrierref05_Name.calls k a0_0 t192 _ A2.out).mono ?_); rintro e w' ⟨rfl, ⟨nd, rfl⟩⟩; (try first | exact ⟨rfl, _, World.drewN_drewN _ _ _⟩ | exact ⟨rfl, _, Eq.trans (World.drewN_drewN _ _ _) (congrArg (World.drewN _) (Nat.add_assoc _ _ _))⟩))); go_upto_region 2 with (first | ((with_reducible refine gate_dst (N := 1) rfl ?_); (try (refine gate_guard (by rfl) ?_; dsimp only)); refine box_event ?hg (N := 1) ?hd (cs := #[.string a0_0, .int .i64 a0_1, .slice A0_2 l0_2.length c0_2]) (t := 25) ?hr ?_; (case hd => rfl); (case hg => rfl); (case hr => first | (go_simp; done) | (go_simp; rfl)); intro gb191 hg w4 hbox hb; have n0_ := Aside0.mk (below_step (by repeat (first | (with_reducible first | exact HB.out | apply below_alloc | apply pw_below_drewN | apply below_drew1) | exact HB.out)) hb); have n1_ := Aside0.mk (hbox); have n2_ := Aside0.mk ((by rw [hg]; exact (below_size (by repeat (first | (with_reducible first | exact HB.out | apply below_alloc | apply pw_below_drewN | apply below_drew1) | exact HB.out))) : w.heap.size ≤ gb191)); have n3_ := Aside0.mk ((by rw [hg]; exact (below_size (by repeat (first | (with_reducible first | exact HB.out | apply below_alloc | apply pw_below_drewN | apply below_drew1) | exact HB.out))) : w.heap.size ≤ gb191)); clear HB; have HB := n0_; have BK191 := n1_; have GW191 := n2_; have GE191 := n3_; clear n0_ n1_ n2_ n3_; clear hb hbox hg; have hcz5_0 : w4.cell? ⟨gb191, 0, none⟩ = some (.string a0_0) := (blk_cell BK191.out 0).trans rfl; have hcz5_1 : w4.cell? ⟨gb191, 1, none⟩ = some (.int .i64 a0_1) := (blk_cell BK191.out 1).trans rfl; have hcz5_2 : w4.cell? ⟨gb191, 2, none⟩ = some (.slice A0_2 l0_2.length c0_2) := (blk_cell BK191.out 2).trans rfl; have hfz5_0 := blk_frozen BK191.out 0; have hfz5_1 := blk_frozen BK191.out 1; have hfz5_2 := blk_frozen BK191.out 2) | (go_at_call 35; (with_reducible refine (towncrierref05_Name.calls k a0_0 t192 _ A2.out).mono ?_); rintro e w' ⟨rfl, ⟨nd, rfl⟩⟩; (try first | exact ⟨rfl, _, World.drewN_drewN _ _ _⟩ | exact ⟨rfl, _, Eq.trans (World.drewN_drewN _ _ _) (congrArg (World.drewN _) (Nat.add_assoc _ _ _))⟩))))
  (try simp only [Act.put, List.setIfInBounds_toArray, List.set_cons_zero, List.set_cons_succ])
  go_cut [27] (fun v27 wc => ∃ (kq : Nat) (x27_2 : Bool), v27 = .bool x27_2 ∧ Aside0 (towncrierref05_May.j0 kq x27_2 a0_0 a0_1 l0_2 = some r) ∧ Aside0 (kq ≤ k) ∧ Aside0 (wc.heap[gb191]? = some (.cells #[.string a0_0, .int .i64 a0_1, (.slice A0_2 l0_2.length c0_2)] 25 (0, 0))) ∧ Aside0 (Below w.heap.size w wc))
  case first =>
    have H := HC3.out
    clear HC3
    by_cases c6 : t192 = true
    · subst c6
      have H1 : (if a0_1 < 1 then (towncrierref05_May.j0 k true a0_0 a0_1 l0_2) else (if a0_1 > 1000 then (towncrierref05_May.j0 k true a0_0 a0_1 l0_2) else (towncrierref05_May.j0 k (decide ((l0_2.length : Int) > 6)) a0_0 a0_1 l0_2))) = some r := by rw [if_pos rfl] at H; exact H
      clear H
      have H := H1
      clear H1
      by_cases c7 : a0_1 < 1
      · rw [if_pos c7] at H
        have c7b0 : decide (a0_1 < 1) = true := decide_eq_true c7
        clear c7
        (first | rw [c7b0] | (simp only [i64_w, i32_w]; rw [c7b0]) | skip)
        have H' := Aside0.mk H
        clear H
        have hcz8_0 : w4.cell? ⟨gb191, 0, none⟩ = some (.string a0_0) := (blk_cell BK191.out 0).trans rfl
        have hcz8_1 : w4.cell? ⟨gb191, 1, none⟩ = some (.int .i64 a0_1) := (blk_cell BK191.out 1).trans rfl
        have hcz8_2 : w4.cell? ⟨gb191, 2, none⟩ = some (.slice A0_2 l0_2.length c0_2) := (blk_cell BK191.out 2).trans rfl
        have hfz8_0 := blk_frozen BK191.out 0
        have hfz8_1 := blk_frozen BK191.out 1
        have hfz8_2 := blk_frozen BK191.out 2
        go_wp2
        repeat (go_quiet (fail); try go_wp2)
        go_meet
        case rel => exact ⟨_, (true), (by first | rfl | (simp; done) | (simp [*]; done)), H', ⟨by first | omega | exact Nat.le_refl _⟩, ⟨by (with_reducible repeat (first | refine blk_drewN ?_ _ | refine blk_drew ?_ | refine blk_alloc ?_ _)); exact BK191.out⟩, ⟨by repeat (first | (with_reducible first | exact HB.out | apply below_alloc | apply pw_below_drewN | apply below_drew1 | refine below_set ?_ GE191.out) | exact HB.out)⟩⟩
      · rw [if_neg c7] at H
        have c7b0 : decide (a0_1 < 1) = false := decide_eq_false c7
        clear c7
        (first | rw [c7b0] | (simp only [i64_w, i32_w]; rw [c7b0]) | skip)
        by_cases c9 : a0_1 > 1000
        · rw [if_pos c9] at H
          have c9b0 : decide (1000 < a0_1) = true := decide_eq_true c9
          clear c9
          have H' := Aside0.mk H
          clear H
          have hcz10_0 : w4.cell? ⟨gb191, 0, none⟩ = some (.string a0_0) := (blk_cell BK191.out 0).trans rfl
          have hcz10_1 : w4.cell? ⟨gb191, 1, none⟩ = some (.int .i64 a0_1) := (blk_cell BK191.out 1).trans rfl
          have hcz10_2 : w4.cell? ⟨gb191, 2, none⟩ = some (.slice A0_2 l0_2.length c0_2) := (blk_cell BK191.out 2).trans rfl
          have hfz10_0 := blk_frozen BK191.out 0
          have hfz10_1 := blk_frozen BK191.out 1
          have hfz10_2 := blk_frozen BK191.out 2
          go_wp2
          repeat (go_quiet (fail); try go_wp2)
          go_meet
          case rel => exact ⟨_, (true), (by first | rfl | (simp; done) | (simp [*]; done)), H', ⟨by first | omega | exact Nat.le_refl _⟩, ⟨by (with_reducible repeat (first | refine blk_drewN ?_ _ | refine blk_drew ?_ | refine blk_alloc ?_ _)); exact BK191.out⟩, ⟨by repeat (first | (with_reducible first | exact HB.out | apply below_alloc | apply pw_below_drewN | apply below_drew1 | refine below_set ?_ GE191.out) | exact HB.out)⟩⟩
        · rw [if_neg c9] at H
          have c9b0 : decide (1000 < a0_1) = false := decide_eq_false c9
          clear c9
          have H' := Aside0.mk H
          clear H
          have hcz11_0 : w4.cell? ⟨gb191, 0, none⟩ = some (.string a0_0) := (blk_cell BK191.out 0).trans rfl
          have hcz11_1 : w4.cell? ⟨gb191, 1, none⟩ = some (.int .i64 a0_1) := (blk_cell BK191.out 1).trans rfl
          have hcz11_2 : w4.cell? ⟨gb191, 2, none⟩ = some (.slice A0_2 l0_2.length c0_2) := (blk_cell BK191.out 2).trans rfl
          have hfz11_0 := blk_frozen BK191.out 0
          have hfz11_1 := blk_frozen BK191.out 1
          have hfz11_2 := blk_frozen BK191.out 2
          go_wp2
          repeat (go_quiet (fail); try go_wp2)
          go_meet
          case rel => exact ⟨_, (decide ((l0_2.length : Int) > 6)), (by first | rfl | (simp; done) | (simp [*]; done)), H', ⟨by first | omega | exact Nat.le_refl _⟩, ⟨by (with_reducible repeat (first | refine blk_drewN ?_ _ | refine blk_drew ?_ | refine blk_alloc ?_ _)); exact BK191.out⟩, ⟨by repeat (first | (with_reducible first | exact HB.out | apply below_alloc | apply pw_below_drewN | apply below_drew1 | refine below_set ?_ GE191.out) | exact HB.out)⟩⟩
    · replace c6 := Bool.eq_false_iff.mpr c6
      subst c6
      have H1 : (towncrierref05_May.j0 k true a0_0 a0_1 l0_2) = some r := by rw [if_neg (show ¬ (false = true) by decide)] at H; exact H
      clear H
      have H := H1
      clear H1
      have H' := Aside0.mk H
      clear H
      go_wp2
      repeat (go_quiet (fail); try go_wp2)
      go_meet
      case rel => exact ⟨_, (true), (by first | rfl | (simp; done) | (simp [*]; done)), H', ⟨by first | omega | exact Nat.le_refl _⟩, ⟨by (with_reducible repeat (first | refine blk_drewN ?_ _ | refine blk_drew ?_ | refine blk_alloc ?_ _)); exact BK191.out⟩, ⟨by repeat (first | (with_reducible first | exact HB.out | apply below_alloc | apply pw_below_drewN | apply below_drew1 | refine below_set ?_ GE191.out) | exact HB.out)⟩⟩
  case rest =>
    clear HC3
    try clear p2
    try clear c3
    try clear c6
    try clear c7
    try clear c7b0
    try clear c9
    try clear c9b0
    try clear hcz10_0
    try clear hcz10_1
    try clear hcz10_2
    try clear hcz11_0
    try clear hcz11_1
    try clear hcz11_2
    try clear hcz5_0
    try clear hcz5_1
    try clear hcz5_2
    try clear hcz8_0
    try clear hcz8_1
    try clear hcz8_2
    try clear hfz10_0
    try clear hfz10_1
    try clear hfz10_2
    try clear hfz11_0
    try clear hfz11_1
    try clear hfz11_2
    try clear hfz5_0
    try clear hfz5_1
    try clear hfz5_2
    try clear hfz8_0
    try clear hfz8_1
    try clear hfz8_2
    obtain ⟨kq, x27_2, rfl, HA, HJ2, BK191, HB⟩ := hcut
    cases kq with
    | zero => exact absurd HA.out (by simp [towncrierref05_May.j0])
    | succ kj2 =>
      have H := HA.out
      clear HA
      simp only [towncrierref05_May.j0] at H
      by_cases c12 : x27_2 = true
      · subst c12
        have H1 : (some false) = some r := by rw [if_pos rfl] at H; exact H
        clear H
        have H := H1
        clear H1
        obtain rfl := Option.some.inj H
        go_wp2
        repeat (go_quiet (fail); try go_wp2)
        go_ret
        exact ⟨by first | rfl | (simp [errW_none, errW_some] <;> rfl) | (simp [*, errW_none, errW_some] <;> rfl), by repeat (first | (with_reducible first | exact HB.out | apply below_alloc | apply pw_below_drewN | apply below_drew1 | refine below_set ?_ GE191.out) | exact HB.out)⟩
      · replace c12 := Bool.eq_false_iff.mpr c12
        subst c12
        have H1 : (towncrierref05_May.l0 kj2 0 a0_0 a0_1 l0_2) = some r := by rw [if_neg (show ¬ (false = true) by decide)] at H; exact H
        clear H
        have H := H1
        clear H1
        have H' := Aside0.mk H
        clear H
        go_wp2
        repeat (go_quiet (fail); try go_wp2)
        go_loopg [4] kj2 (fun kq v4 w' => ∃ (x4_2 : Int), v4 = .int .i64 x4_2 ∧ Aside0 (towncrierref05_May.l0 kq x4_2 a0_0 a0_1 l0_2 = some r) ∧ Aside0 (kq ≤ kj2) ∧ Aside0 (w'.heap[gb191]? = some (.cells #[.string a0_0, .int .i64 a0_1, (.slice A0_2 l0_2.length c0_2)] 25 (0, 0))) ∧ Aside0 (Below w.heap.size w w'))
        case atStart => exact ⟨(0), (by first | rfl | (simp; done) | (simp [*]; done)), H', ⟨Nat.le_refl _⟩, ⟨by (with_reducible repeat (first | refine blk_drewN ?_ _ | refine blk_drew ?_ | refine blk_alloc ?_ _)); exact BK191.out⟩, ⟨by repeat (first | (with_reducible first | exact HB.out | apply below_alloc | apply pw_below_drewN | apply below_drew1 | refine below_set ?_ GE191.out) | exact HB.out)⟩⟩
        case round =>
          clear H'
          try clear c1
          try clear p2
          try clear c3
          try clear c6
          try clear c7
          try clear c7b0
          try clear c9
          try clear c9b0
          try clear c12
          try clear hcz10_0
          try clear hcz10_1
          try clear hcz10_2
          try clear hcz11_0
          try clear hcz11_1
          try clear hcz11_2
          try clear hcz5_0
          try clear hcz5_1
          try clear hcz5_2
          try clear hcz8_0
          try clear hcz8_1
          try clear hcz8_2
          try clear hfz10_0
          try clear hfz10_1
          try clear hfz10_2
          try clear hfz11_0
          try clear hfz11_1
          try clear hfz11_2
          try clear hfz5_0
          try clear hfz5_1
          try clear hfz5_2
          try clear hfz8_0
          try clear hfz8_1
          try clear hfz8_2
          try clear p2
          obtain ⟨x4_2, rfl, HA, HK2, BK191, HB⟩ := hrel
          cases gk with
          | zero => exact absurd HA.out (by simp [towncrierref05_May.l0])
          | succ k2 =>
            have H := HA.out
            clear HA
            simp only [towncrierref05_May.l0] at H
            by_cases c13 : x4_2 < (l0_2.length : Int)
            · rw [if_pos c13] at H
              have c13b0 : decide (x4_2 < (l0_2.length : Int)) = true := decide_eq_true c13
              clear c13
              by_cases c14 : 0 ≤ x4_2
              · rw [if_pos c14] at H
                have c14b0 : decide (0 ≤ x4_2) = true := decide_eq_true c14
                clear c14
                replace H := Option.bind_eq_some_iff.mp H
                obtain ⟨t194, A150, H⟩ := H
                replace H : (if t194 = true then (if ((rd_TField l0_2 x4_2).f1) < 0 then (towncrierref05_May.j2 k2 x4_2 true a0_0 a0_1 l0_2) else (towncrierref05_May.j2 k2 x4_2 (decide (((rd_TField l0_2 x4_2).f1) ≥ 4)) a0_0 a0_1 l0_2)) else (towncrierref05_May.j2 k2 x4_2 true a0_0 a0_1 l0_2)) = some r := H
                have A15 := Aside0.mk A150
                clear A150
                have HC16 := Aside0.mk H
                clear H
                have hcz17_0 : wr.cell? ⟨gb191, 0, none⟩ = some (.string a0_0) := (blk_cell BK191.out 0).trans rfl
                have hcz17_1 : wr.cell? ⟨gb191, 1, none⟩ = some (.int .i64 a0_1) := (blk_cell BK191.out 1).trans rfl
                have hcz17_2 : wr.cell? ⟨gb191, 2, none⟩ = some (.slice A0_2 l0_2.length c0_2) := (blk_cell BK191.out 2).trans rfl
                have hfz17_0 := blk_frozen BK191.out 0
                have hfz17_1 := blk_frozen BK191.out 1
                have hfz17_2 := blk_frozen BK191.out 2
                have p193 : 0 ≤ (x4_2 : Int) := of_decide_eq_true (by first | (with_reducible assumption) | assumption)
                have q193 : x4_2 < (l0_2.length : Int) := of_decide_eq_true (by first | (with_reducible assumption) | assumption)
                obtain ⟨ad193, e193, hx193_0, hx193_1⟩ := at_TField HR0_2.out x4_2 p193 q193
                cases e193
                replace hx193_0 := (HB.out.cell (World.block_lt_of_cell? w _ hx193_0)).trans hx193_0
                replace hx193_1 := (HB.out.cell (World.block_lt_of_cell? w _ hx193_1)).trans hx193_1
                replace p193 := eq_true p193
                replace q193 := eq_true q193
                go_upto_region 8 with (first | (go_at_call 35; (with_reducible refine (towncrierref05_Name.calls k2 ((rd_TField l0_2 x4_2).f0) t194 _ A15.out).mono ?_); rintro e w' ⟨rfl, ⟨nd, rfl⟩⟩; (try first | exact ⟨rfl, _, World.drewN_drewN _ _ _⟩ | exact ⟨rfl, _, Eq.trans (World.drewN_drewN _ _ _) (congrArg (World.drewN _) (Nat.add_assoc _ _ _))⟩)))
                repeat (go_quiet (first | (go_at_call 35; (with_reducible refine (towncrierref05_Name.calls k2 ((rd_TField l0_2 x4_2).f0) t194 _ A15.out).mono ?_); rintro e w' ⟨rfl, ⟨nd, rfl⟩⟩; (try first | exact ⟨rfl, _, World.drewN_drewN _ _ _⟩ | exact ⟨rfl, _, Eq.trans (World.drewN_drewN _ _ _) (congrArg (World.drewN _) (Nat.add_assoc _ _ _))⟩))); go_upto_region 8 with (first | (go_at_call 35; (with_reducible refine (towncrierref05_Name.calls k2 ((rd_TField l0_2 x4_2).f0) t194 _ A15.out).mono ?_); rintro e w' ⟨rfl, ⟨nd, rfl⟩⟩; (try first | exact ⟨rfl, _, World.drewN_drewN _ _ _⟩ | exact ⟨rfl, _, Eq.trans (World.drewN_drewN _ _ _) (congrArg (World.drewN _) (Nat.add_assoc _ _ _))⟩))))
                (try simp only [Act.put, List.setIfInBounds_toArray, List.set_cons_zero, List.set_cons_succ])
                go_cut [61] (fun v61 wc => ∃ (kq : Nat) (x61_15 : Bool), v61 = .bool x61_15 ∧ Aside0 (towncrierref05_May.j2 kq x4_2 x61_15 a0_0 a0_1 l0_2 = some r) ∧ Aside0 (kq ≤ k2) ∧ Aside0 (wc.heap[gb191]? = some (.cells #[.string a0_0, .int .i64 a0_1, (.slice (some ad193) l0_2.length c0_2)] 25 (0, 0))) ∧ Aside0 (Below w.heap.size w wc))
                case first =>
                  have H := HC16.out
                  clear HC16
                  by_cases c18 : t194 = true
                  · subst c18
                    have H1 : (if ((rd_TField l0_2 x4_2).f1) < 0 then (towncrierref05_May.j2 k2 x4_2 true a0_0 a0_1 l0_2) else (towncrierref05_May.j2 k2 x4_2 (decide (((rd_TField l0_2 x4_2).f1) ≥ 4)) a0_0 a0_1 l0_2)) = some r := by rw [if_pos rfl] at H; exact H
                    clear H
                    have H := H1
                    clear H1
                    by_cases c19 : ((rd_TField l0_2 x4_2).f1) < 0
                    · rw [if_pos c19] at H
                      have c19b0 : decide (((rd_TField l0_2 x4_2).f1) < 0) = true := decide_eq_true c19
                      clear c19
                      (first | rw [c19b0] | (simp only [i64_w, i32_w]; rw [c19b0]) | skip)
                      have H' := Aside0.mk H
                      clear H
                      have hcz20_0 : wr.cell? ⟨gb191, 0, none⟩ = some (.string a0_0) := (blk_cell BK191.out 0).trans rfl
                      have hcz20_1 : wr.cell? ⟨gb191, 1, none⟩ = some (.int .i64 a0_1) := (blk_cell BK191.out 1).trans rfl
                      have hcz20_2 : wr.cell? ⟨gb191, 2, none⟩ = some (.slice (some ad193) l0_2.length c0_2) := (blk_cell BK191.out 2).trans rfl
                      have hfz20_0 := blk_frozen BK191.out 0
                      have hfz20_1 := blk_frozen BK191.out 1
                      have hfz20_2 := blk_frozen BK191.out 2
                      have p195 : 0 ≤ (x4_2 : Int) := of_decide_eq_true (by first | (with_reducible assumption) | assumption)
                      have q195 : x4_2 < (l0_2.length : Int) := of_decide_eq_true (by first | (with_reducible assumption) | assumption)
                      obtain ⟨ad195, e195, hx195_0, hx195_1⟩ := at_TField HR0_2.out x4_2 p195 q195
                      obtain rfl : ad193 = ad195 := (by injection e195)
                      replace hx195_0 := (HB.out.cell (World.block_lt_of_cell? w _ hx195_0)).trans hx195_0
                      replace hx195_1 := (HB.out.cell (World.block_lt_of_cell? w _ hx195_1)).trans hx195_1
                      replace p195 := eq_true p195
                      replace q195 := eq_true q195
                      go_wp2
                      repeat (go_quiet (fail); try go_wp2)
                      go_meet
                      case rel => exact ⟨_, (true), (by first | rfl | (simp; done) | (simp [*]; done)), H', ⟨by have := HJ2.out; have := HK2.out; first | omega | exact Nat.le_refl _⟩, ⟨by (with_reducible repeat (first | refine blk_drewN ?_ _ | refine blk_drew ?_ | refine blk_alloc ?_ _)); exact BK191.out⟩, ⟨by repeat (first | (with_reducible first | exact HB.out | apply below_alloc | apply pw_below_drewN | apply below_drew1 | refine below_set ?_ GE191.out) | exact HB.out)⟩⟩
                    · rw [if_neg c19] at H
                      have c19b0 : decide (((rd_TField l0_2 x4_2).f1) < 0) = false := decide_eq_false c19
                      clear c19
                      (first | rw [c19b0] | (simp only [i64_w, i32_w]; rw [c19b0]) | skip)
                      have H' := Aside0.mk H
                      clear H
                      have hcz21_0 : wr.cell? ⟨gb191, 0, none⟩ = some (.string a0_0) := (blk_cell BK191.out 0).trans rfl
                      have hcz21_1 : wr.cell? ⟨gb191, 1, none⟩ = some (.int .i64 a0_1) := (blk_cell BK191.out 1).trans rfl
                      have hcz21_2 : wr.cell? ⟨gb191, 2, none⟩ = some (.slice (some ad193) l0_2.length c0_2) := (blk_cell BK191.out 2).trans rfl
                      have hfz21_0 := blk_frozen BK191.out 0
                      have hfz21_1 := blk_frozen BK191.out 1
                      have hfz21_2 := blk_frozen BK191.out 2
                      have p195 : 0 ≤ (x4_2 : Int) := of_decide_eq_true (by first | (with_reducible assumption) | assumption)
                      have q195 : x4_2 < (l0_2.length : Int) := of_decide_eq_true (by first | (with_reducible assumption) | assumption)
                      obtain ⟨ad195, e195, hx195_0, hx195_1⟩ := at_TField HR0_2.out x4_2 p195 q195
                      obtain rfl : ad193 = ad195 := (by injection e195)
                      replace hx195_0 := (HB.out.cell (World.block_lt_of_cell? w _ hx195_0)).trans hx195_0
                      replace hx195_1 := (HB.out.cell (World.block_lt_of_cell? w _ hx195_1)).trans hx195_1
                      replace p195 := eq_true p195
                      replace q195 := eq_true q195
                      have p196 : 0 ≤ (x4_2 : Int) := of_decide_eq_true (by first | (with_reducible assumption) | assumption)
                      have q196 : x4_2 < (l0_2.length : Int) := of_decide_eq_true (by first | (with_reducible assumption) | assumption)
                      obtain ⟨ad196, e196, hx196_0, hx196_1⟩ := at_TField HR0_2.out x4_2 p196 q196
                      obtain rfl : ad193 = ad196 := (by injection e196)
                      replace hx196_0 := (HB.out.cell (World.block_lt_of_cell? w _ hx196_0)).trans hx196_0
                      replace hx196_1 := (HB.out.cell (World.block_lt_of_cell? w _ hx196_1)).trans hx196_1
                      replace p196 := eq_true p196
                      replace q196 := eq_true q196
                      go_wp2
                      repeat (go_quiet (fail); try go_wp2)
                      go_meet
                      case rel => exact ⟨_, (decide (((rd_TField l0_2 x4_2).f1) ≥ 4)), (by first | rfl | (simp; done) | (simp [*]; done)), H', ⟨by have := HJ2.out; have := HK2.out; first | omega | exact Nat.le_refl _⟩, ⟨by (with_reducible repeat (first | refine blk_drewN ?_ _ | refine blk_drew ?_ | refine blk_alloc ?_ _)); exact BK191.out⟩, ⟨by repeat (first | (with_reducible first | exact HB.out | apply below_alloc | apply pw_below_drewN | apply below_drew1 | refine below_set ?_ GE191.out) | exact HB.out)⟩⟩
                  · replace c18 := Bool.eq_false_iff.mpr c18
                    subst c18
                    have H1 : (towncrierref05_May.j2 k2 x4_2 true a0_0 a0_1 l0_2) = some r := by rw [if_neg (show ¬ (false = true) by decide)] at H; exact H
                    clear H
                    have H := H1
                    clear H1
                    have H' := Aside0.mk H
                    clear H
                    go_wp2
                    repeat (go_quiet (fail); try go_wp2)
                    go_meet
                    case rel => exact ⟨_, (true), (by first | rfl | (simp; done) | (simp [*]; done)), H', ⟨by have := HJ2.out; have := HK2.out; first | omega | exact Nat.le_refl _⟩, ⟨by (with_reducible repeat (first | refine blk_drewN ?_ _ | refine blk_drew ?_ | refine blk_alloc ?_ _)); exact BK191.out⟩, ⟨by repeat (first | (with_reducible first | exact HB.out | apply below_alloc | apply pw_below_drewN | apply below_drew1 | refine below_set ?_ GE191.out) | exact HB.out)⟩⟩
                case rest =>
                  clear HC16
                  try clear c1
                  try clear p1
                  try clear q1
                  try clear hx1
                  try clear p2
                  try clear c3
                  try clear c6
                  try clear c7
                  try clear c7b0
                  try clear c9
                  try clear c9b0
                  try clear c12
                  try clear c13
                  try clear c13b0
                  try clear c14
                  try clear c14b0
                  try clear c18
                  try clear c19
                  try clear c19b0
                  try clear p19
                  try clear q19
                  try clear hx19
                  try clear hcz10_0
                  try clear hcz10_1
                  try clear hcz10_2
                  try clear hcz11_0
                  try clear hcz11_1
                  try clear hcz11_2
                  try clear hcz17_0
                  try clear hcz17_1
                  try clear hcz17_2
                  try clear hcz20_0
                  try clear hcz20_1
                  try clear hcz20_2
                  try clear hcz21_0
                  try clear hcz21_1
                  try clear hcz21_2
                  try clear hcz5_0
                  try clear hcz5_1
                  try clear hcz5_2
                  try clear hcz8_0
                  try clear hcz8_1
                  try clear hcz8_2
                  try clear hfz10_0
                  try clear hfz10_1
                  try clear hfz10_2
                  try clear hfz11_0
                  try clear hfz11_1
                  try clear hfz11_2
                  try clear hfz17_0
                  try clear hfz17_1
                  try clear hfz17_2
                  try clear hfz20_0
                  try clear hfz20_1
                  try clear hfz20_2
                  try clear hfz21_0
                  try clear hfz21_1
                  try clear hfz21_2
                  try clear hfz5_0
                  try clear hfz5_1
                  try clear hfz5_2
                  try clear hfz8_0
                  try clear hfz8_1
                  try clear hfz8_2
                  try clear hx193_0
                  try clear hx193_1
                  try clear hx195_0
                  try clear hx195_1
                  try clear hx196_0
                  try clear hx196_1
                  try clear p193
                  try clear p195
                  try clear p196
                  try clear p2
                  try clear q193
                  try clear q195
                  try clear q196
                  obtain ⟨kq, x61_15, rfl, HA, HJ15, BK191, HB⟩ := hcut
                  cases kq with
                  | zero => exact absurd HA.out (by simp [towncrierref05_May.j2])
                  | succ kj15 =>
                    have H := HA.out
                    clear HA
                    simp only [towncrierref05_May.j2] at H
                    by_cases c22 : x61_15 = true
                    · subst c22
                      have H1 : (some false) = some r := by rw [if_pos rfl] at H; exact H
                      clear H
                      have H := H1
                      clear H1
                      obtain rfl := Option.some.inj H
                      go_wp2
                      repeat (go_quiet (fail); try go_wp2)
                      go_ret
                      exact ⟨by first | rfl | (simp [errW_none, errW_some] <;> rfl) | (simp [*, errW_none, errW_some] <;> rfl), by repeat (first | (with_reducible first | exact HB.out | apply below_alloc | apply pw_below_drewN | apply below_drew1 | refine below_set ?_ GE191.out) | exact HB.out)⟩
                    · replace c22 := Bool.eq_false_iff.mpr c22
                      subst c22
                      have H1 : (towncrierref05_May.l1 kj15 x4_2 0 a0_0 a0_1 l0_2) = some r := by rw [if_neg (show ¬ (false = true) by decide)] at H; exact H
                      clear H
                      have H := H1
                      clear H1
                      have H' := Aside0.mk H
                      clear H
                      go_wp2
                      repeat (go_quiet (fail); try go_wp2)
                      go_loopg [6] kj15 (fun kq v6 w' => ∃ (x6_4 : Int), v6 = .int .i64 x6_4 ∧ Aside0 (towncrierref05_May.l1 kq x4_2 x6_4 a0_0 a0_1 l0_2 = some r) ∧ Aside0 (kq ≤ kj15) ∧ Aside0 (w'.heap[gb191]? = some (.cells #[.string a0_0, .int .i64 a0_1, (.slice (some ad193) l0_2.length c0_2)] 25 (0, 0))) ∧ Aside0 (Below w.heap.size w w'))
                      case atStart => exact ⟨(0), (by first | rfl | (simp; done) | (simp [*]; done)), H', ⟨Nat.le_refl _⟩, ⟨by (with_reducible repeat (first | refine blk_drewN ?_ _ | refine blk_drew ?_ | refine blk_alloc ?_ _)); exact BK191.out⟩, ⟨by repeat (first | (with_reducible first | exact HB.out | apply below_alloc | apply pw_below_drewN | apply below_drew1 | refine below_set ?_ GE191.out) | exact HB.out)⟩⟩
                      case round =>
                        clear H'
                        try clear c1
                        try clear p1
                        try clear q1
                        try clear hx1
                        try clear c2
                        try clear p2
                        try clear c3
                        try clear c6
                        try clear c7
                        try clear c7b0
                        try clear c9
                        try clear c9b0
                        try clear c12
                        try clear c13
                        try clear c13b0
                        try clear c14
                        try clear c14b0
                        try clear c18
                        try clear c19
                        try clear c19b0
                        try clear p19
                        try clear q19
                        try clear hx19
                        try clear c22
                        try clear hcz10_0
                        try clear hcz10_1
                        try clear hcz10_2
                        try clear hcz11_0
                        try clear hcz11_1
                        try clear hcz11_2
                        try clear hcz17_0
                        try clear hcz17_1
                        try clear hcz17_2
                        try clear hcz20_0
                        try clear hcz20_1
                        try clear hcz20_2
                        try clear hcz21_0
                        try clear hcz21_1
                        try clear hcz21_2
                        try clear hcz5_0
                        try clear hcz5_1
                        try clear hcz5_2
                        try clear hcz8_0
                        try clear hcz8_1
                        try clear hcz8_2
                        try clear hfz10_0
                        try clear hfz10_1
                        try clear hfz10_2
                        try clear hfz11_0
                        try clear hfz11_1
                        try clear hfz11_2
                        try clear hfz17_0
                        try clear hfz17_1
                        try clear hfz17_2
                        try clear hfz20_0
                        try clear hfz20_1
                        try clear hfz20_2
                        try clear hfz21_0
                        try clear hfz21_1
                        try clear hfz21_2
                        try clear hfz5_0
                        try clear hfz5_1
                        try clear hfz5_2
                        try clear hfz8_0
                        try clear hfz8_1
                        try clear hfz8_2
                        try clear hx193_0
                        try clear hx193_1
                        try clear hx195_0
                        try clear hx195_1
                        try clear hx196_0
                        try clear hx196_1
                        try clear p1
                        try clear p19
                        try clear p193
                        try clear p195
                        try clear p196
                        try clear p2
                        try clear q1
                        try clear q19
                        try clear q193
                        try clear q195
                        try clear q196
                        obtain ⟨x6_4, rfl, HA, HK4, BK191, HB⟩ := hrel
                        cases gk with
                        | zero => exact absurd HA.out (by simp [towncrierref05_May.l1])
                        | succ k4 =>
                          have H := HA.out
                          clear HA
                          simp only [towncrierref05_May.l1] at H
                          by_cases c23 : x6_4 < x4_2
                          · rw [if_pos c23] at H
                            have c23b0 : decide (x6_4 < x4_2) = true := decide_eq_true c23
                            clear c23
                            by_cases c24 : 0 ≤ x6_4
                            · rw [if_pos c24] at H
                              have c24b0 : decide (0 ≤ x6_4) = true := decide_eq_true c24
                              clear c24
                              by_cases c25 : x6_4 < (l0_2.length : Int)
                              · rw [if_pos c25] at H
                                have c25b0 : decide (x6_4 < (l0_2.length : Int)) = true := decide_eq_true c25
                                clear c25
                                by_cases c26 : 0 ≤ x4_2
                                · rw [if_pos c26] at H
                                  have c26b0 : decide (0 ≤ x4_2) = true := decide_eq_true c26
                                  clear c26
                                  by_cases c27 : x4_2 < (l0_2.length : Int)
                                  · rw [if_pos c27] at H
                                    have c27b0 : decide (x4_2 < (l0_2.length : Int)) = true := decide_eq_true c27
                                    clear c27
                                    by_cases c28 : ((rd_TField l0_2 x6_4).f0).toList = ((rd_TField l0_2 x4_2).f0).toList
                                    · rw [if_pos c28] at H
                                      have c28b0 : (((rd_TField l0_2 x6_4).f0).toList == ((rd_TField l0_2 x4_2).f0).toList) = true := beq_iff_eq.mpr c28
                                      have c28b1 : (((rd_TField l0_2 x6_4).f0).toList != ((rd_TField l0_2 x4_2).f0).toList) = false := bne_eq_false_iff_eq.mpr c28
                                      clear c28
                                      obtain rfl := Option.some.inj H
                                      have hcz29_0 : wr.cell? ⟨gb191, 0, none⟩ = some (.string a0_0) := (blk_cell BK191.out 0).trans rfl
                                      have hcz29_1 : wr.cell? ⟨gb191, 1, none⟩ = some (.int .i64 a0_1) := (blk_cell BK191.out 1).trans rfl
                                      have hcz29_2 : wr.cell? ⟨gb191, 2, none⟩ = some (.slice (some ad193) l0_2.length c0_2) := (blk_cell BK191.out 2).trans rfl
                                      have hfz29_0 := blk_frozen BK191.out 0
                                      have hfz29_1 := blk_frozen BK191.out 1
                                      have hfz29_2 := blk_frozen BK191.out 2
                                      have p197 : 0 ≤ (x6_4 : Int) := of_decide_eq_true (by first | (with_reducible assumption) | assumption)
                                      have q197 : x6_4 < (l0_2.length : Int) := of_decide_eq_true (by first | (with_reducible assumption) | assumption)
                                      obtain ⟨ad197, e197, hx197_0, hx197_1⟩ := at_TField HR0_2.out x6_4 p197 q197
                                      obtain rfl : ad193 = ad197 := (by injection e197)
                                      replace hx197_0 := (HB.out.cell (World.block_lt_of_cell? w _ hx197_0)).trans hx197_0
                                      replace hx197_1 := (HB.out.cell (World.block_lt_of_cell? w _ hx197_1)).trans hx197_1
                                      replace p197 := eq_true p197
                                      replace q197 := eq_true q197
                                      have p198 : 0 ≤ (x4_2 : Int) := of_decide_eq_true (by first | (with_reducible assumption) | assumption)
                                      have q198 : x4_2 < (l0_2.length : Int) := of_decide_eq_true (by first | (with_reducible assumption) | assumption)
                                      obtain ⟨ad198, e198, hx198_0, hx198_1⟩ := at_TField HR0_2.out x4_2 p198 q198
                                      obtain rfl : ad193 = ad198 := (by injection e198)
                                      replace hx198_0 := (HB.out.cell (World.block_lt_of_cell? w _ hx198_0)).trans hx198_0
                                      replace hx198_1 := (HB.out.cell (World.block_lt_of_cell? w _ hx198_1)).trans hx198_1
                                      replace p198 := eq_true p198
                                      replace q198 := eq_true q198
                                      go_wp2
                                      repeat (go_quiet (fail); try go_wp2)
                                      go_ret
                                      exact ⟨by first | rfl | (simp [errW_none, errW_some] <;> rfl) | (simp [*, errW_none, errW_some] <;> rfl), by repeat (first | (with_reducible first | exact HB.out | apply below_alloc | apply pw_below_drewN | apply below_drew1 | refine below_set ?_ GE191.out) | exact HB.out)⟩
                                    · rw [if_neg c28] at H
                                      have c28b0 : (((rd_TField l0_2 x6_4).f0).toList == ((rd_TField l0_2 x4_2).f0).toList) = false := beq_eq_false_iff_ne.mpr c28
                                      have c28b1 : (((rd_TField l0_2 x6_4).f0).toList != ((rd_TField l0_2 x4_2).f0).toList) = true := bne_iff_ne.mpr c28
                                      have H' := Aside0.mk H
                                      clear H
                                      have hcz30_0 : wr.cell? ⟨gb191, 0, none⟩ = some (.string a0_0) := (blk_cell BK191.out 0).trans rfl
                                      have hcz30_1 : wr.cell? ⟨gb191, 1, none⟩ = some (.int .i64 a0_1) := (blk_cell BK191.out 1).trans rfl
                                      have hcz30_2 : wr.cell? ⟨gb191, 2, none⟩ = some (.slice (some ad193) l0_2.length c0_2) := (blk_cell BK191.out 2).trans rfl
                                      have hfz30_0 := blk_frozen BK191.out 0
                                      have hfz30_1 := blk_frozen BK191.out 1
                                      have hfz30_2 := blk_frozen BK191.out 2
                                      have p197 : 0 ≤ (x6_4 : Int) := of_decide_eq_true (by first | (with_reducible assumption) | assumption)
                                      have q197 : x6_4 < (l0_2.length : Int) := of_decide_eq_true (by first | (with_reducible assumption) | assumption)
                                      obtain ⟨ad197, e197, hx197_0, hx197_1⟩ := at_TField HR0_2.out x6_4 p197 q197
                                      obtain rfl : ad193 = ad197 := (by injection e197)
                                      replace hx197_0 := (HB.out.cell (World.block_lt_of_cell? w _ hx197_0)).trans hx197_0
                                      replace hx197_1 := (HB.out.cell (World.block_lt_of_cell? w _ hx197_1)).trans hx197_1
                                      replace p197 := eq_true p197
                                      replace q197 := eq_true q197
                                      have p198 : 0 ≤ (x4_2 : Int) := of_decide_eq_true (by first | (with_reducible assumption) | assumption)
                                      have q198 : x4_2 < (l0_2.length : Int) := of_decide_eq_true (by first | (with_reducible assumption) | assumption)
                                      obtain ⟨ad198, e198, hx198_0, hx198_1⟩ := at_TField HR0_2.out x4_2 p198 q198
                                      obtain rfl : ad193 = ad198 := (by injection e198)
                                      replace hx198_0 := (HB.out.cell (World.block_lt_of_cell? w _ hx198_0)).trans hx198_0
                                      replace hx198_1 := (HB.out.cell (World.block_lt_of_cell? w _ hx198_1)).trans hx198_1
                                      replace p198 := eq_true p198
                                      replace q198 := eq_true q198
                                      go_wp2
                                      repeat (go_quiet (fail); try go_wp2)
                                      go_roundg k4
                                      case measure => have := HJ2.out; have := HK2.out; have := HJ15.out; have := HK4.out; omega
                                      case rel => exact ⟨(wrap64 (x6_4 + 1)), (by first | rfl | (simp; done) | (simp [*]; done)), H', ⟨by have := HJ2.out; have := HK2.out; have := HJ15.out; have := HK4.out; omega⟩, ⟨by (with_reducible repeat (first | refine blk_drewN ?_ _ | refine blk_drew ?_ | refine blk_alloc ?_ _)); exact BK191.out⟩, ⟨by repeat (first | (with_reducible first | exact HB.out | apply below_alloc | apply pw_below_drewN | apply below_drew1 | refine below_set ?_ GE191.out) | exact HB.out)⟩⟩
                                  · rw [if_neg c27] at H
                                    exact absurd H (by simp)
                                · rw [if_neg c26] at H
                                  exact absurd H (by simp)
                              · rw [if_neg c25] at H
                                exact absurd H (by simp)
                            · rw [if_neg c24] at H
                              exact absurd H (by simp)
                          · rw [if_neg c23] at H
                            have c23b0 : decide (x6_4 < x4_2) = false := decide_eq_false c23
                            clear c23
                            have H' := Aside0.mk H
                            clear H
                            go_wp2
                            repeat (go_quiet (fail); try go_wp2)
                            go_roundg k4
                            case measure => have := HJ2.out; have := HK2.out; have := HJ15.out; have := HK4.out; omega
                            case rel => exact ⟨(wrap64 (x4_2 + 1)), (by first | rfl | (simp; done) | (simp [*]; done)), H', ⟨by have := HJ2.out; have := HK2.out; have := HJ15.out; have := HK4.out; omega⟩, ⟨by (with_reducible repeat (first | refine blk_drewN ?_ _ | refine blk_drew ?_ | refine blk_alloc ?_ _)); exact BK191.out⟩, ⟨by repeat (first | (with_reducible first | exact HB.out | apply below_alloc | apply pw_below_drewN | apply below_drew1 | refine below_set ?_ GE191.out) | exact HB.out)⟩⟩
              · rw [if_neg c14] at H
                exact absurd H (by simp)
            · rw [if_neg c13] at H
              have c13b0 : decide (x4_2 < (l0_2.length : Int)) = false := decide_eq_false c13
              clear c13
              obtain rfl := Option.some.inj H
              have hcz31_0 : wr.cell? ⟨gb191, 0, none⟩ = some (.string a0_0) := (blk_cell BK191.out 0).trans rfl
              have hcz31_1 : wr.cell? ⟨gb191, 1, none⟩ = some (.int .i64 a0_1) := (blk_cell BK191.out 1).trans rfl
              have hcz31_2 : wr.cell? ⟨gb191, 2, none⟩ = some (.slice A0_2 l0_2.length c0_2) := (blk_cell BK191.out 2).trans rfl
              have hfz31_0 := blk_frozen BK191.out 0
              have hfz31_1 := blk_frozen BK191.out 1
              have hfz31_2 := blk_frozen BK191.out 2
              go_wp2
              repeat (go_quiet (fail); try go_wp2)
              go_ret
              exact ⟨by first | rfl | (simp [errW_none, errW_some] <;> rfl) | (simp [*, errW_none, errW_some] <;> rfl), by repeat (first | (with_reducible first | exact HB.out | apply below_alloc | apply pw_below_drewN | apply below_drew1 | refine below_set ?_ GE191.out) | exact HB.out)⟩
theorem refMay_twice (nm : ByteArray) (ver : Int) (F : List SField) (i : Nat) (hi : i < F.length) (hF : F.length ≤ 6) (R : Option Bool) (h1 : mayB nm ver F = false → R = some false)
    (hok : nameB (F.getD i zField).f0 = true ∧ 0 ≤ (F.getD i zField).f1 ∧ (F.getD i zField).f1 < 4) : ∀ (d j k : Nat), j + d = i → (∀ k', k ≤ k' + d + 1 → fieldOK F i = true → towncrierref05_May.l0 k' ((i + 1 : Nat) : Int) nm ver F = R) → d < k → (∀ m, m < j → (F.getD m zField).f0.toList ≠ (F.getD i zField).f0.toList) →
    towncrierref05_May.l1 k (i : Int) (j : Int) nm ver F = R := by
  intro d
  induction d with
  | zero =>
    intro j k hj H hk h
    obtain ⟨k, rfl⟩ := rounds_of hk
    simp only [towncrierref05_May.l1]
    rw [if_neg (by omega), wrap_succ (by omega)]
    refine H k (by omega) ?_
    unfold fieldOK
    rw [hok.1, decide_eq_true hok.2.1, decide_eq_true hok.2.2]
    simp only [Bool.and_true, Bool.not_eq_true', List.any_eq_false]
    intro x hx
    obtain ⟨m, hm, rfl⟩ := List.mem_iff_getElem.1 hx
    rw [List.length_take] at hm
    have := h m (by omega)
    rw [List.getElem_take]
    have e : F.getD m zField = F[m]'(by omega) := by simp [List.getD, show m < F.length from by omega]
    rw [e] at this
    simpa using this
  | succ d ih =>
    intro j k hj H hk h
    obtain ⟨k, rfl⟩ := rounds_of hk
    simp only [towncrierref05_May.l1]
    rw [if_pos (by omega), if_pos (by omega), if_pos (by omega), if_pos (by omega), if_pos (by omega), wrap_succ (by omega)]
    rw [show rd_TField F (j : Int) = F.getD j zField from rfl, show rd_TField F (i : Int) = F.getD i zField from rfl]
    by_cases he : (F.getD j zField).f0.toList = (F.getD i zField).f0.toList
    · rw [if_pos he]
      refine (h1 (may_hit i hi ?_)).symm
      unfold fieldOK
      have : (F.take i).any (fun x => x.f0.toList == (F.getD i zField).f0.toList) = true := by
        rw [List.any_eq_true]
        refine ⟨F.getD j zField, ?_, by simpa using he⟩
        have e : F.getD j zField = F[j]'(by omega) := by simp [List.getD, show j < F.length from by omega]
        rw [e]
        exact List.mem_take_iff_getElem.2 ⟨j, by omega, rfl⟩
      rw [this]
      rfl
    · rw [if_neg he]
      exact ih (j + 1) k (by omega) (fun k' hk' => H k' (by omega)) (by omega) (fun m hm => by
        by_cases h2 : m < j
        · exact h m h2
        · obtain rfl : m = j := by omega
          exact he)
theorem refMay_loop (nm : ByteArray) (ver : Int) (F : List SField) (S : Nat) (hn : nameB nm = true) (h1 : 1 ≤ ver) (h2 : ver ≤ 1000) (hF : F.length ≤ 6) (hS : S < 4611686018427387904) (hs : ∀ i, i < F.length → (F.getD i zField).f0.size ≤ S) :
    ∀ (d i k : Nat), i + d = F.length → S + d * 10 + 10 < k → (∀ j, j < i → fieldOK F j = true) → towncrierref05_May.l0 k (i : Int) nm ver F = some (mayB nm ver F) := by
  intro d
  induction d with
  | zero =>
    intro i k hi hk h
    obtain ⟨k, rfl⟩ := rounds_of (show 0 < k by omega)
    simp only [towncrierref05_May.l0]
    rw [if_neg (by omega), may_all (fun j hj => h j (by omega)), hn, decide_eq_true h1, decide_eq_true h2, decide_eq_true hF]
    rfl
  | succ d ih =>
    intro i k hi hk h
    obtain ⟨k, rfl⟩ := rounds_of (show 0 < k by omega)
    simp only [towncrierref05_May.l0]
    rw [if_pos (by omega), if_pos (by omega), show rd_TField F (i : Int) = F.getD i zField from rfl, refName_is _ (hs i (by omega)) hS (by omega)]
    simp only [Option.bind_some]
    have hhit : fieldOK F i = false → mayB nm ver F = false := may_hit i (by omega)
    have hj2 : ∀ b, b = true → fieldOK F i = false → towncrierref05_May.j2 k (i : Int) b nm ver F = some (mayB nm ver F) := by
      intro b hb hf
      obtain ⟨k, rfl⟩ := rounds_of (show 0 < k by omega)
      simp only [towncrierref05_May.j2]
      rw [if_pos hb, hhit hf]
    by_cases hok : nameB (F.getD i zField).f0 = true ∧ 0 ≤ (F.getD i zField).f1 ∧ (F.getD i zField).f1 < 4
    · rw [if_pos hok.1, if_neg (by omega), decide_eq_false (by omega)]
      obtain ⟨k, rfl⟩ := rounds_of (show 0 < k by omega)
      simp only [towncrierref05_May.j2]
      rw [if_neg (by simp)]
      refine refMay_twice nm ver F i (by omega) hF _ (fun h => by rw [h]) hok i 0 k (by omega) (fun k' hk' hf => ?_) (by omega) (fun m hm => by omega)
      exact ih (i + 1) k' (by omega) (by omega) (all_next h hf)
    · have hf : fieldOK F i = false := by
        rw [← Bool.not_eq_true]
        intro h3
        exact hok (fieldOK_parts h3)
      by_cases ha : nameB (F.getD i zField).f0 = true
      · rw [if_pos ha]
        by_cases hb : (F.getD i zField).f1 < 0
        · rw [if_pos hb]; exact hj2 true rfl hf
        · have h4 : ¬ (F.getD i zField).f1 < 4 := fun h => hok ⟨ha, by omega, h⟩
          rw [if_neg hb]; exact hj2 _ (decide_eq_true (by omega)) hf
      · rw [if_neg ha]; exact hj2 true rfl hf
theorem refMay_is (nm : ByteArray) (ver : Int) (F : List SField) {S k : Nat} (hnm : nm.size ≤ S) (hS : S < 4611686018427387904) (hs : ∀ i, i < F.length → (F.getD i zField).f0.size ≤ S) (hk : S + 100 < k) : towncrierref05_May.f k nm ver F = some (mayB nm ver F) := by
  unfold towncrierref05_May.f
  rw [refName_is nm hnm hS (by omega)]
  simp only [Option.bind_some]
  have hj : ∀ b, b = true → mayB nm ver F = false → towncrierref05_May.j0 k b nm ver F = some (mayB nm ver F) := by
    intro b hb hf
    obtain ⟨k, rfl⟩ := rounds_of (show 0 < k by omega)
    simp only [towncrierref05_May.j0]
    rw [if_pos hb, hf]
  by_cases hn : nameB nm = true
  · rw [if_pos hn]
    by_cases h1 : ver < 1
    · rw [if_pos h1]
      exact hj true rfl (by unfold mayB; simp; omega)
    · rw [if_neg h1]
      by_cases h2 : ver > 1000
      · rw [if_pos h2]
        exact hj true rfl (by unfold mayB; simp; omega)
      · rw [if_neg h2]
        by_cases h3 : F.length ≤ 6
        · rw [decide_eq_false (by omega)]
          obtain ⟨k, rfl⟩ := rounds_of (show 0 < k by omega)
          simp only [towncrierref05_May.j0]
          rw [if_neg (by simp)]
          exact refMay_loop nm ver F S hn (by omega) (by omega) h3 hS hs F.length 0 k (by omega) (by omega) (fun j hj => by omega)
        · exact hj _ (decide_eq_true (by omega)) (by unfold mayB; simp; omega)
  · rw [if_neg hn]
    exact hj true rfl (by unfold mayB; simp [hn])
/-- Names as long as memory bears. -/
def okNames (x : SSchema) : Prop := x.f0.size ≤ 140737488351232 ∧ (∀ i, i < x.f2.length → (x.f2.getD i zField).f0.size ≤ 140737488351232) ∧ x.f2.length < 4611686018427387904
theorem refMay_told (x : SSchema) (A2 : Option Addr) (c2 : Nat) (w : World) (hr : Kd.C kField w A2 x.f2.length x.f2) (hc : x.f2.length ≤ c2) (hk : okNames x) :
    Calls Try.prog 36 #[.agg #[.string x.f0, .int .i64 x.f1, .slice A2 x.f2.length c2]] w (boolPost (mayS x) w) :=
  towncrierref05_May.calls 140737488361300 x.f0 x.f1 A2 c2 x.f2 (mayS x) w hr hc (refMay_is _ _ _ hk.1 (by decide) hk.2.1 (by decide))
theorem getF_names : ∀ (m : Nat) (l : List Int) (fs : List SField) (v : Nat), getF m l = some (fs, v) → fs.length = m ∧ ∀ f ∈ fs, f.f0.size ≤ 12
  | 0, l, fs, v, h => by simp only [getF, Option.some.injEq, Prod.mk.injEq] at h; obtain ⟨rfl, rfl⟩ := h; simp
  | m + 1, l, fs, v, h => by
    rw [getF] at h
    cases hg : readT l 12 with
    | none => rw [hg] at h; simp at h
    | some p =>
      obtain ⟨t, u⟩ := p
      rw [hg] at h
      simp only at h
      cases hd : l.drop u with
      | nil => rw [hd] at h; simp at h
      | cons k r =>
        rw [hd] at h
        simp only at h
        cases hf : getF m (l.drop (u + 1)) with
        | none => rw [hf] at h; simp at h
        | some q =>
          obtain ⟨gs, y⟩ := q
          rw [hf] at h
          simp only [Option.some.injEq, Prod.mk.injEq] at h
          obtain ⟨rfl, rfl⟩ := h
          obtain ⟨h1, h2⟩ := getF_names m _ gs y hf
          refine ⟨by simp [h1], fun f hm => ?_⟩
          rcases List.mem_cons.1 hm with rfl | hm
          · show (strOfNums t).size ≤ 12
            rw [strOfNums_size]
            exact (readT_used hg).2.1
          · exact h2 f hm
theorem getRaw_names {l : List Int} {x : SSchema} {n : Nat} (h : getRaw l = some (x, n)) : okNames x := by
  unfold getRaw at h
  cases hg : readT l 12 with
  | none => rw [hg] at h; simp at h
  | some p =>
    obtain ⟨t, u⟩ := p
    rw [hg] at h
    simp only at h
    cases hv : getM (l.drop u) 1000 with
    | none => rw [hv] at h; simp at h
    | some q =>
      obtain ⟨ver, v⟩ := q
      rw [hv] at h
      simp only at h
      cases hm : getM (l.drop (u + v)) 6 with
      | none => rw [hm] at h; simp at h
      | some r =>
        obtain ⟨many, y⟩ := r
        rw [hm] at h
        simp only at h
        unfold contF at h
        cases hf : getF many (l.drop (u + v + y)) with
        | none => rw [hf] at h; simp at h
        | some s =>
          obtain ⟨gs, z⟩ := s
          rw [hf] at h
          simp only [List.nil_append, Option.some.injEq, Prod.mk.injEq] at h
          obtain ⟨rfl, rfl⟩ := h
          obtain ⟨h1, h2⟩ := getF_names many _ gs z hf
          have h3 := (getM_used hm).2.1
          refine ⟨?_, fun i hi => ?_, by show gs.length < _; omega⟩
          · show (strOfNums t).size ≤ _
            rw [strOfNums_size]
            have := (readT_used hg).2.1
            omega
          · have hi' : i < gs.length := hi
            have := h2 (gs.getD i zField) (by simp [List.getD, hi'])
            show (gs.getD i zField).f0.size ≤ _
            omega

end Go.Proofs.Ytbgdamlidohfhaa.P

namespace Go.Proofs.Ytbgdamlidohfhaa.P
open Go.RowKit Go.Proofs.YtbgdamlidohfhaaW.PrintWords Go.Proofs.YtbgdamlidohfhaaW.PrintLast Go.Proofs.YtbgdamlidohfhaaW.PrintMore
attribute [local go_sem] max2_int min2_int max_two min_two max_three min_three max_four min_four   -- for this text's walks alone
set_option linter.unusedVariables false
set_option linter.unusedSimpArgs false

attribute [local go_sem high] eqAField
/-! ### towncrierref05_Fits: function 37 -/
mutual
def towncrierref05_Fits.j0 : Nat → Bool → ByteArray → Int → List (SField) → ByteArray → Int → List (SField) → Option (Bool)
  | 0, _, _, _, _, _, _, _ => none
  | k + 1, x41, x205000, x205001, x205002, x206000, x206001, x206002 => if x41 = true then (some false) else (towncrierref05_Fits.l0 k 0 x205000 x205001 x205002 x206000 x206001 x206002)
def towncrierref05_Fits.l0 : Nat → Int → ByteArray → Int → List (SField) → ByteArray → Int → List (SField) → Option (Bool)
  | 0, _, _, _, _, _, _, _ => none
  | k + 1, x7, x205000, x205001, x205002, x206000, x206001, x206002 => if x7 < (x205002.length : Int) then (if 0 ≤ x7 then (if x7 < (x206002.length : Int) then (if (!((((rd_TField x205002 x7).f0).toList) == (((rd_TField x206002 x7).f0).toList)) || (!(((rd_TField x205002 x7).f1) == ((rd_TField x206002 x7).f1)))) = true then (some false) else (towncrierref05_Fits.l0 k (wrap64 (x7 + 1)) x205000 x205001 x205002 x206000 x206001 x206002)) else (none)) else (none)) else (some true)
end
def towncrierref05_Fits.f (k : Nat) (a0_0 : ByteArray) (a0_1 : Int) (l0_2 : List (SField)) (a1_0 : ByteArray) (a1_1 : Int) (l1_2 : List (SField)) : Option (Bool) := (towncrierref05_May.f k a0_0 a0_1 l0_2).bind fun t206 => ((towncrierref05_May.f k a1_0 a1_1 l1_2).bind fun t207 => (if t206 = true then (if t207 = true then (if a0_0.toList = a1_0.toList then (if a1_1 = (wrap64 (a0_1 + 1)) then (towncrierref05_Fits.j0 k (decide ((l1_2.length : Int) < (l0_2.length : Int))) a0_0 a0_1 l0_2 a1_0 a1_1 l1_2) else (towncrierref05_Fits.j0 k true a0_0 a0_1 l0_2 a1_0 a1_1 l1_2)) else (towncrierref05_Fits.j0 k true a0_0 a0_1 l0_2 a1_0 a1_1 l1_2)) else (towncrierref05_Fits.j0 k true a0_0 a0_1 l0_2 a1_0 a1_1 l1_2)) else (towncrierref05_Fits.j0 k true a0_0 a0_1 l0_2 a1_0 a1_1 l1_2)))
theorem towncrierref05_Fits.mono_l : ∀ k, (∀ y0 y1 y2 y3 y4 y5 y6, LeO (towncrierref05_Fits.j0 k y0 y1 y2 y3 y4 y5 y6) (towncrierref05_Fits.j0 (k + 1) y0 y1 y2 y3 y4 y5 y6)) ∧ (∀ y0 y1 y2 y3 y4 y5 y6, LeO (towncrierref05_Fits.l0 k y0 y1 y2 y3 y4 y5 y6) (towncrierref05_Fits.l0 (k + 1) y0 y1 y2 y3 y4 y5 y6))
  | 0 => ⟨fun _ _ _ _ _ _ _ r h => by simp [towncrierref05_Fits.j0] at h, fun _ _ _ _ _ _ _ r h => by simp [towncrierref05_Fits.l0] at h⟩
  | k + 1 => by
    obtain ⟨ih0, ih1⟩ := towncrierref05_Fits.mono_l k
    refine ⟨?_, ?_⟩
    · intro y0 y1 y2 y3 y4 y5 y6
      unfold towncrierref05_Fits.j0
      repeat' first
      | (with_reducible exact ih0 _ _ _ _ _ _ _)
      | (with_reducible exact ih1 _ _ _ _ _ _ _)
      | (with_reducible exact towncrierref05_May.mono _ _ _ _)
      | (with_reducible exact LeO.refl _)
      | (with_reducible exact LeO.none _)
      | (with_reducible refine LeO.ite ?_ ?_)
      | (with_reducible refine LeO.bind ?_ (fun _ => ?_))
      | exact ih0 _ _ _ _ _ _ _
      | exact ih1 _ _ _ _ _ _ _
      | exact towncrierref05_May.mono _ _ _ _
      | exact LeO.none _
      | refine LeO.ite ?_ ?_
      | refine LeO.bind ?_ (fun _ => ?_)
    · intro y0 y1 y2 y3 y4 y5 y6
      unfold towncrierref05_Fits.l0
      repeat' first
      | (with_reducible exact ih0 _ _ _ _ _ _ _)
      | (with_reducible exact ih1 _ _ _ _ _ _ _)
      | (with_reducible exact towncrierref05_May.mono _ _ _ _)
      | (with_reducible exact LeO.refl _)
      | (with_reducible exact LeO.none _)
      | (with_reducible refine LeO.ite ?_ ?_)
      | (with_reducible refine LeO.bind ?_ (fun _ => ?_))
      | exact ih0 _ _ _ _ _ _ _
      | exact ih1 _ _ _ _ _ _ _
      | exact towncrierref05_May.mono _ _ _ _
      | exact LeO.none _
      | refine LeO.ite ?_ ?_
      | refine LeO.bind ?_ (fun _ => ?_)
theorem towncrierref05_Fits.mono : ∀ a0 a1 a2 a3 a4 a5 k, LeO (towncrierref05_Fits.f k a0 a1 a2 a3 a4 a5) (towncrierref05_Fits.f (k + 1) a0 a1 a2 a3 a4 a5) := by
  intro a0 a1 a2 a3 a4 a5 k
  obtain ⟨ih0, ih1⟩ := towncrierref05_Fits.mono_l k
  unfold towncrierref05_Fits.f
  repeat' first
      | (with_reducible exact ih0 _ _ _ _ _ _ _)
      | (with_reducible exact ih1 _ _ _ _ _ _ _)
      | (with_reducible exact towncrierref05_May.mono _ _ _ _)
      | (with_reducible exact LeO.refl _)
      | (with_reducible exact LeO.none _)
      | (with_reducible refine LeO.ite ?_ ?_)
      | (with_reducible refine LeO.bind ?_ (fun _ => ?_))
      | exact ih0 _ _ _ _ _ _ _
      | exact ih1 _ _ _ _ _ _ _
      | exact towncrierref05_May.mono _ _ _ _
      | exact LeO.none _
      | refine LeO.ite ?_ ?_
      | refine LeO.bind ?_ (fun _ => ?_)
set_option maxHeartbeats 8000000 in
set_option maxRecDepth 100000 in
theorem towncrierref05_Fits.calls (k : Nat) (a0_0 : ByteArray) (a0_1 : Int) (A0_2 : Option Addr) (c0_2 : Nat) (l0_2 : List (SField)) (a1_0 : ByteArray) (a1_1 : Int) (A1_2 : Option Addr) (c1_2 : Nat) (l1_2 : List (SField)) (r : Bool) (w : World) (hr0_2 : Kd.C kField w A0_2 l0_2.length l0_2) (hc0_2 : l0_2.length ≤ c0_2) (hr1_2 : Kd.C kField w A1_2 l1_2.length l1_2) (hc1_2 : l1_2.length ≤ c1_2) (h : towncrierref05_Fits.f k a0_0 a0_1 l0_2 a1_0 a1_1 l1_2 = some r) :
    Calls Try.prog 37 #[.agg #[.string a0_0, .int .i64 a0_1, .slice A0_2 l0_2.length c0_2], .agg #[.string a1_0, .int .i64 a1_1, .slice A1_2 l1_2.length c1_2]] w fun e w' => e = .returned (.bool r) ∧ Below w.heap.size w w' := by
  have hu25 := Try.underlying25
  have hu39 := Try.underlying39
  have HR0_2 := Aside0.mk hr0_2
  have HC0_2 := Aside0.mk hc0_2
  clear hr0_2 hc0_2
  have HR1_2 := Aside0.mk hr1_2
  have HC1_2 := Aside0.mk hc1_2
  clear hr1_2 hc1_2
  have HB := Aside0.mk (Below.refl w.heap.size w)
  have H : ((towncrierref05_May.f k a0_0 a0_1 l0_2).bind fun t206 => ((towncrierref05_May.f k a1_0 a1_1 l1_2).bind fun t207 => (if t206 = true then (if t207 = true then (if a0_0.toList = a1_0.toList then (if a1_1 = (wrap64 (a0_1 + 1)) then (towncrierref05_Fits.j0 k (decide ((l1_2.length : Int) < (l0_2.length : Int))) a0_0 a0_1 l0_2 a1_0 a1_1 l1_2) else (towncrierref05_Fits.j0 k true a0_0 a0_1 l0_2 a1_0 a1_1 l1_2)) else (towncrierref05_Fits.j0 k true a0_0 a0_1 l0_2 a1_0 a1_1 l1_2)) else (towncrierref05_Fits.j0 k true a0_0 a0_1 l0_2 a1_0 a1_1 l1_2)) else (towncrierref05_Fits.j0 k true a0_0 a0_1 l0_2 a1_0 a1_1 l1_2)))) = some r := h
  clear h
  replace H := Option.bind_eq_some_iff.mp H
  obtain ⟨t206, A30, H⟩ := H
  replace H : ((towncrierref05_May.f k a1_0 a1_1 l1_2).bind fun t207 => (if t206 = true then (if t207 = true then (if a0_0.toList = a1_0.toList then (if a1_1 = (wrap64 (a0_1 + 1)) then (towncrierref05_Fits.j0 k (decide ((l1_2.length : Int) < (l0_2.length : Int))) a0_0 a0_1 l0_2 a1_0 a1_1 l1_2) else (towncrierref05_Fits.j0 k true a0_0 a0_1 l0_2 a1_0 a1_1 l1_2)) else (towncrierref05_Fits.j0 k true a0_0 a0_1 l0_2 a1_0 a1_1 l1_2)) else (towncrierref05_Fits.j0 k true a0_0 a0_1 l0_2 a1_0 a1_1 l1_2)) else (towncrierref05_Fits.j0 k true a0_0 a0_1 l0_2 a1_0 a1_1 l1_2))) = some r := H
  have A3 := Aside0.mk A30
  clear A30
  replace H := Option.bind_eq_some_iff.mp H
  obtain ⟨t207, A40, H⟩ := H
  replace H : (if t206 = true then (if t207 = true then (if a0_0.toList = a1_0.toList then (if a1_1 = (wrap64 (a0_1 + 1)) then (towncrierref05_Fits.j0 k (decide ((l1_2.length : Int) < (l0_2.length : Int))) a0_0 a0_1 l0_2 a1_0 a1_1 l1_2) else (towncrierref05_Fits.j0 k true a0_0 a0_1 l0_2 a1_0 a1_1 l1_2)) else (towncrierref05_Fits.j0 k true a0_0 a0_1 l0_2 a1_0 a1_1 l1_2)) else (towncrierref05_Fits.j0 k true a0_0 a0_1 l0_2 a1_0 a1_1 l1_2)) else (towncrierref05_Fits.j0 k true a0_0 a0_1 l0_2 a1_0 a1_1 l1_2)) = some r := H
  have A4 := Aside0.mk A40
  clear A40
  have HC5 := Aside0.mk H
  clear H
  go_enter Try.func37, Try.ntmps37
  go_upto_region 3 with (first | ((with_reducible refine gate_dst (N := 2) rfl ?_); (try (refine gate_guard (by rfl) ?_; dsimp only)); refine box_event ?hg (N := 2) ?hd (cs := #[.string a0_0, .int .i64 a0_1, .slice A0_2 l0_2.length c0_2]) (t := 25) ?hr ?_; (case hd => rfl); (case hg => rfl); (case hr => first | (go_simp; done) | (go_simp; rfl)); intro gb204 hg w6 hbox hb; have n0_ := Aside0.mk (below_step (by repeat (first | (with_reducible first | exact HB.out | apply below_alloc | apply pw_below_drewN | apply below_drew1) | exact HB.out)) hb); have n1_ := Aside0.mk (hbox); have n2_ := Aside0.mk ((by rw [hg]; exact (below_size (by repeat (first | (with_reducible first | exact HB.out | apply below_alloc | apply pw_below_drewN | apply below_drew1) | exact HB.out))) : w.heap.size ≤ gb204)); have n3_ := Aside0.mk ((by rw [hg]; exact (below_size (by repeat (first | (with_reducible first | exact HB.out | apply below_alloc | apply pw_below_drewN | apply below_drew1) | exact HB.out))) : w.heap.size ≤ gb204)); clear HB; have HB := n0_; have BK204 := n1_; have GW204 := n2_; have GE204 := n3_; clear n0_ n1_ n2_ n3_; clear hb hbox hg) | ((with_reducible refine gate_dst (N := 3) rfl ?_); (try (refine gate_guard (by rfl) ?_; dsimp only)); refine box_event ?hg (N := 3) ?hd (cs := #[.string a1_0, .int .i64 a1_1, .slice A1_2 l1_2.length c1_2]) (t := 25) ?hr ?_; (case hd => rfl); (case hg => rfl); (case hr => first | (go_simp; done) | (go_simp; rfl)); intro gb205 hg w7 hbox hb; have n0_ := Aside0.mk (blk_below (g := gb204) (o := .cells #[.string a0_0, .int .i64 a0_1, .slice A0_2 l0_2.length c0_2] 25 (0, 0)) (by (with_reducible repeat (first | refine blk_drewN ?_ _ | refine blk_drew ?_ | refine blk_alloc ?_ _)); exact BK204.out) hb); have n1_ := Aside0.mk (below_step (by repeat (first | (with_reducible first | exact HB.out | apply below_alloc | apply pw_below_drewN | apply below_drew1 | refine below_set ?_ GE204.out) | exact HB.out)) hb); have n2_ := Aside0.mk (hbox); have n3_ := Aside0.mk ((by rw [hg]; exact (below_size (by repeat (first | (with_reducible first | exact HB.out | apply below_alloc | apply pw_below_drewN | apply below_drew1 | refine below_set ?_ GE204.out) | exact HB.out))) : w.heap.size ≤ gb205)); have n4_ := Aside0.mk ((by rw [hg]; exact (below_size (by repeat (first | (with_reducible first | exact HB.out | apply below_alloc | apply pw_below_drewN | apply below_drew1 | refine below_set ?_ GE204.out) | exact HB.out))) : w.heap.size ≤ gb205)); have n5_ := Aside0.mk ((by rw [hg]; exact Nat.ne_of_lt (blk_lt (g := gb204) (o := .cells #[.string a0_0, .int .i64 a0_1, .slice A0_2 l0_2.length c0_2] 25 (0, 0)) (by (with_reducible repeat (first | refine blk_drewN ?_ _ | refine blk_drew ?_ | refine blk_alloc ?_ _)); exact BK204.out)) : gb204 ≠ gb205)); have n6_ := Aside0.mk ((by rw [hg]; exact Nat.ne_of_gt (blk_lt (g := gb204) (o := .cells #[.string a0_0, .int .i64 a0_1, .slice A0_2 l0_2.length c0_2] 25 (0, 0)) (by (with_reducible repeat (first | refine blk_drewN ?_ _ | refine blk_drew ?_ | refine blk_alloc ?_ _)); exact BK204.out)) : gb205 ≠ gb204)); clear BK204; clear HB; have BK204 := n0_; have HB := n1_; have BK205 := n2_; have GW205 := n3_; have GE205 := n4_; have NB204_205 := n5_; have NB205_204 := n6_; clear n0_ n1_ n2_ n3_ n4_ n5_ n6_; clear hb hbox hg; have hnb8 := NB204_205.out; have hnc8 := NB205_204.out; have hcz9_0 : w7.cell? ⟨gb204, 0, none⟩ = some (.string a0_0) := (blk_cell BK204.out 0).trans rfl; have hcz9_1 : w7.cell? ⟨gb204, 1, none⟩ = some (.int .i64 a0_1) := (blk_cell BK204.out 1).trans rfl; have hcz9_2 : w7.cell? ⟨gb204, 2, none⟩ = some (.slice A0_2 l0_2.length c0_2) := (blk_cell BK204.out 2).trans rfl; have hfz9_0 := blk_frozen BK204.out 0; have hfz9_1 := blk_frozen BK204.out 1; have hfz9_2 := blk_frozen BK204.out 2) | (go_at_call 36; (with_reducible refine (towncrierref05_May.calls k a0_0 a0_1 _ _ l0_2 t206 _ ?side1 ?side2 A3.out).mono ?_); (case side1 => repeat (first | exact (Kd.C_below HR0_2.out HB.out) | (with_reducible refine Kd.C_alloc ?_ _) | (with_reducible refine Kd.C_drewN ?_ _) | (with_reducible refine Kd.C_drew ?_))); (case side2 => exact HC0_2.out); rintro e w10 ⟨rfl, hb⟩; have n0_ := Aside0.mk (blk_below (g := gb204) (o := .cells #[.string a0_0, .int .i64 a0_1, .slice A0_2 l0_2.length c0_2] 25 (0, 0)) (by (with_reducible repeat (first | refine blk_drewN ?_ _ | refine blk_drew ?_ | refine blk_alloc ?_ _)); exact BK204.out) hb); have n1_ := Aside0.mk (blk_below (g := gb205) (o := .cells #[.string a1_0, .int .i64 a1_1, .slice A1_2 l1_2.length c1_2] 25 (0, 0)) (by (with_reducible repeat (first | refine blk_drewN ?_ _ | refine blk_drew ?_ | refine blk_alloc ?_ _)); exact BK205.out) hb); have n2_ := Aside0.mk (below_step (by repeat (first | (with_reducible first | exact HB.out | apply below_alloc | apply pw_below_drewN | apply below_drew1 | refine below_set ?_ GE204.out | refine below_set ?_ GE205.out) | exact HB.out)) hb); clear BK204; clear BK205; clear HB; have BK204 := n0_; have BK205 := n1_; have HB := n2_; clear n0_ n1_ n2_; (try clear hb); (try clear hb2); (try clear hk); (try clear hi); have hcz11_0 : w10.cell? ⟨gb205, 0, none⟩ = some (.string a1_0) := (blk_cell BK205.out 0).trans rfl; have hcz11_1 : w10.cell? ⟨gb205, 1, none⟩ = some (.int .i64 a1_1) := (blk_cell BK205.out 1).trans rfl; have hcz11_2 : w10.cell? ⟨gb205, 2, none⟩ = some (.slice A1_2 l1_2.length c1_2) := (blk_cell BK205.out 2).trans rfl; have hfz11_0 := blk_frozen BK205.out 0; have hfz11_1 := blk_frozen BK205.out 1; have hfz11_2 := blk_frozen BK205.out 2) | (go_at_call 36; (with_reducible refine (towncrierref05_May.calls k a1_0 a1_1 _ _ l1_2 t207 _ ?side1 ?side2 A4.out).mono ?_); (case side1 => repeat (first | exact (Kd.C_below HR1_2.out HB.out) | (with_reducible refine Kd.C_alloc ?_ _) | (with_reducible refine Kd.C_drewN ?_ _) | (with_reducible refine Kd.C_drew ?_))); (case side2 => exact HC1_2.out); rintro e w12 ⟨rfl, hb⟩; have n0_ := Aside0.mk (blk_below (g := gb204) (o := .cells #[.string a0_0, .int .i64 a0_1, .slice A0_2 l0_2.length c0_2] 25 (0, 0)) (by (with_reducible repeat (first | refine blk_drewN ?_ _ | refine blk_drew ?_ | refine blk_alloc ?_ _)); exact BK204.out) hb); have n1_ := Aside0.mk (blk_below (g := gb205) (o := .cells #[.string a1_0, .int .i64 a1_1, .slice A1_2 l1_2.length c1_2] 25 (0, 0)) (by (with_reducible repeat (first | refine blk_drewN ?_ _ | refine blk_drew ?_ | refine blk_alloc ?_ _)); exact BK205.out) hb); have n2_ := Aside0.mk (below_step (by repeat (first | (with_reducible first | exact HB.out | apply below_alloc | apply pw_below_drewN | apply below_drew1 | refine below_set ?_ GE204.out | refine below_set ?_ GE205.out) | exact HB.out)) hb); clear BK204; clear BK205; clear HB; have BK204 := n0_; have BK205 := n1_; have HB := n2_; clear n0_ n1_ n2_; (try clear hb); (try clear hb2); (try clear hk); (try clear hi)))
  repeat (go_quiet (first | ((with_reducible refine gate_dst (N := 2) rfl ?_); (try (refine gate_guard (by rfl) ?_; dsimp only)); refine box_event ?hg (N := 2) ?hd (cs := #[.string a0_0, .int .i64 a0_1, .slice A0_2 l0_2.length c0_2]) (t := 25) ?hr ?_; (case hd => rfl); (case hg => rfl); (case hr => first | (go_simp; done) | (go_simp; rfl)); intro gb204 hg w6 hbox hb; have n0_ := Aside0.mk (below_step (by repeat (first | (with_reducible first | exact HB.out | apply below_alloc | apply pw_below_drewN | apply below_drew1) | exact HB.out)) hb); have n1_ := Aside0.mk (hbox); have n2_ := Aside0.mk ((by rw [hg]; exact (below_size (by repeat (first | (with_reducible first | exact HB.out | apply below_alloc | apply pw_below_drewN | apply below_drew1) | exact HB.out))) : w.heap.size ≤ gb204)); have n3_ := Aside0.mk ((by rw [hg]; exact (below_size (by repeat (first | (with_reducible first | exact HB.out | apply below_alloc | apply pw_below_drewN | apply below_drew1) | exact HB.out))) : w.heap.size ≤ gb204)); clear HB; have HB := n0_; have BK204 := n1_; have GW204 := n2_; have GE204 := n3_; clear n0_ n1_ n2_ n3_; clear hb hbox hg) | ((with_reducible refine gate_dst (N := 3) rfl ?_); (try (refine gate_guard (by rfl) ?_; dsimp only)); refine box_event ?hg (N := 3) ?hd (cs := #[.string a1_0, .int .i64 a1_1, .slice A1_2 l1_2.length c1_2]) (t := 25) ?hr ?_; (case hd => rfl); (case hg => rfl); (case hr => first | (go_simp; done) | (go_simp; rfl)); intro gb205 hg w7 hbox hb; have n0_ := Aside0.mk (blk_below (g := gb204) (o := .cells #[.string a0_0, .int .i64 a0_1, .slice A0_2 l0_2.length c0_2] 25 (0, 0)) (by (with_reducible repeat (first | refine blk_drewN ?_ _ | refine blk_drew ?_ | refine blk_alloc ?_ _)); exact BK204.out) hb); have n1_ := Aside0.mk (below_step (by repeat (first | (with_reducible first | exact HB.out | apply below_alloc | apply pw_below_drewN | apply below_drew1 | refine below_set ?_ GE204.out) | exact HB.out)) hb); have n2_ := Aside0.mk (hbox); have n3_ := Aside0.mk ((by rw [hg]; exact (below_size (by repeat (first | (with_reducible first | exact HB.out | apply below_alloc | apply pw_below_drewN | apply below_drew1 | refine below_set ?_ GE204.out) | exact HB.out))) : w.heap.size ≤ gb205)); have n4_ := Aside0.mk ((by rw [hg]; exact (below_size (by repeat (first | (with_reducible first | exact HB.out | apply below_alloc | apply pw_below_drewN | apply below_drew1 | refine below_set ?_ GE204.out) | exact HB.out))) : w.heap.size ≤ gb205)); have n5_ := Aside0.mk ((by rw [hg]; exact Nat.ne_of_lt (blk_lt (g := gb204) (o := .cells #[.string a0_0, .int .i64 a0_1, .slice A0_2 l0_2.length c0_2] 25 (0, 0)) (by (with_reducible repeat (first | refine blk_drewN ?_ _ | refine blk_drew ?_ | refine blk_alloc ?_ _)); exact BK204.out)) : gb204 ≠ gb205)); have n6_ := Aside0.mk ((by rw [hg]; exact Nat.ne_of_gt (blk_lt (g := gb204) (o := .cells #[.string a0_0, .int .i64 a0_1, .slice A0_2 l0_2.length c0_2] 25 (0, 0)) (by (with_reducible repeat (first | refine blk_drewN ?_ _ | refine blk_drew ?_ | refine blk_alloc ?_ _)); exact BK204.out)) : gb205 ≠ gb204)); clear BK204; clear HB; have BK204 := n0_; have HB := n1_; have BK205 := n2_; have GW205 := n3_; have GE205 := n4_; have NB204_205 := n5_; have NB205_204 := n6_; clear n0_ n1_ n2_ n3_ n4_ n5_ n6_; clear hb hbox hg; have hnb8 := NB204_205.out; have hnc8 := NB205_204.out; have hcz9_0 : w7.cell? ⟨gb204, 0, none⟩ = some (.string a0_0) := (blk_cell BK204.out 0).trans rfl; have hcz9_1 : w7.cell? ⟨gb204, 1, none⟩ = some (.int .i64 a0_1) := (blk_cell BK204.out 1).trans rfl; have hcz9_2 : w7.cell? ⟨gb204, 2, none⟩ = some (.slice A0_2 l0_2.length c0_2) := (blk_cell BK204.out 2).trans rfl; have hfz9_0 := blk_frozen BK204.out 0; have hfz9_1 := blk_frozen BK204.out 1; have hfz9_2 := blk_frozen BK204.out 2) | (go_at_call 36; (with_reducible refine (towncrierref05_May.calls k a0_0 a0_1 _ _ l0_2 t206 _ ?side1 ?side2 A3.out).mono ?_); (case side1 => repeat (first | exact (Kd.C_below HR0_2.out HB.out) | (with_reducible refine Kd.C_alloc ?_ _) | (with_reducible refine Kd.C_drewN ?_ _) | (with_reducible refine Kd.C_drew ?_))); (case side2 => exact HC0_2.out); rintro e w10 ⟨rfl, hb⟩; have n0_ := Aside0.mk (blk_below (g := gb204) (o := .cells #[.string a0_0, .int .i64 a0_1, .slice A0_2 l0_2.length c0_2] 25 (0, 0)) (by (with_reducible repeat (first | refine blk_drewN ?_ _ | refine blk_drew ?_ | refine blk_alloc ?_ _)); exact BK204.out) hb); have n1_ := Aside0.mk (blk_below (g := gb205) (o := .cells #[.string a1_0, .int .i64 a1_1, .slice A1_2 l1_2.length c1_2] 25 (0, 0)) (by (with_reducible repeat (first | refine blk_drewN ?_ _ | refine blk_drew ?_ | refine blk_alloc ?_ _)); exact BK205.out) hb); have n2_ := Aside0.mk (below_step (by repeat (first | (with_reducible first | exact HB.out | apply below_alloc | apply pw_below_drewN | apply below_drew1 | refine below_set ?_ GE204.out | refine below_set ?_ GE205.out) | exact HB.out)) hb); clear BK204; clear BK205; clear HB; have BK204 := n0_; have BK205 := n1_; have HB := n2_; clear n0_ n1_ n2_; (try clear hb); (try clear hb2); (try clear hk); (try clear hi); have hcz11_0 : w10.cell? ⟨gb205, 0, none⟩ = some (.string a1_0) := (blk_cell BK205.out 0).trans rfl; have hcz11_1 : w10.cell? ⟨gb205, 1, none⟩ = some (.int .i64 a1_1) := (blk_cell BK205.out 1).trans rfl; have hcz11_2 : w10.cell? ⟨gb205, 2, none⟩ = some (.slice A1_2 l1_2.length c1_2) := (blk_cell BK205.out 2).trans rfl; have hfz11_0 := blk_frozen BK205.out 0; have hfz11_1 := blk_frozen BK205.out 1; have hfz11_2 := blk_frozen BK205.out 2) | (go_at_call 36; (with_reducible refine (towncrierref05_May.calls k a1_0 a1_1 _ _ l1_2 t207 _ ?side1 ?side2 A4.out).mono ?_); (case side1 => repeat (first | exact (Kd.C_below HR1_2.out HB.out) | (with_reducible refine Kd.C_alloc ?_ _) | (with_reducible refine Kd.C_drewN ?_ _) | (with_reducible refine Kd.C_drew ?_))); (case side2 => exact HC1_2.out); rintro e w12 ⟨rfl, hb⟩; have n0_ := Aside0.mk (blk_below (g := gb204) (o := .cells #[.string a0_0, .int .i64 a0_1, .slice A0_2 l0_2.length c0_2] 25 (0, 0)) (by (with_reducible repeat (first | refine blk_drewN ?_ _ | refine blk_drew ?_ | refine blk_alloc ?_ _)); exact BK204.out) hb); have n1_ := Aside0.mk (blk_below (g := gb205) (o := .cells #[.string a1_0, .int .i64 a1_1, .slice A1_2 l1_2.length c1_2] 25 (0, 0)) (by (with_reducible repeat (first | refine blk_drewN ?_ _ | refine blk_drew ?_ | refine blk_alloc ?_ _)); exact BK205.out) hb); have n2_ := Aside0.mk (below_step (by repeat (first | (with_reducible first | exact HB.out | apply below_alloc | apply pw_below_drewN | apply below_drew1 | refine below_set ?_ GE204.out | refine below_set ?_ GE205.out) | exact HB.out)) hb); clear BK204; clear BK205; clear HB; have BK204 := n0_; have BK205 := n1_; have HB := n2_; clear n0_ n1_ n2_; (try clear hb); (try clear hb2); (try clear hk); (try clear hi))); go_upto_region 3 with (first | ((with_reducible refine gate_dst (N := 2) rfl ?_); (try (refine gate_guard (by rfl) ?_; dsimp only)); refine box_event ?hg (N := 2) ?hd (cs := #[.string a0_0, .int .i64 a0_1, .slice A0_2 l0_2.length c0_2]) (t := 25) ?hr ?_; (case hd => rfl); (case hg => rfl); (case hr => first | (go_simp; done) | (go_simp; rfl)); intro gb204 hg w6 hbox hb; have n0_ := Aside0.mk (below_step (by repeat (first | (with_reducible first | exact HB.out | apply below_alloc | apply pw_below_drewN | apply below_drew1) | exact HB.out)) hb); have n1_ := Aside0.mk (hbox); have n2_ := Aside0.mk ((by rw [hg]; exact (below_size (by repeat (first | (with_reducible first | exact HB.out | apply below_alloc | apply pw_below_drewN | apply below_drew1) | exact HB.out))) : w.heap.size ≤ gb204)); have n3_ := Aside0.mk ((by rw [hg]; exact (below_size (by repeat (first | (with_reducible first | exact HB.out | apply below_alloc | apply pw_below_drewN | apply below_drew1) | exact HB.out))) : w.heap.size ≤ gb204)); clear HB; have HB := n0_; have BK204 := n1_; have GW204 := n2_; have GE204 := n3_; clear n0_ n1_ n2_ n3_; clear hb hbox hg) | ((with_reducible refine gate_dst (N := 3) rfl ?_); (try (refine gate_guard (by rfl) ?_; dsimp only)); refine box_event ?hg (N := 3) ?hd (cs := #[.string a1_0, .int .i64 a1_1, .slice A1_2 l1_2.length c1_2]) (t := 25) ?hr ?_; (case hd => rfl); (case hg => rfl); (case hr => first | (go_simp; done) | (go_simp; rfl)); intro gb205 hg w7 hbox hb; have n0_ := Aside0.mk (blk_below (g := gb204) (o := .cells #[.string a0_0, .int .i64 a0_1, .slice A0_2 l0_2.length c0_2] 25 (0, 0)) (by (with_reducible repeat (first | refine blk_drewN ?_ _ | refine blk_drew ?_ | refine blk_alloc ?_ _)); exact BK204.out) hb); have n1_ := Aside0.mk (below_step (by repeat (first | (with_reducible first | exact HB.out | apply below_alloc | apply pw_below_drewN | apply below_drew1 | refine below_set ?_ GE204.out) | exact HB.out)) hb); have n2_ := Aside0.mk (hbox); have n3_ := Aside0.mk ((by rw [hg]; exact (below_size (by repeat (first | (with_reducible first | exact HB.out | apply below_alloc | apply pw_below_drewN | apply below_drew1 | refine below_set ?_ GE204.out) | exact HB.out))) : w.heap.size ≤ gb205)); have n4_ := Aside0.mk ((by rw [hg]; exact (below_size (by repeat (first | (with_reducible first | exact HB.out | apply below_alloc | apply pw_below_drewN | apply below_drew1 | refine below_set ?_ GE204.out) | exact HB.out))) : w.heap.size ≤ gb205)); have n5_ := Aside0.mk ((by rw [hg]; exact Nat.ne_of_lt (blk_lt (g := gb204) (o := .cells #[.string a0_0, .int .i64 a0_1, .slice A0_2 l0_2.length c0_2] 25 (0, 0)) (by (with_reducible repeat (first | refine blk_drewN ?_ _ | refine blk_drew ?_ | refine blk_alloc ?_ _)); exact BK204.out)) : gb204 ≠ gb205)); have n6_ := Aside0.mk ((by rw [hg]; exact Nat.ne_of_gt (blk_lt (g := gb204) (o := .cells #[.string a0_0, .int .i64 a0_1, .slice A0_2 l0_2.length c0_2] 25 (0, 0)) (by (with_reducible repeat (first | refine blk_drewN ?_ _ | refine blk_drew ?_ | refine blk_alloc ?_ _)); exact BK204.out)) : gb205 ≠ gb204)); clear BK204; clear HB; have BK204 := n0_; have HB := n1_; have BK205 := n2_; have GW205 := n3_; have GE205 := n4_; have NB204_205 := n5_; have NB205_204 := n6_; clear n0_ n1_ n2_ n3_ n4_ n5_ n6_; clear hb hbox hg; have hnb8 := NB204_205.out; have hnc8 := NB205_204.out; have hcz9_0 : w7.cell? ⟨gb204, 0, none⟩ = some (.string a0_0) := (blk_cell BK204.out 0).trans rfl; have hcz9_1 : w7.cell? ⟨gb204, 1, none⟩ = some (.int .i64 a0_1) := (blk_cell BK204.out 1).trans rfl; have hcz9_2 : w7.cell? ⟨gb204, 2, none⟩ = some (.slice A0_2 l0_2.length c0_2) := (blk_cell BK204.out 2).trans rfl; have hfz9_0 := blk_frozen BK204.out 0; have hfz9_1 := blk_frozen BK204.out 1; have hfz9_2 := blk_frozen BK204.out 2) | (go_at_call 36; (with_reducible refine (towncrierref05_May.calls k a0_0 a0_1 _ _ l0_2 t206 _ ?side1 ?side2 A3.out).mono ?_); (case side1 => repeat (first | exact (Kd.C_below HR0_2.out HB.out) | (with_reducible refine Kd.C_alloc ?_ _) | (with_reducible refine Kd.C_drewN ?_ _) | (with_reducible refine Kd.C_drew ?_))); (case side2 => exact HC0_2.out); rintro e w10 ⟨rfl, hb⟩; have n0_ := Aside0.mk (blk_below (g := gb204) (o := .cells #[.string a0_0, .int .i64 a0_1, .slice A0_2 l0_2.length c0_2] 25 (0, 0)) (by (with_reducible repeat (first | refine blk_drewN ?_ _ | refine blk_drew ?_ | refine blk_alloc ?_ _)); exact BK204.out) hb); have n1_ := Aside0.mk (blk_below (g := gb205) (o := .cells #[.string a1_0, .int .i64 a1_1, .slice A1_2 l1_2.length c1_2] 25 (0, 0)) (by (with_reducible repeat (first | refine blk_drewN ?_ _ | refine blk_drew ?_ | refine blk_alloc ?_ _)); exact BK205.out) hb); have n2_ := Aside0.mk (below_step (by repeat (first | (with_reducible first | exact HB.out | apply below_alloc | apply pw_below_drewN | apply below_drew1 | refine below_set ?_ GE204.out | refine below_set ?_ GE205.out) | exact HB.out)) hb); clear BK204; clear BK205; clear HB; have BK204 := n0_; have BK205 := n1_; have HB := n2_; clear n0_ n1_ n2_; (try clear hb); (try clear hb2); (try clear hk); (try clear hi); have hcz11_0 : w10.cell? ⟨gb205, 0, none⟩ = some (.string a1_0) := (blk_cell BK205.out 0).trans rfl; have hcz11_1 : w10.cell? ⟨gb205, 1, none⟩ = some (.int .i64 a1_1) := (blk_cell BK205.out 1).trans rfl; have hcz11_2 : w10.cell? ⟨gb205, 2, none⟩ = some (.slice A1_2 l1_2.length c1_2) := (blk_cell BK205.out 2).trans rfl; have hfz11_0 := blk_frozen BK205.out 0; have hfz11_1 := blk_frozen BK205.out 1; have hfz11_2 := blk_frozen BK205.out 2) | (go_at_call 36; (with_reducible refine (towncrierref05_May.calls k a1_0 a1_1 _ _ l1_2 t207 _ ?side1 ?side2 A4.out).mono ?_); (case side1 => repeat (first | exact (Kd.C_below HR1_2.out HB.out) | (with_reducible refine Kd.C_alloc ?_ _) | (with_reducible refine Kd.C_drewN ?_ _) | (with_reducible refine Kd.C_drew ?_))); (case side2 => exact HC1_2.out); rintro e w12 ⟨rfl, hb⟩; have n0_ := Aside0.mk (blk_below (g := gb204) (o := .cells #[.string a0_0, .int .i64 a0_1, .slice A0_2 l0_2.length c0_2] 25 (0, 0)) (by (with_reducible repeat (first | refine blk_drewN ?_ _ | refine blk_drew ?_ | refine blk_alloc ?_ _)); exact BK204.out) hb); have n1_ := Aside0.mk (blk_below (g := gb205) (o := .cells #[.string a1_0, .int .i64 a1_1, .slice A1_2 l1_2.length c1_2] 25 (0, 0)) (by (with_reducible repeat (first | refine blk_drewN ?_ _ | refine blk_drew ?_ | refine blk_alloc ?_ _)); exact BK205.out) hb); have n2_ := Aside0.mk (below_step (by repeat (first | (with_reducible first | exact HB.out | apply below_alloc | apply pw_below_drewN | apply below_drew1 | refine below_set ?_ GE204.out | refine below_set ?_ GE205.out) | exact HB.out)) hb); clear BK204; clear BK205; clear HB; have BK204 := n0_; have BK205 := n1_; have HB := n2_; clear n0_ n1_ n2_; (try clear hb); (try clear hb2); (try clear hk); (try clear hi))))
  (try simp only [Act.put, List.setIfInBounds_toArray, List.set_cons_zero, List.set_cons_succ])
  go_cut [41] (fun v41 wc => ∃ (kq : Nat) (x41_4 : Bool), v41 = .bool x41_4 ∧ Aside0 (towncrierref05_Fits.j0 kq x41_4 a0_0 a0_1 l0_2 a1_0 a1_1 l1_2 = some r) ∧ Aside0 (kq ≤ k) ∧ Aside0 (wc.heap[gb204]? = some (.cells #[.string a0_0, .int .i64 a0_1, (.slice A0_2 l0_2.length c0_2)] 25 (0, 0))) ∧ Aside0 (wc.heap[gb205]? = some (.cells #[.string a1_0, .int .i64 a1_1, (.slice A1_2 l1_2.length c1_2)] 25 (0, 0))) ∧ Aside0 (Below w.heap.size w wc))
  case first =>
    have H := HC5.out
    clear HC5
    by_cases c13 : t206 = true
    · subst c13
      have H1 : (if t207 = true then (if a0_0.toList = a1_0.toList then (if a1_1 = (wrap64 (a0_1 + 1)) then (towncrierref05_Fits.j0 k (decide ((l1_2.length : Int) < (l0_2.length : Int))) a0_0 a0_1 l0_2 a1_0 a1_1 l1_2) else (towncrierref05_Fits.j0 k true a0_0 a0_1 l0_2 a1_0 a1_1 l1_2)) else (towncrierref05_Fits.j0 k true a0_0 a0_1 l0_2 a1_0 a1_1 l1_2)) else (towncrierref05_Fits.j0 k true a0_0 a0_1 l0_2 a1_0 a1_1 l1_2)) = some r := by rw [if_pos rfl] at H; exact H
      clear H
      have H := H1
      clear H1
      by_cases c14 : t207 = true
      · subst c14
        have H1 : (if a0_0.toList = a1_0.toList then (if a1_1 = (wrap64 (a0_1 + 1)) then (towncrierref05_Fits.j0 k (decide ((l1_2.length : Int) < (l0_2.length : Int))) a0_0 a0_1 l0_2 a1_0 a1_1 l1_2) else (towncrierref05_Fits.j0 k true a0_0 a0_1 l0_2 a1_0 a1_1 l1_2)) else (towncrierref05_Fits.j0 k true a0_0 a0_1 l0_2 a1_0 a1_1 l1_2)) = some r := by rw [if_pos rfl] at H; exact H
        clear H
        have H := H1
        clear H1
        by_cases c15 : a0_0.toList = a1_0.toList
        · rw [if_pos c15] at H
          have c15b0 : (a0_0.toList == a1_0.toList) = true := beq_iff_eq.mpr c15
          have c15b1 : (a0_0.toList != a1_0.toList) = false := bne_eq_false_iff_eq.mpr c15
          clear c15
          (first | rw [c15b0] | (simp only [i64_w, i32_w]; rw [c15b0]) | skip)
          by_cases c16 : a1_1 = (wrap64 (a0_1 + 1))
          · rw [if_pos c16] at H
            have c16b0 : (a1_1 == (wrap64 (a0_1 + 1))) = true := beq_iff_eq.mpr c16
            have c16b1 : (a1_1 != (wrap64 (a0_1 + 1))) = false := bne_eq_false_iff_eq.mpr c16
            clear c16
            have H' := Aside0.mk H
            clear H
            have hnb17 := NB204_205.out
            have hnc17 := NB205_204.out
            have hcz18_0 : w12.cell? ⟨gb204, 0, none⟩ = some (.string a0_0) := (blk_cell BK204.out 0).trans rfl
            have hcz18_1 : w12.cell? ⟨gb204, 1, none⟩ = some (.int .i64 a0_1) := (blk_cell BK204.out 1).trans rfl
            have hcz18_2 : w12.cell? ⟨gb204, 2, none⟩ = some (.slice A0_2 l0_2.length c0_2) := (blk_cell BK204.out 2).trans rfl
            have hfz18_0 := blk_frozen BK204.out 0
            have hfz18_1 := blk_frozen BK204.out 1
            have hfz18_2 := blk_frozen BK204.out 2
            have hcz19_0 : w12.cell? ⟨gb205, 0, none⟩ = some (.string a1_0) := (blk_cell BK205.out 0).trans rfl
            have hcz19_1 : w12.cell? ⟨gb205, 1, none⟩ = some (.int .i64 a1_1) := (blk_cell BK205.out 1).trans rfl
            have hcz19_2 : w12.cell? ⟨gb205, 2, none⟩ = some (.slice A1_2 l1_2.length c1_2) := (blk_cell BK205.out 2).trans rfl
            have hfz19_0 := blk_frozen BK205.out 0
            have hfz19_1 := blk_frozen BK205.out 1
            have hfz19_2 := blk_frozen BK205.out 2
            go_wp2
            repeat (go_quiet (fail); try go_wp2)
            go_meet
            case rel => exact ⟨_, (decide ((l1_2.length : Int) < (l0_2.length : Int))), (by first | rfl | (simp; done) | (simp [*]; done)), H', ⟨by first | omega | exact Nat.le_refl _⟩, ⟨by (with_reducible repeat (first | refine blk_drewN ?_ _ | refine blk_drew ?_ | refine blk_alloc ?_ _)); exact BK204.out⟩, ⟨by (with_reducible repeat (first | refine blk_drewN ?_ _ | refine blk_drew ?_ | refine blk_alloc ?_ _)); exact BK205.out⟩, ⟨by repeat (first | (with_reducible first | exact HB.out | apply below_alloc | apply pw_below_drewN | apply below_drew1 | refine below_set ?_ GE204.out | refine below_set ?_ GE205.out) | exact HB.out)⟩⟩
          · rw [if_neg c16] at H
            have c16b0 : (a1_1 == (wrap64 (a0_1 + 1))) = false := beq_eq_false_iff_ne.mpr c16
            have c16b1 : (a1_1 != (wrap64 (a0_1 + 1))) = true := bne_iff_ne.mpr c16
            have H' := Aside0.mk H
            clear H
            have hnb20 := NB204_205.out
            have hnc20 := NB205_204.out
            have hcz21_0 : w12.cell? ⟨gb204, 0, none⟩ = some (.string a0_0) := (blk_cell BK204.out 0).trans rfl
            have hcz21_1 : w12.cell? ⟨gb204, 1, none⟩ = some (.int .i64 a0_1) := (blk_cell BK204.out 1).trans rfl
            have hcz21_2 : w12.cell? ⟨gb204, 2, none⟩ = some (.slice A0_2 l0_2.length c0_2) := (blk_cell BK204.out 2).trans rfl
            have hfz21_0 := blk_frozen BK204.out 0
            have hfz21_1 := blk_frozen BK204.out 1
            have hfz21_2 := blk_frozen BK204.out 2
            have hcz22_0 : w12.cell? ⟨gb205, 0, none⟩ = some (.string a1_0) := (blk_cell BK205.out 0).trans rfl
            have hcz22_1 : w12.cell? ⟨gb205, 1, none⟩ = some (.int .i64 a1_1) := (blk_cell BK205.out 1).trans rfl
            have hcz22_2 : w12.cell? ⟨gb205, 2, none⟩ = some (.slice A1_2 l1_2.length c1_2) := (blk_cell BK205.out 2).trans rfl
            have hfz22_0 := blk_frozen BK205.out 0
            have hfz22_1 := blk_frozen BK205.out 1
            have hfz22_2 := blk_frozen BK205.out 2
            go_wp2
            repeat (go_quiet (fail); try go_wp2)
            go_meet
            case rel => exact ⟨_, (true), (by first | rfl | (simp; done) | (simp [*]; done)), H', ⟨by first | omega | exact Nat.le_refl _⟩, ⟨by (with_reducible repeat (first | refine blk_drewN ?_ _ | refine blk_drew ?_ | refine blk_alloc ?_ _)); exact BK204.out⟩, ⟨by (with_reducible repeat (first | refine blk_drewN ?_ _ | refine blk_drew ?_ | refine blk_alloc ?_ _)); exact BK205.out⟩, ⟨by repeat (first | (with_reducible first | exact HB.out | apply below_alloc | apply pw_below_drewN | apply below_drew1 | refine below_set ?_ GE204.out | refine below_set ?_ GE205.out) | exact HB.out)⟩⟩
        · rw [if_neg c15] at H
          have c15b0 : (a0_0.toList == a1_0.toList) = false := beq_eq_false_iff_ne.mpr c15
          have c15b1 : (a0_0.toList != a1_0.toList) = true := bne_iff_ne.mpr c15
          (first | rw [c15b0] | (simp only [i64_w, i32_w]; rw [c15b0]) | skip)
          have H' := Aside0.mk H
          clear H
          have hnb23 := NB204_205.out
          have hnc23 := NB205_204.out
          have hcz24_0 : w12.cell? ⟨gb204, 0, none⟩ = some (.string a0_0) := (blk_cell BK204.out 0).trans rfl
          have hcz24_1 : w12.cell? ⟨gb204, 1, none⟩ = some (.int .i64 a0_1) := (blk_cell BK204.out 1).trans rfl
          have hcz24_2 : w12.cell? ⟨gb204, 2, none⟩ = some (.slice A0_2 l0_2.length c0_2) := (blk_cell BK204.out 2).trans rfl
          have hfz24_0 := blk_frozen BK204.out 0
          have hfz24_1 := blk_frozen BK204.out 1
          have hfz24_2 := blk_frozen BK204.out 2
          have hcz25_0 : w12.cell? ⟨gb205, 0, none⟩ = some (.string a1_0) := (blk_cell BK205.out 0).trans rfl
          have hcz25_1 : w12.cell? ⟨gb205, 1, none⟩ = some (.int .i64 a1_1) := (blk_cell BK205.out 1).trans rfl
          have hcz25_2 : w12.cell? ⟨gb205, 2, none⟩ = some (.slice A1_2 l1_2.length c1_2) := (blk_cell BK205.out 2).trans rfl
          have hfz25_0 := blk_frozen BK205.out 0
          have hfz25_1 := blk_frozen BK205.out 1
          have hfz25_2 := blk_frozen BK205.out 2
          go_wp2
          repeat (go_quiet (fail); try go_wp2)
          go_meet
          case rel => exact ⟨_, (true), (by first | rfl | (simp; done) | (simp [*]; done)), H', ⟨by first | omega | exact Nat.le_refl _⟩, ⟨by (with_reducible repeat (first | refine blk_drewN ?_ _ | refine blk_drew ?_ | refine blk_alloc ?_ _)); exact BK204.out⟩, ⟨by (with_reducible repeat (first | refine blk_drewN ?_ _ | refine blk_drew ?_ | refine blk_alloc ?_ _)); exact BK205.out⟩, ⟨by repeat (first | (with_reducible first | exact HB.out | apply below_alloc | apply pw_below_drewN | apply below_drew1 | refine below_set ?_ GE204.out | refine below_set ?_ GE205.out) | exact HB.out)⟩⟩
      · replace c14 := Bool.eq_false_iff.mpr c14
        subst c14
        have H1 : (towncrierref05_Fits.j0 k true a0_0 a0_1 l0_2 a1_0 a1_1 l1_2) = some r := by rw [if_neg (show ¬ (false = true) by decide)] at H; exact H
        clear H
        have H := H1
        clear H1
        have H' := Aside0.mk H
        clear H
        go_wp2
        repeat (go_quiet (fail); try go_wp2)
        go_meet
        case rel => exact ⟨_, (true), (by first | rfl | (simp; done) | (simp [*]; done)), H', ⟨by first | omega | exact Nat.le_refl _⟩, ⟨by (with_reducible repeat (first | refine blk_drewN ?_ _ | refine blk_drew ?_ | refine blk_alloc ?_ _)); exact BK204.out⟩, ⟨by (with_reducible repeat (first | refine blk_drewN ?_ _ | refine blk_drew ?_ | refine blk_alloc ?_ _)); exact BK205.out⟩, ⟨by repeat (first | (with_reducible first | exact HB.out | apply below_alloc | apply pw_below_drewN | apply below_drew1 | refine below_set ?_ GE204.out | refine below_set ?_ GE205.out) | exact HB.out)⟩⟩
    · replace c13 := Bool.eq_false_iff.mpr c13
      subst c13
      have H1 : (towncrierref05_Fits.j0 k true a0_0 a0_1 l0_2 a1_0 a1_1 l1_2) = some r := by rw [if_neg (show ¬ (false = true) by decide)] at H; exact H
      clear H
      have H := H1
      clear H1
      have H' := Aside0.mk H
      clear H
      go_wp2
      repeat (go_quiet (fail); try go_wp2)
      go_meet
      case rel => exact ⟨_, (true), (by first | rfl | (simp; done) | (simp [*]; done)), H', ⟨by first | omega | exact Nat.le_refl _⟩, ⟨by (with_reducible repeat (first | refine blk_drewN ?_ _ | refine blk_drew ?_ | refine blk_alloc ?_ _)); exact BK204.out⟩, ⟨by (with_reducible repeat (first | refine blk_drewN ?_ _ | refine blk_drew ?_ | refine blk_alloc ?_ _)); exact BK205.out⟩, ⟨by repeat (first | (with_reducible first | exact HB.out | apply below_alloc | apply pw_below_drewN | apply below_drew1 | refine below_set ?_ GE204.out | refine below_set ?_ GE205.out) | exact HB.out)⟩⟩
  case rest =>
    clear HC5
    try clear c1
    try clear c2
    try clear p2
    try clear c3
    try clear p6
    try clear c8
    try clear c13
    try clear c14
    try clear c15
    try clear c15b0
    try clear c15b1
    try clear c16
    try clear c16b0
    try clear c16b1
    try clear c17
    try clear c20
    try clear c23
    try clear hcz11_0
    try clear hcz11_1
    try clear hcz11_2
    try clear hcz18_0
    try clear hcz18_1
    try clear hcz18_2
    try clear hcz19_0
    try clear hcz19_1
    try clear hcz19_2
    try clear hcz21_0
    try clear hcz21_1
    try clear hcz21_2
    try clear hcz22_0
    try clear hcz22_1
    try clear hcz22_2
    try clear hcz24_0
    try clear hcz24_1
    try clear hcz24_2
    try clear hcz25_0
    try clear hcz25_1
    try clear hcz25_2
    try clear hcz9_0
    try clear hcz9_1
    try clear hcz9_2
    try clear hfz11_0
    try clear hfz11_1
    try clear hfz11_2
    try clear hfz18_0
    try clear hfz18_1
    try clear hfz18_2
    try clear hfz19_0
    try clear hfz19_1
    try clear hfz19_2
    try clear hfz21_0
    try clear hfz21_1
    try clear hfz21_2
    try clear hfz22_0
    try clear hfz22_1
    try clear hfz22_2
    try clear hfz24_0
    try clear hfz24_1
    try clear hfz24_2
    try clear hfz25_0
    try clear hfz25_1
    try clear hfz25_2
    try clear hfz9_0
    try clear hfz9_1
    try clear hfz9_2
    obtain ⟨kq, x41_4, rfl, HA, HJ4, BK204, BK205, HB⟩ := hcut
    cases kq with
    | zero => exact absurd HA.out (by simp [towncrierref05_Fits.j0])
    | succ kj4 =>
      have H := HA.out
      clear HA
      simp only [towncrierref05_Fits.j0] at H
      by_cases c26 : x41_4 = true
      · subst c26
        have H1 : (some false) = some r := by rw [if_pos rfl] at H; exact H
        clear H
        have H := H1
        clear H1
        obtain rfl := Option.some.inj H
        go_wp2
        repeat (go_quiet (fail); try go_wp2)
        go_ret
        exact ⟨by first | rfl | (simp [errW_none, errW_some] <;> rfl) | (simp [*, errW_none, errW_some] <;> rfl), by repeat (first | (with_reducible first | exact HB.out | apply below_alloc | apply pw_below_drewN | apply below_drew1 | refine below_set ?_ GE204.out | refine below_set ?_ GE205.out) | exact HB.out)⟩
      · replace c26 := Bool.eq_false_iff.mpr c26
        subst c26
        have H1 : (towncrierref05_Fits.l0 kj4 0 a0_0 a0_1 l0_2 a1_0 a1_1 l1_2) = some r := by rw [if_neg (show ¬ (false = true) by decide)] at H; exact H
        clear H
        have H := H1
        clear H1
        have H' := Aside0.mk H
        clear H
        go_wp2
        repeat (go_quiet (fail); try go_wp2)
        go_loopg [7] kj4 (fun kq v7 w' => ∃ (x7_2 : Int), v7 = .int .i64 x7_2 ∧ Aside0 (towncrierref05_Fits.l0 kq x7_2 a0_0 a0_1 l0_2 a1_0 a1_1 l1_2 = some r) ∧ Aside0 (kq ≤ kj4) ∧ Aside0 (w'.heap[gb204]? = some (.cells #[.string a0_0, .int .i64 a0_1, (.slice A0_2 l0_2.length c0_2)] 25 (0, 0))) ∧ Aside0 (w'.heap[gb205]? = some (.cells #[.string a1_0, .int .i64 a1_1, (.slice A1_2 l1_2.length c1_2)] 25 (0, 0))) ∧ Aside0 (Below w.heap.size w w'))
        case atStart => exact ⟨(0), (by first | rfl | (simp; done) | (simp [*]; done)), H', ⟨Nat.le_refl _⟩, ⟨by (with_reducible repeat (first | refine blk_drewN ?_ _ | refine blk_drew ?_ | refine blk_alloc ?_ _)); exact BK204.out⟩, ⟨by (with_reducible repeat (first | refine blk_drewN ?_ _ | refine blk_drew ?_ | refine blk_alloc ?_ _)); exact BK205.out⟩, ⟨by repeat (first | (with_reducible first | exact HB.out | apply below_alloc | apply pw_below_drewN | apply below_drew1 | refine below_set ?_ GE204.out | refine below_set ?_ GE205.out) | exact HB.out)⟩⟩
        case round =>
          clear H'
          try clear c1
          try clear c2
          try clear p2
          try clear c3
          try clear p6
          try clear c8
          try clear c13
          try clear c14
          try clear c15
          try clear c15b0
          try clear c15b1
          try clear c16
          try clear c16b0
          try clear c16b1
          try clear c17
          try clear c20
          try clear c23
          try clear c26
          try clear hcz11_0
          try clear hcz11_1
          try clear hcz11_2
          try clear hcz18_0
          try clear hcz18_1
          try clear hcz18_2
          try clear hcz19_0
          try clear hcz19_1
          try clear hcz19_2
          try clear hcz21_0
          try clear hcz21_1
          try clear hcz21_2
          try clear hcz22_0
          try clear hcz22_1
          try clear hcz22_2
          try clear hcz24_0
          try clear hcz24_1
          try clear hcz24_2
          try clear hcz25_0
          try clear hcz25_1
          try clear hcz25_2
          try clear hcz9_0
          try clear hcz9_1
          try clear hcz9_2
          try clear hfz11_0
          try clear hfz11_1
          try clear hfz11_2
          try clear hfz18_0
          try clear hfz18_1
          try clear hfz18_2
          try clear hfz19_0
          try clear hfz19_1
          try clear hfz19_2
          try clear hfz21_0
          try clear hfz21_1
          try clear hfz21_2
          try clear hfz22_0
          try clear hfz22_1
          try clear hfz22_2
          try clear hfz24_0
          try clear hfz24_1
          try clear hfz24_2
          try clear hfz25_0
          try clear hfz25_1
          try clear hfz25_2
          try clear hfz9_0
          try clear hfz9_1
          try clear hfz9_2
          try clear p2
          try clear p6
          obtain ⟨x7_2, rfl, HA, HK2, BK204, BK205, HB⟩ := hrel
          cases gk with
          | zero => exact absurd HA.out (by simp [towncrierref05_Fits.l0])
          | succ k2 =>
            have H := HA.out
            clear HA
            simp only [towncrierref05_Fits.l0] at H
            by_cases c27 : x7_2 < (l0_2.length : Int)
            · rw [if_pos c27] at H
              have c27b0 : decide (x7_2 < (l0_2.length : Int)) = true := decide_eq_true c27
              clear c27
              by_cases c28 : 0 ≤ x7_2
              · rw [if_pos c28] at H
                have c28b0 : decide (0 ≤ x7_2) = true := decide_eq_true c28
                clear c28
                by_cases c29 : x7_2 < (l1_2.length : Int)
                · rw [if_pos c29] at H
                  have c29b0 : decide (x7_2 < (l1_2.length : Int)) = true := decide_eq_true c29
                  clear c29
                  by_cases c30 : (!((((rd_TField l0_2 x7_2).f0).toList) == (((rd_TField l1_2 x7_2).f0).toList)) || (!(((rd_TField l0_2 x7_2).f1) == ((rd_TField l1_2 x7_2).f1)))) = true
                  · rw [if_pos c30] at H
                    have c30b0 : (!((((rd_TField l0_2 x7_2).f0).toList) == (((rd_TField l1_2 x7_2).f0).toList)) || (!(((rd_TField l0_2 x7_2).f1) == ((rd_TField l1_2 x7_2).f1)))) = true := c30
                    clear c30
                    obtain rfl := Option.some.inj H
                    have hnb31 := NB204_205.out
                    have hnc31 := NB205_204.out
                    have hcz32_0 : wr.cell? ⟨gb204, 0, none⟩ = some (.string a0_0) := (blk_cell BK204.out 0).trans rfl
                    have hcz32_1 : wr.cell? ⟨gb204, 1, none⟩ = some (.int .i64 a0_1) := (blk_cell BK204.out 1).trans rfl
                    have hcz32_2 : wr.cell? ⟨gb204, 2, none⟩ = some (.slice A0_2 l0_2.length c0_2) := (blk_cell BK204.out 2).trans rfl
                    have hfz32_0 := blk_frozen BK204.out 0
                    have hfz32_1 := blk_frozen BK204.out 1
                    have hfz32_2 := blk_frozen BK204.out 2
                    have p208 : 0 ≤ (x7_2 : Int) := of_decide_eq_true (by first | (with_reducible assumption) | assumption)
                    have q208 : x7_2 < (l0_2.length : Int) := of_decide_eq_true (by first | (with_reducible assumption) | assumption)
                    obtain ⟨ad208, e208, hx208_0, hx208_1⟩ := at_TField HR0_2.out x7_2 p208 q208
                    cases e208
                    replace hx208_0 := (HB.out.cell (World.block_lt_of_cell? w _ hx208_0)).trans hx208_0
                    replace hx208_1 := (HB.out.cell (World.block_lt_of_cell? w _ hx208_1)).trans hx208_1
                    replace p208 := eq_true p208
                    replace q208 := eq_true q208
                    have hcz33_0 : wr.cell? ⟨gb205, 0, none⟩ = some (.string a1_0) := (blk_cell BK205.out 0).trans rfl
                    have hcz33_1 : wr.cell? ⟨gb205, 1, none⟩ = some (.int .i64 a1_1) := (blk_cell BK205.out 1).trans rfl
                    have hcz33_2 : wr.cell? ⟨gb205, 2, none⟩ = some (.slice A1_2 l1_2.length c1_2) := (blk_cell BK205.out 2).trans rfl
                    have hfz33_0 := blk_frozen BK205.out 0
                    have hfz33_1 := blk_frozen BK205.out 1
                    have hfz33_2 := blk_frozen BK205.out 2
                    have p209 : 0 ≤ (x7_2 : Int) := of_decide_eq_true (by first | (with_reducible assumption) | assumption)
                    have q209 : x7_2 < (l1_2.length : Int) := of_decide_eq_true (by first | (with_reducible assumption) | assumption)
                    obtain ⟨ad209, e209, hx209_0, hx209_1⟩ := at_TField HR1_2.out x7_2 p209 q209
                    cases e209
                    replace hx209_0 := (HB.out.cell (World.block_lt_of_cell? w _ hx209_0)).trans hx209_0
                    replace hx209_1 := (HB.out.cell (World.block_lt_of_cell? w _ hx209_1)).trans hx209_1
                    replace p209 := eq_true p209
                    replace q209 := eq_true q209
                    go_wp2
                    repeat (go_quiet (fail); try go_wp2)
                    go_ret
                    exact ⟨by first | rfl | (simp [errW_none, errW_some] <;> rfl) | (simp [*, errW_none, errW_some] <;> rfl), by repeat (first | (with_reducible first | exact HB.out | apply below_alloc | apply pw_below_drewN | apply below_drew1 | refine below_set ?_ GE204.out | refine below_set ?_ GE205.out) | exact HB.out)⟩
                  · rw [if_neg c30] at H
                    have c30b0 : (!((((rd_TField l0_2 x7_2).f0).toList) == (((rd_TField l1_2 x7_2).f0).toList)) || (!(((rd_TField l0_2 x7_2).f1) == ((rd_TField l1_2 x7_2).f1)))) = false := by simpa using c30
                    clear c30
                    have H' := Aside0.mk H
                    clear H
                    have hnb34 := NB204_205.out
                    have hnc34 := NB205_204.out
                    have hcz35_0 : wr.cell? ⟨gb204, 0, none⟩ = some (.string a0_0) := (blk_cell BK204.out 0).trans rfl
                    have hcz35_1 : wr.cell? ⟨gb204, 1, none⟩ = some (.int .i64 a0_1) := (blk_cell BK204.out 1).trans rfl
                    have hcz35_2 : wr.cell? ⟨gb204, 2, none⟩ = some (.slice A0_2 l0_2.length c0_2) := (blk_cell BK204.out 2).trans rfl
                    have hfz35_0 := blk_frozen BK204.out 0
                    have hfz35_1 := blk_frozen BK204.out 1
                    have hfz35_2 := blk_frozen BK204.out 2
                    have p208 : 0 ≤ (x7_2 : Int) := of_decide_eq_true (by first | (with_reducible assumption) | assumption)
                    have q208 : x7_2 < (l0_2.length : Int) := of_decide_eq_true (by first | (with_reducible assumption) | assumption)
                    obtain ⟨ad208, e208, hx208_0, hx208_1⟩ := at_TField HR0_2.out x7_2 p208 q208
                    cases e208
                    replace hx208_0 := (HB.out.cell (World.block_lt_of_cell? w _ hx208_0)).trans hx208_0
                    replace hx208_1 := (HB.out.cell (World.block_lt_of_cell? w _ hx208_1)).trans hx208_1
                    replace p208 := eq_true p208
                    replace q208 := eq_true q208
                    have hcz36_0 : wr.cell? ⟨gb205, 0, none⟩ = some (.string a1_0) := (blk_cell BK205.out 0).trans rfl
                    have hcz36_1 : wr.cell? ⟨gb205, 1, none⟩ = some (.int .i64 a1_1) := (blk_cell BK205.out 1).trans rfl
                    have hcz36_2 : wr.cell? ⟨gb205, 2, none⟩ = some (.slice A1_2 l1_2.length c1_2) := (blk_cell BK205.out 2).trans rfl
                    have hfz36_0 := blk_frozen BK205.out 0
                    have hfz36_1 := blk_frozen BK205.out 1
                    have hfz36_2 := blk_frozen BK205.out 2
                    have p209 : 0 ≤ (x7_2 : Int) := of_decide_eq_true (by first | (with_reducible assumption) | assumption)
                    have q209 : x7_2 < (l1_2.length : Int) := of_decide_eq_true (by first | (with_reducible assumption) | assumption)
                    obtain ⟨ad209, e209, hx209_0, hx209_1⟩ := at_TField HR1_2.out x7_2 p209 q209
                    cases e209
                    replace hx209_0 := (HB.out.cell (World.block_lt_of_cell? w _ hx209_0)).trans hx209_0
                    replace hx209_1 := (HB.out.cell (World.block_lt_of_cell? w _ hx209_1)).trans hx209_1
                    replace p209 := eq_true p209
                    replace q209 := eq_true q209
                    go_wp2
                    repeat (go_quiet (fail); try go_wp2)
                    go_roundg k2
                    case measure => have := HJ4.out; have := HK2.out; omega
                    case rel => exact ⟨(wrap64 (x7_2 + 1)), (by first | rfl | (simp; done) | (simp [*]; done)), H', ⟨by have := HJ4.out; have := HK2.out; omega⟩, ⟨by (with_reducible repeat (first | refine blk_drewN ?_ _ | refine blk_drew ?_ | refine blk_alloc ?_ _)); exact BK204.out⟩, ⟨by (with_reducible repeat (first | refine blk_drewN ?_ _ | refine blk_drew ?_ | refine blk_alloc ?_ _)); exact BK205.out⟩, ⟨by repeat (first | (with_reducible first | exact HB.out | apply below_alloc | apply pw_below_drewN | apply below_drew1 | refine below_set ?_ GE204.out | refine below_set ?_ GE205.out) | exact HB.out)⟩⟩
                · rw [if_neg c29] at H
                  exact absurd H (by simp)
              · rw [if_neg c28] at H
                exact absurd H (by simp)
            · rw [if_neg c27] at H
              have c27b0 : decide (x7_2 < (l0_2.length : Int)) = false := decide_eq_false c27
              clear c27
              obtain rfl := Option.some.inj H
              have hnb37 := NB204_205.out
              have hnc37 := NB205_204.out
              have hcz38_0 : wr.cell? ⟨gb204, 0, none⟩ = some (.string a0_0) := (blk_cell BK204.out 0).trans rfl
              have hcz38_1 : wr.cell? ⟨gb204, 1, none⟩ = some (.int .i64 a0_1) := (blk_cell BK204.out 1).trans rfl
              have hcz38_2 : wr.cell? ⟨gb204, 2, none⟩ = some (.slice A0_2 l0_2.length c0_2) := (blk_cell BK204.out 2).trans rfl
              have hfz38_0 := blk_frozen BK204.out 0
              have hfz38_1 := blk_frozen BK204.out 1
              have hfz38_2 := blk_frozen BK204.out 2
              go_wp2
              repeat (go_quiet (fail); try go_wp2)
              go_ret
              exact ⟨by first | rfl | (simp [errW_none, errW_some] <;> rfl) | (simp [*, errW_none, errW_some] <;> rfl), by repeat (first | (with_reducible first | exact HB.out | apply below_alloc | apply pw_below_drewN | apply below_drew1 | refine below_set ?_ GE204.out | refine below_set ?_ GE205.out) | exact HB.out)⟩

end Go.Proofs.Ytbgdamlidohfhaa.P

/- Plain facts on the schemas' functions (layer 5), and on the document's, about lists alone; each under the conditions that it names. -/
namespace Go.Proofs.Ytbgdamlidohfhaa.P
open Go.RowKit Go.Proofs.YtbgdamlidohfhaaW.PrintWords Go.Proofs.YtbgdamlidohfhaaW.PrintLast Go.Proofs.YtbgdamlidohfhaaW.PrintMore

theorem getD_mem {α : Type} {P : α → Prop} {l : List α} (h : ∀ y ∈ l, P y) (z : α) {i : Nat} (hi : i < l.length) : P (l.getD i z) := h _ (by simp [List.getD, hi])
theorem fields_few {x : SSchema} (h : wfSchema x) : x.f2.length < 5864062014805 := by obtain ⟨_, _, h, _⟩ := h; omega
def fitsB (x y : SSchema) : Bool := mayS x && (mayS y && (decide (x.f2.length ≤ y.f2.length) && eqSchema x ⟨y.f0, wrap64 (y.f1 - 1), y.f2.take x.f2.length⟩))
theorem fits_is (x y : SSchema) (hx : x.f2.length < 4611686018427387904) (hy : y.f2.length < 4611686018427387904) {k : Nat} (hk : x.f2.length < k) : schema_Fits.f k x.f0 x.f1 x.f2 y.f0 y.f1 y.f2 = some (fitsB x y) := by
  unfold schema_Fits.f schema_May.f fitsB mayS
  simp only [Option.bind_some]
  cases mayB x.f0 x.f1 x.f2
  · simp
  · rw [if_pos rfl]
    cases mayB y.f0 y.f1 y.f2
    · simp
    · rw [if_pos rfl]
      by_cases h : x.f2.length ≤ y.f2.length
      · rw [if_neg (by omega), if_pos (by omega), if_pos (by omega), decide_eq_true h, Int.toNat_natCast]
        have := schema_Same_is x ⟨y.f0, wrap64 (y.f1 - 1), y.f2.take x.f2.length⟩ (by omega) hk
        rw [this]
        rfl
      · rw [if_pos (by omega), decide_eq_false h]
        rfl
theorem eqf_iff {α : Type} {p : α → α → Bool} {z : α} {a b : List α} : eqf p z a b = true ↔ a.length = b.length ∧ ∀ i, i < a.length → p (a.getD i z) (b.getD i z) = true := by
  unfold eqf
  simp only [Bool.and_eq_true, decide_eq_true_eq, List.all_eq_true, List.mem_range]
theorem eqField_iff {x y : SField} : eqField x y = true ↔ x.f0.toList = y.f0.toList ∧ x.f1 = y.f1 := by
  unfold eqField
  simp only [Bool.and_eq_true, beq_iff_eq]
theorem eqSchema_iff {x y : SSchema} : eqSchema x y = true ↔ x.f0.toList = y.f0.toList ∧ x.f1 = y.f1 ∧ x.f2.length = y.f2.length ∧ ∀ i, i < x.f2.length → eqField (x.f2.getD i zField) (y.f2.getD i zField) = true := by
  unfold eqSchema
  simp only [Bool.and_eq_true, decide_eq_true_eq, eqf_iff]
theorem eqSchema_refl (x : SSchema) : eqSchema x x = true := eqSchema_iff.2 ⟨rfl, rfl, rfl, fun _ _ => eqField_iff.2 ⟨rfl, rfl⟩⟩
theorem mayS_iff {x : SSchema} : mayS x = true ↔ nameB x.f0 = true ∧ 1 ≤ x.f1 ∧ x.f1 ≤ 1000 ∧ x.f2.length ≤ 6 ∧ ∀ i, i < x.f2.length → fieldOK x.f2 i = true := by
  unfold mayS mayB
  simp only [Bool.and_eq_true, decide_eq_true_eq, List.all_eq_true, List.mem_range]
theorem getD_take {α : Type} (l : List α) (z : α) (n i : Nat) (h : i < n) : (l.take n).getD i z = l.getD i z := by
  simp only [List.getD_eq_getElem?_getD, List.getElem?_take, if_pos h]
theorem fitsB_iff {x y : SSchema} : fitsB x y = true ↔ mayS x = true ∧ mayS y = true ∧ x.f2.length ≤ y.f2.length ∧ x.f0.toList = y.f0.toList ∧ x.f1 + 1 = y.f1 ∧ ∀ i, i < x.f2.length → eqField (x.f2.getD i zField) (y.f2.getD i zField) = true := by
  unfold fitsB
  simp only [Bool.and_eq_true, decide_eq_true_eq, eqSchema_iff]
  constructor
  · rintro ⟨h1, h2, h3, h4, h5, _, h7⟩
    obtain ⟨_, hy1, hy2, _⟩ := mayS_iff.1 h2
    refine ⟨h1, h2, h3, h4, ?_, fun i hi => ?_⟩
    · have h5 : x.f1 = wrap64 (y.f1 - 1) := h5
      unfold wrap64 at h5; omega
    · have := h7 i hi
      rwa [getD_take _ _ _ _ hi] at this
  · rintro ⟨h1, h2, h3, h4, h5, h7⟩
    obtain ⟨_, hy1, hy2, _⟩ := mayS_iff.1 h2
    refine ⟨h1, h2, h3, h4, ?_, ?_, fun i hi => ?_⟩
    · show x.f1 = wrap64 (y.f1 - 1)
      unfold wrap64; omega
    · show x.f2.length = (y.f2.take x.f2.length).length
      rw [List.length_take]; omega
    · show eqField (x.f2.getD i zField) ((y.f2.take x.f2.length).getD i zField) = true
      rw [getD_take _ _ _ _ hi]
      exact h7 i hi
theorem few5_loop (x1 : ByteArray) (x2 : Int) (l : List SField) (hl : l.length < 4611686018427387904) : ∀ (d i k : Nat), i + d = l.length → d < k → ∃ b, towncrierlaw05_Few.l0 k (i : Int) x1 x2 l = some b := by
  intro d
  induction d with
  | zero =>
    intro i k hi hk
    obtain ⟨k, rfl⟩ := rounds_of hk
    simp only [towncrierlaw05_Few.l0]
    rw [if_neg (by omega)]
    exact ⟨_, rfl⟩
  | succ d ih =>
    intro i k hi hk
    obtain ⟨k, rfl⟩ := rounds_of hk
    simp only [towncrierlaw05_Few.l0]
    rw [if_pos (by omega), if_pos (by omega), wrap_succ (by omega)]
    split
    · exact ⟨_, rfl⟩
    · exact ih (i + 1) k (by omega) (by omega)
/-- At most 10 fields, if it is few. -/
theorem few5_some (x1 : ByteArray) (x2 : Int) (l : List SField) {k : Nat} (hk : 20 ≤ k) : ∃ b, towncrierlaw05_Few.f k x1 x2 l = some b ∧ (b = true → l.length ≤ 10) := by
  obtain ⟨k, rfl⟩ := rounds_of (show 0 < k from by omega)
  unfold towncrierlaw05_Few.f
  simp only [towncrierlaw05_Few.j0]
  split
  · exact ⟨_, rfl, by simp⟩
  · by_cases h : (l.length : Int) > 10
    · rw [decide_eq_true h]; exact ⟨_, rfl, by simp⟩
    · rw [decide_eq_false h]
      simp only [Bool.false_eq_true, if_false]
      obtain ⟨b, hb⟩ := few5_loop x1 x2 l (by omega) l.length 0 k (by omega) (by omega)
      exact ⟨b, hb, fun _ => by omega⟩
/-! ### The document's functions -/
theorem refSame_loop (x y : SSchema) (hl : x.f2.length ≤ 9223372036854775807) (hn : x.f0.toList = y.f0.toList) (hv : x.f1 = y.f1) (he : x.f2.length = y.f2.length) : ∀ (d i k : Nat), i + d = x.f2.length → d < k → (∀ j, j < i → eqField (x.f2.getD j zField) (y.f2.getD j zField) = true) →
    towncrierref05_Same.l0 k (i : Int) x.f0 x.f1 x.f2 y.f0 y.f1 y.f2 = some (eqSchema x y) := by
  intro d
  induction d with
  | zero =>
    intro i k hi hk h
    obtain ⟨k, rfl⟩ := rounds_of hk
    simp only [towncrierref05_Same.l0]
    rw [if_neg (by omega)]
    unfold eqSchema
    rw [decide_eq_true hn, decide_eq_true hv, eqf_all he (fun j hj => h j (by omega))]
    rfl
  | succ d ih =>
    intro i k hi hk h
    obtain ⟨k, rfl⟩ := rounds_of hk
    simp only [towncrierref05_Same.l0]
    rw [if_pos (by omega), if_pos (by omega), if_pos (by omega), wrap_succ (by omega)]
    rw [show rd_TField x.f2 (i : Int) = x.f2.getD i zField from rfl, show rd_TField y.f2 (i : Int) = y.f2.getD i zField from rfl]
    cases hq : eqField (x.f2.getD i zField) (y.f2.getD i zField) with
    | true =>
      have hq2 := hq
      unfold eqField at hq
      rw [Bool.and_eq_true] at hq
      rw [hq.1, hq.2]
      exact ih (i + 1) k (by omega) (by omega) (all_next h hq2)
    | false =>
      have hf : eqSchema x y = false := by
        unfold eqSchema
        rw [eqf_hit i (by omega) hq]
        simp
      rw [hf]
      unfold eqField at hq
      rw [Bool.and_eq_false_iff] at hq
      rcases hq with hq | hq <;> (rw [hq, if_pos (by simp)])
theorem refSame_is (x y : SSchema) (hl : x.f2.length ≤ 9223372036854775807) {k : Nat} (hk : x.f2.length + 1 < k) : towncrierref05_Same.f k x.f0 x.f1 x.f2 y.f0 y.f1 y.f2 = some (eqSchema x y) := by
  unfold towncrierref05_Same.f
  have hj : ∀ b, b = true → eqSchema x y = false → towncrierref05_Same.j0 k b x.f0 x.f1 x.f2 y.f0 y.f1 y.f2 = some (eqSchema x y) := by
    intro b hb hf
    obtain ⟨k, rfl⟩ := rounds_of (show 0 < k by omega)
    simp only [towncrierref05_Same.j0]
    rw [if_pos hb, hf]
  by_cases h1 : x.f0.toList = y.f0.toList
  · rw [if_pos h1]
    by_cases h2 : x.f1 = y.f1
    · rw [if_pos h2]
      by_cases h3 : x.f2.length = y.f2.length
      · obtain ⟨k, rfl⟩ := rounds_of (show 0 < k by omega)
        simp only [towncrierref05_Same.j0]
        rw [if_neg (by simp [h3])]
        exact refSame_loop x y hl h1 h2 h3 x.f2.length 0 k (by omega) (by omega) (fun j hj => by omega)
      · refine hj _ (bne_iff_ne.mpr (by omega)) ?_
        unfold eqSchema
        rw [eqf_len h3]
        simp
    · rw [if_neg h2]
      exact hj true rfl (by unfold eqSchema; rw [decide_eq_false h2]; simp)
  · rw [if_neg h1]
    exact hj true rfl (by unfold eqSchema; rw [decide_eq_false h1]; rfl)
theorem refFits_loop (x y : SSchema) (hl : x.f2.length ≤ 9223372036854775807) (hx : mayS x = true) (hy : mayS y = true) (hn : x.f0.toList = y.f0.toList) (hv : x.f1 + 1 = y.f1) (he : x.f2.length ≤ y.f2.length) : ∀ (d i k : Nat), i + d = x.f2.length → d < k → (∀ j, j < i → eqField (x.f2.getD j zField) (y.f2.getD j zField) = true) →
    towncrierref05_Fits.l0 k (i : Int) x.f0 x.f1 x.f2 y.f0 y.f1 y.f2 = some (fitsB x y) := by
  intro d
  induction d with
  | zero =>
    intro i k hi hk h
    obtain ⟨k, rfl⟩ := rounds_of hk
    simp only [towncrierref05_Fits.l0]
    rw [if_neg (by omega), fitsB_iff.2 ⟨hx, hy, he, hn, hv, fun j hj => h j (by omega)⟩]
  | succ d ih =>
    intro i k hi hk h
    obtain ⟨k, rfl⟩ := rounds_of hk
    simp only [towncrierref05_Fits.l0]
    rw [if_pos (by omega), if_pos (by omega), if_pos (by omega), wrap_succ (by omega)]
    rw [show rd_TField x.f2 (i : Int) = x.f2.getD i zField from rfl, show rd_TField y.f2 (i : Int) = y.f2.getD i zField from rfl]
    cases hq : eqField (x.f2.getD i zField) (y.f2.getD i zField) with
    | true =>
      have hq2 := hq
      unfold eqField at hq
      rw [Bool.and_eq_true] at hq
      rw [hq.1, hq.2]
      exact ih (i + 1) k (by omega) (by omega) (all_next h hq2)
    | false =>
      have hf : fitsB x y = false := by
        rw [← Bool.not_eq_true]
        intro h3
        have := (fitsB_iff.1 h3).2.2.2.2.2 i (by omega)
        rw [this] at hq
        cases hq
      rw [hf]
      unfold eqField at hq
      rw [Bool.and_eq_false_iff] at hq
      rcases hq with hq | hq <;> (rw [hq, if_pos (by simp)])
theorem refFits_is (x y : SSchema) {S k : Nat} (hx0 : x.f0.size ≤ S) (hy0 : y.f0.size ≤ S) (hS : S < 4611686018427387904) (hxs : ∀ i, i < x.f2.length → (x.f2.getD i zField).f0.size ≤ S) (hys : ∀ i, i < y.f2.length → (y.f2.getD i zField).f0.size ≤ S) (hk : S + 100 < k) :
    towncrierref05_Fits.f k x.f0 x.f1 x.f2 y.f0 y.f1 y.f2 = some (fitsB x y) := by
  unfold towncrierref05_Fits.f
  rw [refMay_is _ _ _ hx0 hS hxs hk, refMay_is _ _ _ hy0 hS hys hk]
  simp only [Option.bind_some]
  have hj : ∀ b, b = true → ¬ fitsB x y = true → towncrierref05_Fits.j0 k b x.f0 x.f1 x.f2 y.f0 y.f1 y.f2 = some (fitsB x y) := by
    intro b hb hf
    obtain ⟨k, rfl⟩ := rounds_of (show 0 < k by omega)
    simp only [towncrierref05_Fits.j0]
    rw [if_pos hb, show fitsB x y = false from by simpa using hf]
  by_cases h1 : mayB x.f0 x.f1 x.f2 = true
  · rw [if_pos h1]
    by_cases h2 : mayB y.f0 y.f1 y.f2 = true
    · rw [if_pos h2]
      have hxl := (mayB_parts h1).2.2.2.1
      have hxv := (mayB_parts h1).2.1
      have hxv2 := (mayB_parts h1).2.2.1
      have hw : wrap64 (x.f1 + 1) = x.f1 + 1 := by unfold wrap64; omega
      rw [hw]
      by_cases h3 : x.f0.toList = y.f0.toList
      · rw [if_pos h3]
        by_cases h4 : y.f1 = x.f1 + 1
        · rw [if_pos h4]
          by_cases h5 : x.f2.length ≤ y.f2.length
          · rw [decide_eq_false (by omega)]
            obtain ⟨k, rfl⟩ := rounds_of (show 0 < k by omega)
            simp only [towncrierref05_Fits.j0]
            rw [if_neg (by simp)]
            exact refFits_loop x y (by omega) h1 h2 h3 h4.symm h5 x.f2.length 0 k (by omega) (by omega) (fun j hj => by omega)
          · exact hj _ (decide_eq_true (by omega)) (fun h => h5 (fitsB_iff.1 h).2.2.1)
        · rw [if_neg h4]; exact hj true rfl (fun h => h4 (fitsB_iff.1 h).2.2.2.2.1.symm)
      · rw [if_neg h3]; exact hj true rfl (fun h => h3 (fitsB_iff.1 h).2.2.2.1)
    · rw [if_neg h2]; exact hj true rfl (fun h => h2 (fitsB_iff.1 h).2.1)
  · rw [if_neg h1]; exact hj true rfl (fun h => h1 (fitsB_iff.1 h).1)
/-! ### Calls, by what they come to -/
theorem refName_told (s : ByteArray) (w : World) (h : s.size ≤ 140737488351232) : Calls Try.prog 35 #[.string s] w (boolPost (nameB s) w) :=
  (towncrierref05_Name.calls 140737488351300 s (nameB s) w (refName_is s h (by decide) (by decide))).mono fun e w' h => ⟨h.1, h.2.below⟩
theorem wf_names {x : SSchema} (h : wfSchema x) : x.f0.size ≤ 140737488351232 ∧ ∀ i, i < x.f2.length → (x.f2.getD i zField).f0.size ≤ 140737488351232 :=
  ⟨h.1, fun i hi => (getD_mem (P := wfField) h.2.2.2 zField hi).1⟩
theorem wf_okNames {x : SSchema} (h : wfSchema x) : okNames x := ⟨(wf_names h).1, (wf_names h).2, by have := fields_few h; omega⟩
theorem may_told (x : SSchema) (A2 : Option Addr) (c2 : Nat) (w : World) (hr : Kd.C kField w A2 x.f2.length x.f2) (hc : x.f2.length ≤ c2) :
    Calls Try.prog 28 #[.agg #[.string x.f0, .int .i64 x.f1, .slice A2 x.f2.length c2]] w (boolPost (mayS x) w) := schema_May.calls x.f0 x.f1 A2 c2 x.f2 (mayS x) w hr hc rfl
theorem refSameS_told (x y : SSchema) (A0 : Option Addr) (c0 : Nat) (A1 : Option Addr) (c1 : Nat) (w : World) (hr0 : Kd.C kField w A0 x.f2.length x.f2) (hc0 : x.f2.length ≤ c0) (hr1 : Kd.C kField w A1 y.f2.length y.f2) (hc1 : y.f2.length ≤ c1) :
    Calls Try.prog 23 #[.agg #[.string x.f0, .int .i64 x.f1, .slice A0 x.f2.length c0], .agg #[.string y.f0, .int .i64 y.f1, .slice A1 y.f2.length c1]] w (boolPost (eqSchema x y) w) :=
  towncrierref05_Same.calls (x.f2.length + 2) _ _ _ _ _ _ _ _ _ _ (eqSchema x y) w hr0 hc0 hr1 hc1 (refSame_is x y hr0.2.1 (by omega))
theorem sameS_told (x y : SSchema) (A0 : Option Addr) (c0 : Nat) (A1 : Option Addr) (c1 : Nat) (w : World) (hr0 : Kd.C kField w A0 x.f2.length x.f2) (hc0 : x.f2.length ≤ c0) (hr1 : Kd.C kField w A1 y.f2.length y.f2) (hc1 : y.f2.length ≤ c1) :
    Calls Try.prog 27 #[.agg #[.string x.f0, .int .i64 x.f1, .slice A0 x.f2.length c0], .agg #[.string y.f0, .int .i64 y.f1, .slice A1 y.f2.length c1]] w (boolPost (eqSchema x y) w) :=
  schema_Same.calls (x.f2.length + 1) _ _ _ _ _ _ _ _ _ _ (eqSchema x y) w hr0 hc0 hr1 hc1 (schema_Same_is x y hr0.2.1 (by omega))
theorem fits_told (x y : SSchema) (A0 : Option Addr) (c0 : Nat) (A1 : Option Addr) (c1 : Nat) (w : World) (hx : x.f2.length < 4611686018427387904) (hy : y.f2.length < 4611686018427387904) (hr0 : Kd.C kField w A0 x.f2.length x.f2) (hc0 : x.f2.length ≤ c0) (hr1 : Kd.C kField w A1 y.f2.length y.f2) (hc1 : y.f2.length ≤ c1) :
    Calls Try.prog 38 #[.agg #[.string x.f0, .int .i64 x.f1, .slice A0 x.f2.length c0], .agg #[.string y.f0, .int .i64 y.f1, .slice A1 y.f2.length c1]] w (boolPost (fitsB x y) w) :=
  schema_Fits.calls (x.f2.length + 1) _ _ _ _ _ _ _ _ _ _ (fitsB x y) w hr0 hc0 hr1 hc1 (fits_is x y hx hy (by omega))
theorem refFits_told (x y : SSchema) (A0 : Option Addr) (c0 : Nat) (A1 : Option Addr) (c1 : Nat) (w : World) (hx : okNames x) (hy : okNames y) (hr0 : Kd.C kField w A0 x.f2.length x.f2) (hc0 : x.f2.length ≤ c0) (hr1 : Kd.C kField w A1 y.f2.length y.f2) (hc1 : y.f2.length ≤ c1) :
    Calls Try.prog 37 #[.agg #[.string x.f0, .int .i64 x.f1, .slice A0 x.f2.length c0], .agg #[.string y.f0, .int .i64 y.f1, .slice A1 y.f2.length c1]] w (boolPost (fitsB x y) w) :=
  towncrierref05_Fits.calls 140737488361300 _ _ _ _ _ _ _ _ _ _ (fitsB x y) w hr0 hc0 hr1 hc1 (refFits_is x y hx.1 hy.1 (by decide) hx.2.1 hy.2.1 (by decide))
/-! ### What is put is got, and the other way -/
def bytesS (x : SSchema) : List Int := putS x.f0 x.f1 x.f2
theorem getF_put : ∀ (F : List SField) (rest : List Int), (∀ f ∈ F, f.f0.size ≤ 12) → getF F.length (fieldsL F ++ rest) = some (F, (fieldsL F).length)
  | [], rest, _ => by simp [getF, fieldsL]
  | f :: F, rest, h => by
    have e : fieldsL (f :: F) ++ rest = textL f.f0 ++ (f.f1 :: (fieldsL F ++ rest)) := by simp [fieldsL]
    have hl : (fieldsL (f :: F)).length = (textL f.f0).length + 1 + (fieldsL F).length := by simp [fieldsL]; omega
    rw [List.length_cons, getF, e, readT_put _ (h f (by simp)) (by decide)]
    simp only
    rw [List.drop_left]
    simp only
    rw [show (textL f.f0).length + 1 = (textL f.f0 ++ [f.f1]).length from by simp, show textL f.f0 ++ f.f1 :: (fieldsL F ++ rest) = (textL f.f0 ++ [f.f1]) ++ (fieldsL F ++ rest) from by simp, List.drop_left, getF_put F rest (fun g hg => h g (by simp [hg]))]
    simp only [str_bytesOf, hl, List.length_append, List.length_singleton]
theorem getF_take : ∀ (m : Nat) (l : List Int) (fs : List SField) (v : Nat), byteL l → getF m l = some (fs, v) → l.take v = fieldsL fs ∧ v ≤ l.length
  | 0, l, fs, v, _, h => by simp only [getF, Option.some.injEq, Prod.mk.injEq] at h; obtain ⟨rfl, rfl⟩ := h; simp [fieldsL]
  | m + 1, l, fs, v, hb, h => by
    rw [getF] at h
    cases hg : readT l 12 with
    | none => rw [hg] at h; simp at h
    | some p =>
      obtain ⟨t, u⟩ := p
      rw [hg] at h
      simp only at h
      cases hd : l.drop u with
      | nil => rw [hd] at h; simp at h
      | cons k r =>
        rw [hd] at h
        simp only at h
        cases hf : getF m (l.drop (u + 1)) with
        | none => rw [hf] at h; simp at h
        | some q =>
          obtain ⟨gs, y⟩ := q
          rw [hf] at h
          simp only [Option.some.injEq, Prod.mk.injEq] at h
          obtain ⟨rfl, rfl⟩ := h
          obtain ⟨h1, h2⟩ := getF_take m _ gs y (byteL_drop hb _) hf
          have hul : u < l.length := by
            have := congrArg List.length hd
            rw [List.length_drop, List.length_cons] at this
            omega
          rw [List.length_drop] at h2
          refine ⟨?_, by omega⟩
          have e1 : l.take (u + 1) = textL (strOfNums t) ++ [k] := take_add' (readT_take hb hg).2 (by rw [hd]; rfl)
          rw [take_add' e1 h1]
          simp [fieldsL]
theorem getRaw_put {x : SSchema} (rest : List Int) (h : mayS x = true) : getRaw (bytesS x ++ rest) = some (x, (bytesS x).length) := by
  obtain ⟨hn, h1, h2, h3, h4⟩ := mayS_iff.1 h
  obtain ⟨vn, hv⟩ := Int.eq_ofNat_of_zero_le (show 0 ≤ x.f1 by omega)
  have hF : ∀ f ∈ x.f2, f.f0.size ≤ 12 := fun f hf => by
    obtain ⟨i, hi, rfl⟩ := List.mem_iff_getElem.1 hf
    have := nameB_size (fieldOK_parts (h4 i hi)).1
    rw [show x.f2.getD i zField = x.f2[i] from by simp [List.getD, hi]] at this
    exact this.2
  have e : bytesS x ++ rest = textL x.f0 ++ (lePut vn ++ (lePut x.f2.length ++ (fieldsL x.f2 ++ rest))) := by simp [bytesS, putS, hv]
  have hlen : (bytesS x).length = (textL x.f0).length + (lePut vn).length + (lePut x.f2.length).length + (fieldsL x.f2).length := by simp [bytesS, putS, hv]; omega
  have hd1 : (bytesS x ++ rest).drop (textL x.f0).length = lePut vn ++ (lePut x.f2.length ++ (fieldsL x.f2 ++ rest)) := by rw [e, List.drop_left]
  have hd2 : (bytesS x ++ rest).drop ((textL x.f0).length + (lePut vn).length) = lePut x.f2.length ++ (fieldsL x.f2 ++ rest) := by rw [← List.drop_drop, hd1, List.drop_left]
  have hd3 : (bytesS x ++ rest).drop ((textL x.f0).length + (lePut vn).length + (lePut x.f2.length).length) = fieldsL x.f2 ++ rest := by rw [← List.drop_drop, hd2, List.drop_left]
  unfold getRaw
  rw [show readT (bytesS x ++ rest) 12 = some (bytesOf x.f0, (textL x.f0).length) from by rw [e]; exact readT_put _ (nameB_size hn).2 (by decide)]
  simp only
  rw [hd1, getM_put _ (by omega) (by decide)]
  simp only
  rw [hd2, getM_put _ h3 (by decide)]
  simp only
  unfold contF
  rw [hd3, getF_put x.f2 rest hF]
  simp only [List.nil_append, str_bytesOf, hlen, Option.some.injEq, Prod.mk.injEq]
  refine ⟨?_, trivial⟩
  cases x
  simp at hv ⊢
  exact hv.symm
/-- What is put is got, whatever stands behind. -/
theorem getS_put {x : SSchema} (rest : List Int) (h : mayS x = true) : getS (bytesS x ++ rest) = some (x, (bytesS x).length) := by
  unfold getS
  rw [getRaw_put rest h]
  simp only
  rw [if_pos h]
/-- What is got may be, and is put as the same bytes. -/
theorem getS_take {l : List Int} {x : SSchema} {n : Nat} (hb : byteL l) (h : getS l = some (x, n)) : mayS x = true ∧ n ≤ l.length ∧ l.take n = bytesS x := by
  unfold getS at h
  cases hr : getRaw l with
  | none => rw [hr] at h; simp at h
  | some p =>
    obtain ⟨s, k⟩ := p
    rw [hr] at h
    simp only at h
    by_cases hm : mayS s = true
    · rw [if_pos hm] at h
      simp only [Option.some.injEq, Prod.mk.injEq] at h
      obtain ⟨rfl, rfl⟩ := h
      refine ⟨hm, ?_⟩
      unfold getRaw at hr
      cases hg : readT l 12 with
      | none => rw [hg] at hr; simp at hr
      | some p =>
        obtain ⟨t, u⟩ := p
        rw [hg] at hr
        simp only at hr
        cases hv : getM (l.drop u) 1000 with
        | none => rw [hv] at hr; simp at hr
        | some q =>
          obtain ⟨ver, v⟩ := q
          rw [hv] at hr
          simp only at hr
          cases hmm : getM (l.drop (u + v)) 6 with
          | none => rw [hmm] at hr; simp at hr
          | some r =>
            obtain ⟨many, y⟩ := r
            rw [hmm] at hr
            simp only at hr
            unfold contF at hr
            cases hf : getF many (l.drop (u + v + y)) with
            | none => rw [hf] at hr; simp at hr
            | some s2 =>
              obtain ⟨gs, z⟩ := s2
              rw [hf] at hr
              simp only [List.nil_append, Option.some.injEq, Prod.mk.injEq] at hr
              obtain ⟨rfl, rfl⟩ := hr
              obtain ⟨h1, h2⟩ := getF_take many _ gs z (byteL_drop hb _) hf
              obtain ⟨h3, _⟩ := getF_names many _ gs z hf
              have e1 := (readT_take hb hg).2
              have e2 := (getM_take (byteL_drop hb _) hv).1
              have e3 := (getM_take (byteL_drop hb _) hmm).1
              rw [List.length_drop] at h2
              have h5 := (getM_used hmm).2.2
              rw [List.length_drop] at h5
              have h6 := (getM_used hv).2.2
              rw [List.length_drop] at h6
              have h7 := (readT_used hg).1
              refine ⟨by omega, ?_⟩
              rw [take_add' (take_add' (take_add' e1 e2) e3) h1]
              simp [bytesS, putS, h3]
    · rw [if_neg hm] at h; simp at h
/-- A beginning of a schema's bytes is none. -/
theorem getS_cut {x : SSchema} (h : mayS x = true) (hb : byteL (bytesS x)) {i : Nat} (hi : i < (bytesS x).length) : getS ((bytesS x).take i) = none := by
  cases hg : getS ((bytesS x).take i) with
  | none => rfl
  | some p =>
    obtain ⟨y, n⟩ := p
    obtain ⟨hm, hn, ht⟩ := getS_take (byteL_take hb i) hg
    rw [List.length_take] at hn
    rw [List.take_take, Nat.min_eq_left (by omega)] at ht
    have e := getS_put (x := x) [] h
    rw [List.append_nil] at e
    have e2 : bytesS x = bytesS y ++ (bytesS x).drop n := by rw [← ht, List.take_append_drop]
    rw [e2, getS_put _ hm] at e
    simp only [Option.some.injEq, Prod.mk.injEq] at e
    have h2 := congrArg List.length ht
    rw [List.length_take] at h2
    have h3 := congrArg List.length e2
    rw [List.length_append, List.length_drop] at h3
    rw [List.length_append, List.length_drop] at e
    omega
theorem bytesS_inj {x y : SSchema} (hx : mayS x = true) (hy : mayS y = true) (h : bytesS x = bytesS y) : x = y := by
  have e := getS_put (x := x) [] hx
  rw [h, getS_put _ hy] at e
  simp only [Option.some.injEq, Prod.mk.injEq] at e
  exact e.1.symm
end Go.Proofs.Ytbgdamlidohfhaa.P

/- How large a schema is that a statement speaks of: its call, told; no condition but those that it names. -/
namespace Go.Proofs.Ytbgdamlidohfhaa.P
open Go.RowKit Go.Proofs.YtbgdamlidohfhaaW.PrintWords Go.Proofs.YtbgdamlidohfhaaW.PrintLast Go.Proofs.YtbgdamlidohfhaaW.PrintMore
set_option linter.unusedVariables false
theorem few5_told (x : SSchema) : ∃ b, (b = true → x.f2.length ≤ 10) ∧ ∀ (A : Option Addr) (c : Nat) (w : World), Kd.C kField w A x.f2.length x.f2 → x.f2.length ≤ c → Calls Try.prog 17 #[.agg #[.string x.f0, .int .i64 x.f1, .slice A x.f2.length c]] w (boolPost b w) := by
  obtain ⟨b, h1, h2⟩ := few5_some x.f0 x.f1 x.f2 (k := 20) (by decide)
  exact ⟨b, h2, fun A c w hr hc => towncrierlaw05_Few.calls 20 x.f0 x.f1 A c x.f2 b w hr hc h1⟩
end Go.Proofs.Ytbgdamlidohfhaa.P

namespace Go.Proofs.Ytbgdamlidohfhaa.P
open Go.RowKit Go.Proofs.YtbgdamlidohfhaaW.PrintWords Go.Proofs.YtbgdamlidohfhaaW.PrintLast Go.Proofs.YtbgdamlidohfhaaW.PrintMore
attribute [local go_sem] max2_int min2_int max_two min_two max_three min_three max_four min_four   -- for this text's walks alone
set_option linter.unusedVariables false
set_option linter.unusedSimpArgs false

/-! ### slices_IndexFunc_api_Schema: function 56 -/
set_option maxHeartbeats 400000 in
theorem slices_IndexFunc_api_Schema.told (g : Nat) (caps : Array Value) (p : SSchema → Bool) (A0 : Option Addr) (cp : Nat) (l0 : List SSchema) (w : World) (eg : ∀ args w, (callFunc g args).run Try.prog w = .ok (.enter g args) w) (hp : Tells Try.prog kSchema g caps p w) (hr0 : Kd.C kSchema w A0 l0.length l0) (hc0 : l0.length ≤ cp) :
    Calls Try.prog 56 #[.slice A0 l0.length cp, .func (.func g) #[] caps] w (idxPost p l0 w) := by
  have HR0 := Aside0.mk hr0
  have HC0 := Aside0.mk hc0
  have HP := Aside0.mk hp
  have hm := hr0.2.1
  clear hr0 hc0 hp
  go_enter Try.func56, Try.ntmps56
  go_wp2
  go_loopw [4, 5, 8] (fun v4 v5 v8 w' => ∃ k : Nat, v8 = .int .i64 k ∧ idxRel p l0 zSchema w k w') (fun _ _ i _ => l0.length - (intOf i).toNat)
  case atStart => exact ⟨0, rfl, Nat.zero_le _, fun i hi => by omega, Below.refl _ _⟩
  case round =>
    obtain ⟨k, rfl, HK⟩ := hrel
    have HK := Aside0.mk HK
    by_cases hlt : k < l0.length
    · obtain ⟨ad, cs, e, hl, hK, hcell⟩ := Kd.C_get (Kd.C_below HR0.out HK.out.2.2) zSchema (k : Int) (by omega) (by omega)
      cases e
      simp only [Int.toNat_natCast] at hK hcell
      obtain ⟨c0, c1, c2, rfl⟩ := cells3 cs hl
      have hx0 : wr.cell? (ad.add (k * 3)) = some c0 := hcell 0 _ rfl
      have hx1 : wr.cell? ⟨(ad.add (k * 3)).block, (ad.add (k * 3)).off + 1, none⟩ = some c1 := by rw [← add_field _ _ 1 (by omega)]; exact hcell 1 _ rfl
      have hx2 : wr.cell? ⟨(ad.add (k * 3)).block, (ad.add (k * 3)).off + 2, none⟩ = some c2 := by rw [← add_field _ _ 2 (by omega)]; exact hcell 2 _ rfl
      have hcall := HP.out (l0.getD k zSchema) _ wr HK.out.2.2 hK
      clear hcell hK hl
      cases hp : p (l0.getD k zSchema) with
      | true =>
        rw [hp] at hcall
        have HQ := Aside0.mk hp; clear hp
        go_wp2_with (go_at_fn g; refine hcall.mono ?_; rintro e w1 ⟨rfl, hb1⟩)
        go_ret
        exact ⟨by rw [idx_skip p zSchema l0 k HK.out.2.1 hlt HQ.out]; rfl, below_step HK.out.2.2 hb1⟩
      | false =>
        rw [hp] at hcall
        have HQ := Aside0.mk hp; clear hp
        go_wp2_with (go_at_fn g; refine hcall.mono ?_; rintro e w1 ⟨rfl, hb1⟩)
        go_roundw
        case rel => exact ⟨k + 1, by go_num, by omega, fun i hi => by rcases Nat.lt_succ_iff_lt_or_eq.1 hi with h | rfl; exact HK.out.2.1 i h; exact HQ.out, below_step HK.out.2.2 hb1⟩
        case measure => simp [intOf]; omega
    · go_wp2
      go_ret
      exact ⟨by rw [idx_none p zSchema l0 (fun i hi => HK.out.2.1 i (by omega))]; rfl, HK.out.2.2⟩

end Go.Proofs.Ytbgdamlidohfhaa.P

namespace Go.Proofs.Ytbgdamlidohfhaa.P
open Go.RowKit Go.Proofs.YtbgdamlidohfhaaW.PrintWords Go.Proofs.YtbgdamlidohfhaaW.PrintLast Go.Proofs.YtbgdamlidohfhaaW.PrintMore
attribute [local go_sem] max2_int min2_int max_two min_two max_three min_three max_four min_four   -- for this text's walks alone
set_option linter.unusedVariables false
set_option linter.unusedSimpArgs false

/-! ### registry_at: function 39 -/
theorem at1_told (nm : ByteArray) (B : Nat) (w : World) (hB : B < w.heap.size) (hc : w.cell? ⟨B, 0, none⟩ = some (.string nm)) :
    Tells Try.prog kSchema 57 #[.pointer (some ⟨B, 0, none⟩)] (fun x : SSchema => x.f0.toList == nm.toList) w := by
  intro x cs W hW hK
  obtain ⟨A2, c2, rfl, _, _⟩ := kSchema_open hK
  have hc2 : W.cell? ⟨B, 0, none⟩ = some (.string nm) := (hW.cell (p := ⟨B, 0, none⟩) hB).trans hc
  have hB2 : B < W.heap.size := Nat.lt_of_lt_of_le hB hW.size
  clear hc hW hK hB
  show Calls _ _ #[.agg #[.string x.f0, .int .i64 x.f1, .slice A2 x.f2.length c2], .pointer (some ⟨B, 0, none⟩)] W (boolPost (x.f0.toList == nm.toList) W)
  go_enter Try.func57, Try.ntmps57
  go_wp2
  go_ret
  exact ⟨rfl, (Below.refl _ _).alloc (Nat.le_refl _) _⟩
/-- Where the one of a name is; -1: nowhere. -/
def registry_at.f (l0 : List SSchema) (a1 : ByteArray) : Option Int := some (idx (fun x : SSchema => x.f0.toList == a1.toList) l0)
set_option maxHeartbeats 1000000 in
theorem registry_at.calls (A0 : Option Addr) (c0 : Nat) (l0 : List SSchema) (a1 : ByteArray) (r : Int) (w : World) (hr0 : Kd.C kSchema w A0 l0.length l0) (hc0 : l0.length ≤ c0) (h : registry_at.f l0 a1 = some r) :
    Calls Try.prog 39 #[.slice A0 l0.length c0, .string a1] w fun e w' => e = .returned (.int .i64 r) ∧ Below w.heap.size w w' := by
  obtain rfl := Option.some.inj h
  clear h
  have hb0 : Below w.heap.size w (w.alloc (.cells #[.string a1] 9)) := (Below.refl _ _).alloc (Nat.le_refl _) _
  have HC1 := Aside0.mk (slices_IndexFunc_api_Schema.told 57 #[.pointer (some ⟨w.heap.size, 0, none⟩)] (fun x : SSchema => x.f0.toList == a1.toList) A0 c0 l0 (w.alloc (.cells #[.string a1] 9)) (enters_of Try.func57 (by kernel_rfl) rfl) (at1_told a1 w.heap.size _ (by simp) ((blk_cell (blk_new _ _) 0).trans rfl)) (Kd.C_below hr0 hb0) hc0)
  clear hr0 hc0
  go_enter Try.func39, Try.ntmps39
  go_wp2_with (go_at_call 56; refine HC1.out.mono ?_; rintro e w1 ⟨rfl, hb1⟩)
  go_ret
  exact ⟨rfl, below_step hb0 hb1⟩

end Go.Proofs.Ytbgdamlidohfhaa.P

namespace Go.Proofs.Ytbgdamlidohfhaa.P
open Go.RowKit Go.Proofs.YtbgdamlidohfhaaW.PrintWords Go.Proofs.YtbgdamlidohfhaaW.PrintLast Go.Proofs.YtbgdamlidohfhaaW.PrintMore
attribute [local go_sem] max2_int min2_int max_two min_two max_three min_three max_four min_four   -- for this text's walks alone
set_option linter.unusedVariables false
set_option linter.unusedSimpArgs false

/-! ### registry_May: function 25 -/
def registry_May.l0 : Nat → List (SSchema) → List (SSchema) → Int → Int → Option (Bool)
  | 0, _, _, _, _ => none
  | k + 1, x0, x5, x6, x7 => if x7 < x6 then (if 0 ≤ x7 then (if x7 < (x5.length : Int) then ((schema_May.f ((rd_TSchema x5 x7).f0) ((rd_TSchema x5 x7).f1) ((rd_TSchema x5 x7).f2)).bind fun t103 => (if t103 = true then ((registry_at.f x0 ((rd_TSchema x5 x7).f0)).bind fun t104 => (if t104 = x7 then (registry_May.l0 k x0 x5 x6 (wrap64 (x7 + 1))) else (some false))) else (some false))) else (none)) else (none)) else (some (decide ((x0.length : Int) ≤ 8)))
def registry_May.f (k : Nat) (l0 : List (SSchema)) : Option (Bool) := registry_May.l0 k l0 l0 (l0.length : Int) 0
theorem registry_May.mono_l : ∀ k, (∀ y0 y1 y2 y3, LeO (registry_May.l0 k y0 y1 y2 y3) (registry_May.l0 (k + 1) y0 y1 y2 y3))
  | 0 => fun _ _ _ _ r h => by simp [registry_May.l0] at h
  | k + 1 => by
    have ih0 := registry_May.mono_l k
    · intro y0 y1 y2 y3
      unfold registry_May.l0
      repeat' first
      | (with_reducible exact ih0 _ _ _ _)
      | (with_reducible exact LeO.refl _)
      | (with_reducible exact LeO.none _)
      | (with_reducible refine LeO.ite ?_ ?_)
      | (with_reducible refine LeO.bind ?_ (fun _ => ?_))
      | exact ih0 _ _ _ _
      | exact LeO.none _
      | refine LeO.ite ?_ ?_
      | refine LeO.bind ?_ (fun _ => ?_)
theorem registry_May.mono : ∀ a0 k, LeO (registry_May.f k a0) (registry_May.f (k + 1) a0) := by
  intro a0 k
  have ih0 := registry_May.mono_l k
  unfold registry_May.f
  repeat' first
      | (with_reducible exact ih0 _ _ _ _)
      | (with_reducible exact LeO.refl _)
      | (with_reducible exact LeO.none _)
      | (with_reducible refine LeO.ite ?_ ?_)
      | (with_reducible refine LeO.bind ?_ (fun _ => ?_))
      | exact ih0 _ _ _ _
      | exact LeO.none _
      | refine LeO.ite ?_ ?_
      | refine LeO.bind ?_ (fun _ => ?_)
set_option maxHeartbeats 8000000 in
set_option maxRecDepth 100000 in
theorem registry_May.calls (k : Nat) (A0 : Option Addr) (c0 : Nat) (l0 : List (SSchema)) (r : Bool) (w : World) (hr0 : Kd.C kSchema w A0 l0.length l0) (hc0 : l0.length ≤ c0) (h : registry_May.f k l0 = some r) :
    Calls Try.prog 25 #[.slice A0 l0.length c0] w fun e w' => e = .returned (.bool r) ∧ Below w.heap.size w w' := by
  have hu25 := Try.underlying25
  have HR0 := Aside0.mk hr0
  have HC0 := Aside0.mk hc0
  clear hr0 hc0
  have HB := Aside0.mk (Below.refl w.heap.size w)
  have H : (registry_May.l0 k l0 l0 (l0.length : Int) 0) = some r := h
  clear h
  have H' := Aside0.mk H
  clear H
  go_enter Try.func25, Try.ntmps25
  go_wp2
  go_loopg [7] k (fun kq v7 w' => ∃ (x7_1 : Int), v7 = .int .i64 x7_1 ∧ Aside0 (registry_May.l0 kq l0 l0 (l0.length : Int) x7_1 = some r) ∧ Aside0 (kq ≤ k) ∧ Aside0 (Below w.heap.size w w'))
  case atStart => exact ⟨(0), (by first | rfl | (simp; done) | (simp [*]; done)), H', ⟨Nat.le_refl _⟩, ⟨by repeat (first | (with_reducible first | exact HB.out | apply below_alloc | apply pw_below_drewN | apply below_drew1) | exact HB.out)⟩⟩
  case round =>
    clear H'
    obtain ⟨x7_1, rfl, HA, HK1, HB⟩ := hrel
    cases gk with
    | zero => exact absurd HA.out (by simp [registry_May.l0])
    | succ k1 =>
      have H := HA.out
      clear HA
      simp only [registry_May.l0] at H
      by_cases c2 : x7_1 < (l0.length : Int)
      · rw [if_pos c2] at H
        have c2b0 : decide (x7_1 < (l0.length : Int)) = true := decide_eq_true c2
        clear c2
        by_cases c3 : 0 ≤ x7_1
        · rw [if_pos c3] at H
          have c3b0 : decide (0 ≤ x7_1) = true := decide_eq_true c3
          clear c3
          by_cases c4 : x7_1 < (l0.length : Int)
          · rw [if_pos c4] at H
            have c4b0 : decide (x7_1 < (l0.length : Int)) = true := decide_eq_true c4
            clear c4
            replace H := Option.bind_eq_some_iff.mp H
            obtain ⟨t103, A50, H⟩ := H
            replace H : (if t103 = true then ((registry_at.f l0 ((rd_TSchema l0 x7_1).f0)).bind fun t104 => (if t104 = x7_1 then (registry_May.l0 k1 l0 l0 (l0.length : Int) (wrap64 (x7_1 + 1))) else (some false))) else (some false)) = some r := H
            have A5 := Aside0.mk A50
            clear A50
            by_cases c6 : t103 = true
            · subst c6
              have H1 : ((registry_at.f l0 ((rd_TSchema l0 x7_1).f0)).bind fun t104 => (if t104 = x7_1 then (registry_May.l0 k1 l0 l0 (l0.length : Int) (wrap64 (x7_1 + 1))) else (some false))) = some r := by rw [if_pos rfl] at H; exact H
              clear H
              have H := H1
              clear H1
              replace H := Option.bind_eq_some_iff.mp H
              obtain ⟨t104, A70, H⟩ := H
              replace H : (if t104 = x7_1 then (registry_May.l0 k1 l0 l0 (l0.length : Int) (wrap64 (x7_1 + 1))) else (some false)) = some r := H
              have A7 := Aside0.mk A70
              clear A70
              by_cases c8 : t104 = x7_1
              · rw [if_pos c8] at H
                have c8b0 : (t104 == x7_1) = true := beq_iff_eq.mpr c8
                have c8b1 : (t104 != x7_1) = false := bne_eq_false_iff_eq.mpr c8
                clear c8
                have H' := Aside0.mk H
                clear H
                have p101 : 0 ≤ (x7_1 : Int) := of_decide_eq_true (by first | (with_reducible assumption) | assumption)
                have q101 : x7_1 < (l0.length : Int) := of_decide_eq_true (by first | (with_reducible assumption) | assumption)
                obtain ⟨ad101, A101_2, c101_2, e101, hx101_0, hx101_1, hx101_2, hl101_2, hi101_2⟩ := at_TSchema HR0.out x7_1 p101 q101
                cases e101
                replace hx101_0 := (HB.out.cell (World.block_lt_of_cell? w _ hx101_0)).trans hx101_0
                replace hx101_1 := (HB.out.cell (World.block_lt_of_cell? w _ hx101_1)).trans hx101_1
                replace hx101_2 := (HB.out.cell (World.block_lt_of_cell? w _ hx101_2)).trans hx101_2
                have HR101_2 := Aside0.mk hi101_2
                have HC101_2 := Aside0.mk hl101_2
                clear hi101_2 hl101_2
                replace p101 := eq_true p101
                replace q101 := eq_true q101
                go_wp2_with (first | ((with_reducible refine gate_dst (N := 4) rfl ?_); refine box_event ?hg (N := 4) ?hd (cs := #[.string (⟨#[]⟩ : ByteArray), .int .i64 0, .slice none 0 0]) (t := 25) ?hr ?_; (case hd => rfl); (case hg => rfl); (case hr => first | (go_simp; done) | (go_simp; rfl)); intro gb102 hg w9 hbox hb; have n0_ := Aside0.mk (below_step (by repeat (first | (with_reducible first | exact HB.out | apply below_alloc | apply pw_below_drewN | apply below_drew1) | exact HB.out)) hb); have n1_ := Aside0.mk (hbox); have n2_ := Aside0.mk ((by rw [hg]; exact (below_size (by repeat (first | (with_reducible first | exact HB.out | apply below_alloc | apply pw_below_drewN | apply below_drew1) | exact HB.out))) : w.heap.size ≤ gb102)); have n3_ := Aside0.mk ((by rw [hg]; exact (below_size (by repeat (first | (with_reducible first | exact HB.out | apply below_alloc | apply pw_below_drewN | apply below_drew1) | exact HB.out))) : w.heap.size ≤ gb102)); clear HB; have HB := n0_; have BK102 := n1_; have GW102 := n2_; have GE102 := n3_; clear n0_ n1_ n2_ n3_; clear hb hbox hg; have hcz10_0 : w9.cell? ⟨gb102, 0, none⟩ = some (.string (⟨#[]⟩ : ByteArray)) := (blk_cell BK102.out 0).trans rfl; have hcz10_1 : w9.cell? ⟨gb102, 1, none⟩ = some (.int .i64 0) := (blk_cell BK102.out 1).trans rfl; have hcz10_2 : w9.cell? ⟨gb102, 2, none⟩ = some (.slice none 0 0) := (blk_cell BK102.out 2).trans rfl; have hfz10_0 := blk_frozen BK102.out 0; have hfz10_1 := blk_frozen BK102.out 1; have hfz10_2 := blk_frozen BK102.out 2) | ((with_reducible refine gate_callee (f := 28) rfl ?_); refine goesL_ (some 13) rfl rfl Try.func28 (by kernel_rfl) rfl #[.agg #[.string ((rd_TSchema l0 x7_1).f0), .int .i64 ((rd_TSchema l0 x7_1).f1), .slice A101_2 ((rd_TSchema l0 x7_1).f2).length c101_2]] rfl (by (try simp only [List.map_toArray, List.map_cons, List.map_nil]); first | done | rfl | (simp only [List.length_drop, List.length_take]; rfl)) ?_; (with_reducible refine (schema_May.calls ((rd_TSchema l0 x7_1).f0) ((rd_TSchema l0 x7_1).f1) _ _ ((rd_TSchema l0 x7_1).f2) true _ ?side1 ?side2 A5.out).mono ?_); (case side1 => exact Kd.C_below HR101_2.out (by repeat (first | (with_reducible first | exact HB.out | apply below_alloc | apply pw_below_drewN | apply below_drew1 | refine below_set ?_ GE102.out) | exact HB.out))); (case side2 => exact HC101_2.out); rintro e w11 ⟨rfl, hb⟩; refine ⟨_, rfl, ?_⟩; have n0_ := Aside0.mk (blk_below (g := gb102) (o := .cells #[.string ((rd_TSchema l0 x7_1).f0), .int .i64 ((rd_TSchema l0 x7_1).f1), .slice A101_2 ((rd_TSchema l0 x7_1).f2).length c101_2] 25 (0, 0)) (by (with_reducible repeat (first | refine blk_drewN ?_ _ | refine blk_drew ?_ | refine blk_alloc ?_ _)); refine blk_put (cs := #[.string ((rd_TSchema l0 x7_1).f0), .int .i64 ((rd_TSchema l0 x7_1).f1), .slice none 0 0]) ?_ 2 _ rfl; (with_reducible repeat (first | refine blk_drewN ?_ _ | refine blk_drew ?_ | refine blk_alloc ?_ _)); refine blk_put (cs := #[.string ((rd_TSchema l0 x7_1).f0), .int .i64 0, .slice none 0 0]) ?_ 1 _ rfl; (with_reducible repeat (first | refine blk_drewN ?_ _ | refine blk_drew ?_ | refine blk_alloc ?_ _)); refine blk_put (cs := #[.string (⟨#[]⟩ : ByteArray), .int .i64 0, .slice none 0 0]) ?_ 0 _ rfl; (with_reducible repeat (first | refine blk_drewN ?_ _ | refine blk_drew ?_ | refine blk_alloc ?_ _)); exact BK102.out) hb); have n1_ := Aside0.mk (below_step (by repeat (first | (with_reducible first | exact HB.out | apply below_alloc | apply pw_below_drewN | apply below_drew1 | refine below_set ?_ GE102.out) | exact HB.out)) hb); clear BK102; clear HB; have BK102 := n0_; have HB := n1_; clear n0_ n1_; (try clear hb); (try clear hb2); (try clear hk); (try clear hi); have hcz12_0 : w11.cell? ⟨gb102, 0, none⟩ = some (.string ((rd_TSchema l0 x7_1).f0)) := (blk_cell BK102.out 0).trans rfl; have hcz12_1 : w11.cell? ⟨gb102, 1, none⟩ = some (.int .i64 ((rd_TSchema l0 x7_1).f1)) := (blk_cell BK102.out 1).trans rfl; have hcz12_2 : w11.cell? ⟨gb102, 2, none⟩ = some (.slice A101_2 ((rd_TSchema l0 x7_1).f2).length c101_2) := (blk_cell BK102.out 2).trans rfl; have hfz12_0 := blk_frozen BK102.out 0; have hfz12_1 := blk_frozen BK102.out 1; have hfz12_2 := blk_frozen BK102.out 2) | (go_at_call 39; (with_reducible refine (registry_at.calls _ _ l0 ((rd_TSchema l0 x7_1).f0) t104 _ ?side1 ?side2 A7.out).mono ?_); (case side1 => repeat (first | exact (Kd.C_below HR0.out HB.out) | (with_reducible refine Kd.C_alloc ?_ _) | (with_reducible refine Kd.C_drewN ?_ _) | (with_reducible refine Kd.C_drew ?_))); (case side2 => exact HC0.out); rintro e w13 ⟨rfl, hb⟩; have n0_ := Aside0.mk (blk_below (g := gb102) (o := .cells #[.string ((rd_TSchema l0 x7_1).f0), .int .i64 ((rd_TSchema l0 x7_1).f1), .slice A101_2 ((rd_TSchema l0 x7_1).f2).length c101_2] 25 (0, 0)) (by (with_reducible repeat (first | refine blk_drewN ?_ _ | refine blk_drew ?_ | refine blk_alloc ?_ _)); exact BK102.out) hb); have n1_ := Aside0.mk (below_step (by repeat (first | (with_reducible first | exact HB.out | apply below_alloc | apply pw_below_drewN | apply below_drew1 | refine below_set ?_ GE102.out) | exact HB.out)) hb); clear BK102; clear HB; have BK102 := n0_; have HB := n1_; clear n0_ n1_; (try clear hb); (try clear hb2); (try clear hk); (try clear hi)))
                go_roundg k1
                case measure => have := HK1.out; omega
                case rel => exact ⟨(wrap64 (x7_1 + 1)), (by first | rfl | (simp; done) | (simp [*]; done)), H', ⟨by have := HK1.out; omega⟩, ⟨by repeat (first | (with_reducible first | exact HB.out | apply below_alloc | apply pw_below_drewN | apply below_drew1 | refine below_set ?_ GE102.out) | exact HB.out)⟩⟩
              · rw [if_neg c8] at H
                have c8b0 : (t104 == x7_1) = false := beq_eq_false_iff_ne.mpr c8
                have c8b1 : (t104 != x7_1) = true := bne_iff_ne.mpr c8
                obtain rfl := Option.some.inj H
                have p101 : 0 ≤ (x7_1 : Int) := of_decide_eq_true (by first | (with_reducible assumption) | assumption)
                have q101 : x7_1 < (l0.length : Int) := of_decide_eq_true (by first | (with_reducible assumption) | assumption)
                obtain ⟨ad101, A101_2, c101_2, e101, hx101_0, hx101_1, hx101_2, hl101_2, hi101_2⟩ := at_TSchema HR0.out x7_1 p101 q101
                cases e101
                replace hx101_0 := (HB.out.cell (World.block_lt_of_cell? w _ hx101_0)).trans hx101_0
                replace hx101_1 := (HB.out.cell (World.block_lt_of_cell? w _ hx101_1)).trans hx101_1
                replace hx101_2 := (HB.out.cell (World.block_lt_of_cell? w _ hx101_2)).trans hx101_2
                have HR101_2 := Aside0.mk hi101_2
                have HC101_2 := Aside0.mk hl101_2
                clear hi101_2 hl101_2
                replace p101 := eq_true p101
                replace q101 := eq_true q101
                go_wp2_with (first | ((with_reducible refine gate_dst (N := 4) rfl ?_); refine box_event ?hg (N := 4) ?hd (cs := #[.string (⟨#[]⟩ : ByteArray), .int .i64 0, .slice none 0 0]) (t := 25) ?hr ?_; (case hd => rfl); (case hg => rfl); (case hr => first | (go_simp; done) | (go_simp; rfl)); intro gb102 hg w14 hbox hb; have n0_ := Aside0.mk (below_step (by repeat (first | (with_reducible first | exact HB.out | apply below_alloc | apply pw_below_drewN | apply below_drew1) | exact HB.out)) hb); have n1_ := Aside0.mk (hbox); have n2_ := Aside0.mk ((by rw [hg]; exact (below_size (by repeat (first | (with_reducible first | exact HB.out | apply below_alloc | apply pw_below_drewN | apply below_drew1) | exact HB.out))) : w.heap.size ≤ gb102)); have n3_ := Aside0.mk ((by rw [hg]; exact (below_size (by repeat (first | (with_reducible first | exact HB.out | apply below_alloc | apply pw_below_drewN | apply below_drew1) | exact HB.out))) : w.heap.size ≤ gb102)); clear HB; have HB := n0_; have BK102 := n1_; have GW102 := n2_; have GE102 := n3_; clear n0_ n1_ n2_ n3_; clear hb hbox hg; have hcz15_0 : w14.cell? ⟨gb102, 0, none⟩ = some (.string (⟨#[]⟩ : ByteArray)) := (blk_cell BK102.out 0).trans rfl; have hcz15_1 : w14.cell? ⟨gb102, 1, none⟩ = some (.int .i64 0) := (blk_cell BK102.out 1).trans rfl; have hcz15_2 : w14.cell? ⟨gb102, 2, none⟩ = some (.slice none 0 0) := (blk_cell BK102.out 2).trans rfl; have hfz15_0 := blk_frozen BK102.out 0; have hfz15_1 := blk_frozen BK102.out 1; have hfz15_2 := blk_frozen BK102.out 2) | ((with_reducible refine gate_callee (f := 28) rfl ?_); refine goesL_ (some 13) rfl rfl Try.func28 (by kernel_rfl) rfl #[.agg #[.string ((rd_TSchema l0 x7_1).f0), .int .i64 ((rd_TSchema l0 x7_1).f1), .slice A101_2 ((rd_TSchema l0 x7_1).f2).length c101_2]] rfl (by (try simp only [List.map_toArray, List.map_cons, List.map_nil]); first | done | rfl | (simp only [List.length_drop, List.length_take]; rfl)) ?_; (with_reducible refine (schema_May.calls ((rd_TSchema l0 x7_1).f0) ((rd_TSchema l0 x7_1).f1) _ _ ((rd_TSchema l0 x7_1).f2) true _ ?side1 ?side2 A5.out).mono ?_); (case side1 => exact Kd.C_below HR101_2.out (by repeat (first | (with_reducible first | exact HB.out | apply below_alloc | apply pw_below_drewN | apply below_drew1 | refine below_set ?_ GE102.out) | exact HB.out))); (case side2 => exact HC101_2.out); rintro e w16 ⟨rfl, hb⟩; refine ⟨_, rfl, ?_⟩; have n0_ := Aside0.mk (blk_below (g := gb102) (o := .cells #[.string ((rd_TSchema l0 x7_1).f0), .int .i64 ((rd_TSchema l0 x7_1).f1), .slice A101_2 ((rd_TSchema l0 x7_1).f2).length c101_2] 25 (0, 0)) (by (with_reducible repeat (first | refine blk_drewN ?_ _ | refine blk_drew ?_ | refine blk_alloc ?_ _)); refine blk_put (cs := #[.string ((rd_TSchema l0 x7_1).f0), .int .i64 ((rd_TSchema l0 x7_1).f1), .slice none 0 0]) ?_ 2 _ rfl; (with_reducible repeat (first | refine blk_drewN ?_ _ | refine blk_drew ?_ | refine blk_alloc ?_ _)); refine blk_put (cs := #[.string ((rd_TSchema l0 x7_1).f0), .int .i64 0, .slice none 0 0]) ?_ 1 _ rfl; (with_reducible repeat (first | refine blk_drewN ?_ _ | refine blk_drew ?_ | refine blk_alloc ?_ _)); refine blk_put (cs := #[.string (⟨#[]⟩ : ByteArray), .int .i64 0, .slice none 0 0]) ?_ 0 _ rfl; (with_reducible repeat (first | refine blk_drewN ?_ _ | refine blk_drew ?_ | refine blk_alloc ?_ _)); exact BK102.out) hb); have n1_ := Aside0.mk (below_step (by repeat (first | (with_reducible first | exact HB.out | apply below_alloc | apply pw_below_drewN | apply below_drew1 | refine below_set ?_ GE102.out) | exact HB.out)) hb); clear BK102; clear HB; have BK102 := n0_; have HB := n1_; clear n0_ n1_; (try clear hb); (try clear hb2); (try clear hk); (try clear hi); have hcz17_0 : w16.cell? ⟨gb102, 0, none⟩ = some (.string ((rd_TSchema l0 x7_1).f0)) := (blk_cell BK102.out 0).trans rfl; have hcz17_1 : w16.cell? ⟨gb102, 1, none⟩ = some (.int .i64 ((rd_TSchema l0 x7_1).f1)) := (blk_cell BK102.out 1).trans rfl; have hcz17_2 : w16.cell? ⟨gb102, 2, none⟩ = some (.slice A101_2 ((rd_TSchema l0 x7_1).f2).length c101_2) := (blk_cell BK102.out 2).trans rfl; have hfz17_0 := blk_frozen BK102.out 0; have hfz17_1 := blk_frozen BK102.out 1; have hfz17_2 := blk_frozen BK102.out 2) | (go_at_call 39; (with_reducible refine (registry_at.calls _ _ l0 ((rd_TSchema l0 x7_1).f0) t104 _ ?side1 ?side2 A7.out).mono ?_); (case side1 => repeat (first | exact (Kd.C_below HR0.out HB.out) | (with_reducible refine Kd.C_alloc ?_ _) | (with_reducible refine Kd.C_drewN ?_ _) | (with_reducible refine Kd.C_drew ?_))); (case side2 => exact HC0.out); rintro e w18 ⟨rfl, hb⟩; have n0_ := Aside0.mk (blk_below (g := gb102) (o := .cells #[.string ((rd_TSchema l0 x7_1).f0), .int .i64 ((rd_TSchema l0 x7_1).f1), .slice A101_2 ((rd_TSchema l0 x7_1).f2).length c101_2] 25 (0, 0)) (by (with_reducible repeat (first | refine blk_drewN ?_ _ | refine blk_drew ?_ | refine blk_alloc ?_ _)); exact BK102.out) hb); have n1_ := Aside0.mk (below_step (by repeat (first | (with_reducible first | exact HB.out | apply below_alloc | apply pw_below_drewN | apply below_drew1 | refine below_set ?_ GE102.out) | exact HB.out)) hb); clear BK102; clear HB; have BK102 := n0_; have HB := n1_; clear n0_ n1_; (try clear hb); (try clear hb2); (try clear hk); (try clear hi)))
                go_ret
                exact ⟨by first | rfl | (simp [errW_none, errW_some] <;> rfl) | (simp [*, errW_none, errW_some] <;> rfl), by repeat (first | (with_reducible first | exact HB.out | apply below_alloc | apply pw_below_drewN | apply below_drew1 | refine below_set ?_ GE102.out) | exact HB.out)⟩
            · replace c6 := Bool.eq_false_iff.mpr c6
              subst c6
              have H1 : (some false) = some r := by rw [if_neg (show ¬ (false = true) by decide)] at H; exact H
              clear H
              have H := H1
              clear H1
              obtain rfl := Option.some.inj H
              have p101 : 0 ≤ (x7_1 : Int) := of_decide_eq_true (by first | (with_reducible assumption) | assumption)
              have q101 : x7_1 < (l0.length : Int) := of_decide_eq_true (by first | (with_reducible assumption) | assumption)
              obtain ⟨ad101, A101_2, c101_2, e101, hx101_0, hx101_1, hx101_2, hl101_2, hi101_2⟩ := at_TSchema HR0.out x7_1 p101 q101
              cases e101
              replace hx101_0 := (HB.out.cell (World.block_lt_of_cell? w _ hx101_0)).trans hx101_0
              replace hx101_1 := (HB.out.cell (World.block_lt_of_cell? w _ hx101_1)).trans hx101_1
              replace hx101_2 := (HB.out.cell (World.block_lt_of_cell? w _ hx101_2)).trans hx101_2
              have HR101_2 := Aside0.mk hi101_2
              have HC101_2 := Aside0.mk hl101_2
              clear hi101_2 hl101_2
              replace p101 := eq_true p101
              replace q101 := eq_true q101
              go_wp2_with (first | ((with_reducible refine gate_dst (N := 4) rfl ?_); refine box_event ?hg (N := 4) ?hd (cs := #[.string (⟨#[]⟩ : ByteArray), .int .i64 0, .slice none 0 0]) (t := 25) ?hr ?_; (case hd => rfl); (case hg => rfl); (case hr => first | (go_simp; done) | (go_simp; rfl)); intro gb102 hg w19 hbox hb; have n0_ := Aside0.mk (below_step (by repeat (first | (with_reducible first | exact HB.out | apply below_alloc | apply pw_below_drewN | apply below_drew1) | exact HB.out)) hb); have n1_ := Aside0.mk (hbox); have n2_ := Aside0.mk ((by rw [hg]; exact (below_size (by repeat (first | (with_reducible first | exact HB.out | apply below_alloc | apply pw_below_drewN | apply below_drew1) | exact HB.out))) : w.heap.size ≤ gb102)); have n3_ := Aside0.mk ((by rw [hg]; exact (below_size (by repeat (first | (with_reducible first | exact HB.out | apply below_alloc | apply pw_below_drewN | apply below_drew1) | exact HB.out))) : w.heap.size ≤ gb102)); clear HB; have HB := n0_; have BK102 := n1_; have GW102 := n2_; have GE102 := n3_; clear n0_ n1_ n2_ n3_; clear hb hbox hg; have hcz20_0 : w19.cell? ⟨gb102, 0, none⟩ = some (.string (⟨#[]⟩ : ByteArray)) := (blk_cell BK102.out 0).trans rfl; have hcz20_1 : w19.cell? ⟨gb102, 1, none⟩ = some (.int .i64 0) := (blk_cell BK102.out 1).trans rfl; have hcz20_2 : w19.cell? ⟨gb102, 2, none⟩ = some (.slice none 0 0) := (blk_cell BK102.out 2).trans rfl; have hfz20_0 := blk_frozen BK102.out 0; have hfz20_1 := blk_frozen BK102.out 1; have hfz20_2 := blk_frozen BK102.out 2) | ((with_reducible refine gate_callee (f := 28) rfl ?_); refine goesL_ (some 13) rfl rfl Try.func28 (by kernel_rfl) rfl #[.agg #[.string ((rd_TSchema l0 x7_1).f0), .int .i64 ((rd_TSchema l0 x7_1).f1), .slice A101_2 ((rd_TSchema l0 x7_1).f2).length c101_2]] rfl (by (try simp only [List.map_toArray, List.map_cons, List.map_nil]); first | done | rfl | (simp only [List.length_drop, List.length_take]; rfl)) ?_; (with_reducible refine (schema_May.calls ((rd_TSchema l0 x7_1).f0) ((rd_TSchema l0 x7_1).f1) _ _ ((rd_TSchema l0 x7_1).f2) false _ ?side1 ?side2 A5.out).mono ?_); (case side1 => exact Kd.C_below HR101_2.out (by repeat (first | (with_reducible first | exact HB.out | apply below_alloc | apply pw_below_drewN | apply below_drew1 | refine below_set ?_ GE102.out) | exact HB.out))); (case side2 => exact HC101_2.out); rintro e w21 ⟨rfl, hb⟩; refine ⟨_, rfl, ?_⟩; have n0_ := Aside0.mk (blk_below (g := gb102) (o := .cells #[.string ((rd_TSchema l0 x7_1).f0), .int .i64 ((rd_TSchema l0 x7_1).f1), .slice A101_2 ((rd_TSchema l0 x7_1).f2).length c101_2] 25 (0, 0)) (by (with_reducible repeat (first | refine blk_drewN ?_ _ | refine blk_drew ?_ | refine blk_alloc ?_ _)); refine blk_put (cs := #[.string ((rd_TSchema l0 x7_1).f0), .int .i64 ((rd_TSchema l0 x7_1).f1), .slice none 0 0]) ?_ 2 _ rfl; (with_reducible repeat (first | refine blk_drewN ?_ _ | refine blk_drew ?_ | refine blk_alloc ?_ _)); refine blk_put (cs := #[.string ((rd_TSchema l0 x7_1).f0), .int .i64 0, .slice none 0 0]) ?_ 1 _ rfl; (with_reducible repeat (first | refine blk_drewN ?_ _ | refine blk_drew ?_ | refine blk_alloc ?_ _)); refine blk_put (cs := #[.string (⟨#[]⟩ : ByteArray), .int .i64 0, .slice none 0 0]) ?_ 0 _ rfl; (with_reducible repeat (first | refine blk_drewN ?_ _ | refine blk_drew ?_ | refine blk_alloc ?_ _)); exact BK102.out) hb); have n1_ := Aside0.mk (below_step (by repeat (first | (with_reducible first | exact HB.out | apply below_alloc | apply pw_below_drewN | apply below_drew1 | refine below_set ?_ GE102.out) | exact HB.out)) hb); clear BK102; clear HB; have BK102 := n0_; have HB := n1_; clear n0_ n1_; (try clear hb); (try clear hb2); (try clear hk); (try clear hi)))
              go_ret
              exact ⟨by first | rfl | (simp [errW_none, errW_some] <;> rfl) | (simp [*, errW_none, errW_some] <;> rfl), by repeat (first | (with_reducible first | exact HB.out | apply below_alloc | apply pw_below_drewN | apply below_drew1 | refine below_set ?_ GE102.out) | exact HB.out)⟩
          · rw [if_neg c4] at H
            exact absurd H (by simp)
        · rw [if_neg c3] at H
          exact absurd H (by simp)
      · rw [if_neg c2] at H
        have c2b0 : decide (x7_1 < (l0.length : Int)) = false := decide_eq_false c2
        clear c2
        obtain rfl := Option.some.inj H
        go_wp2
        go_ret
        exact ⟨by first | rfl | (simp [errW_none, errW_some] <;> rfl) | (simp [*, errW_none, errW_some] <;> rfl), by repeat (first | (with_reducible first | exact HB.out | apply below_alloc | apply pw_below_drewN | apply below_drew1) | exact HB.out)⟩

end Go.Proofs.Ytbgdamlidohfhaa.P

namespace Go.Proofs.Ytbgdamlidohfhaa.P
open Go.RowKit Go.Proofs.YtbgdamlidohfhaaW.PrintWords Go.Proofs.YtbgdamlidohfhaaW.PrintLast Go.Proofs.YtbgdamlidohfhaaW.PrintMore
attribute [local go_sem] max2_int min2_int max_two min_two max_three min_three max_four min_four   -- for this text's walks alone
set_option linter.unusedVariables false
set_option linter.unusedSimpArgs false

/-! ### slices_Clone_api_Field: function 58 -/
def slices_Clone_api_Field.f (l0 : List (SField)) : Option (List (SField)) := if l0.length < 5864062014805 then some l0 else none
set_option maxHeartbeats 400000 in
theorem slices_Clone_api_Field.calls (A0 : Option Addr) (c0 : Nat) (l0 : List (SField)) (r : List (SField)) (w : World) (hr0 : Kd.C kField w A0 l0.length l0) (hc0 : l0.length ≤ c0) (h : slices_Clone_api_Field.f l0 = some r) :
    Calls Try.prog 58 #[.slice A0 l0.length c0] w fun e w' => ∃ v0_ : Value, e = .returned v0_ ∧ Kd.R kField 39 w' w.heap.size (fun _ => True) v0_ r ∧ Below w.heap.size w w' := by
  unfold slices_Clone_api_Field.f at h
  by_cases hm : l0.length < 5864062014805
  · rw [if_pos hm] at h
    obtain rfl := Option.some.inj h
    clear h
    show Calls _ _ _ _ (rowPost kField 39 l0 w)
    have hu := Try.underlying23
    cases A0 with
    | none =>
      obtain rfl := C_none hr0
      have hq := fun (W : World) (c : Nat) => Go.Lib.run_eql_slice_nil (P := Try.prog) W 23 39 none 0 c 0 0 hu
      go_enter Try.func58, Try.ntmps58
      go_wp2
      go_ret
      exact ⟨_, rfl, Kd.R_nil _ _ _ _ _, Below.refl _ _⟩
    | some ad =>
      have HR := Aside0.mk hr0
      clear hr0
      have hq := fun (W : World) (m c : Nat) => Go.Lib.run_eql_slice_nil (P := Try.prog) W 23 39 (some ad) m c 0 0 hu
      go_enter Try.func58, Try.ntmps58
      go_wp2_with ((with_reducible refine gate_builtin (b := .append) (xs := #[.tmp 5, .tmp 6]) rfl ?_); at_builtin; refine Kd.R_append_rows kField (Rr := Kd.K kField (w.alloc (.cells #[] 39))) (w0 := w) w.heap.size rfl (.tmp 5) (.tmp 6) 23 39 (.agg #[(.string ⟨#[]⟩), (.int .i64 0)]) 24 rfl Try.underlying23 infoField rfl (by decide) (by omega) (.slice (some ⟨w.heap.size, 0, none⟩) 0 0) [] l0 (some ad) l0.length c0 (fun _ => True) (fun _ => False) rfl rfl ?aO ?aR ?aK (fun _ h => h.elim) (fun _ _ => trivial) ?aB ?aS ?aL ?_; (case aO => exact Kd.R_empty _ _ _ _ (Nat.le_refl _)); (case aR => exact Kd.C_below HR.out ((Below.refl _ _).alloc (Nat.le_refl _) _)); (case aB => exact (Below.refl _ _).alloc (Nat.le_refl _) _); (case aK => exact (fun x cs h => by obtain rfl := kField_open h; exact kField_mkM _ _ _ x)); (case aS => simp); (case aL => simp; omega); intro v1 w2 ho hb hg hat)
      have HO := Aside0.mk ho
      clear ho hg hat
      go_wp2
      go_ret
      exact ⟨_, rfl, HO.out, hb⟩
  · rw [if_neg hm] at h
    exact absurd h (by simp)

end Go.Proofs.Ytbgdamlidohfhaa.P

namespace Go.Proofs.Ytbgdamlidohfhaa.P
open Go.RowKit Go.Proofs.YtbgdamlidohfhaaW.PrintWords Go.Proofs.YtbgdamlidohfhaaW.PrintLast Go.Proofs.YtbgdamlidohfhaaW.PrintMore
attribute [local go_sem] max2_int min2_int max_two min_two max_three min_three max_four min_four   -- for this text's walks alone
set_option linter.unusedVariables false
set_option linter.unusedSimpArgs false

/-! ### registry_own: function 40 -/
def registry_own.f (a0_0 : ByteArray) (a0_1 : Int) (l0_2 : List (SField)) : Option (ByteArray × Int × (List (SField))) := (slices_Clone_api_Field.f l0_2).bind fun t121 => (some (a0_0, a0_1, t121))
set_option maxHeartbeats 8000000 in
set_option maxRecDepth 100000 in
theorem registry_own.calls (a0_0 : ByteArray) (a0_1 : Int) (A0_2 : Option Addr) (c0_2 : Nat) (l0_2 : List (SField)) (r1 : ByteArray) (r2 : Int) (r3 : List (SField)) (w : World) (hr0_2 : Kd.C kField w A0_2 l0_2.length l0_2) (hc0_2 : l0_2.length ≤ c0_2) (h : registry_own.f a0_0 a0_1 l0_2 = some (r1, r2, r3)) :
    Calls Try.prog 40 #[.agg #[.string a0_0, .int .i64 a0_1, .slice A0_2 l0_2.length c0_2]] w fun e w' => ∃ v2_ : Value, e = .returned (.agg #[.string r1, .int .i64 r2, v2_]) ∧ Kd.R kField 39 w' w.heap.size (fun _ => True) v2_ r3 ∧ Below w.heap.size w w' := by
  have hu25 := Try.underlying25
  have HR0_2 := Aside0.mk hr0_2
  have HC0_2 := Aside0.mk hc0_2
  clear hr0_2 hc0_2
  have HB := Aside0.mk (Below.refl w.heap.size w)
  have H : ((slices_Clone_api_Field.f l0_2).bind fun t121 => (some (a0_0, a0_1, t121))) = some (r1, r2, r3) := h
  clear h
  replace H := Option.bind_eq_some_iff.mp H
  obtain ⟨t121, A20, H⟩ := H
  replace H : (some (a0_0, a0_1, t121)) = some (r1, r2, r3) := H
  have A2 := Aside0.mk A20
  clear A20
  simp only [Option.some.injEq, Prod.mk.injEq] at H
  obtain ⟨rfl, rfl, rfl⟩ := H
  go_enter Try.func40, Try.ntmps40
  go_wp2_with (first | ((with_reducible refine gate_dst (N := 1) rfl ?_); refine box_event ?hg (N := 1) ?hd (cs := #[.string a0_0, .int .i64 a0_1, .slice A0_2 l0_2.length c0_2]) (t := 25) ?hr ?_; (case hd => rfl); (case hg => rfl); (case hr => first | (go_simp; done) | (go_simp; rfl)); intro gb119 hg w3 hbox hb; have n0_ := Aside0.mk (below_step (by repeat (first | (with_reducible first | exact HB.out | apply below_alloc | apply pw_below_drewN | apply below_drew1) | exact HB.out)) hb); have n1_ := Aside0.mk (hbox); have n2_ := Aside0.mk ((by rw [hg]; exact (below_size (by repeat (first | (with_reducible first | exact HB.out | apply below_alloc | apply pw_below_drewN | apply below_drew1) | exact HB.out))) : w.heap.size ≤ gb119)); have n3_ := Aside0.mk ((by rw [hg]; exact (below_size (by repeat (first | (with_reducible first | exact HB.out | apply below_alloc | apply pw_below_drewN | apply below_drew1) | exact HB.out))) : w.heap.size ≤ gb119)); clear HB; have HB := n0_; have BK119 := n1_; have GW119 := n2_; have GE119 := n3_; clear n0_ n1_ n2_ n3_; clear hb hbox hg) | ((with_reducible refine gate_dst (N := 2) rfl ?_); refine box_event ?hg (N := 2) ?hd (cs := #[.string (⟨#[]⟩ : ByteArray), .int .i64 0, .slice none 0 0]) (t := 25) ?hr ?_; (case hd => rfl); (case hg => rfl); (case hr => first | (go_simp; done) | (go_simp; rfl)); intro gb120 hg w4 hbox hb; have n0_ := Aside0.mk (blk_below (g := gb119) (o := .cells #[.string a0_0, .int .i64 a0_1, .slice A0_2 l0_2.length c0_2] 25 (0, 0)) (by (with_reducible repeat (first | refine blk_drewN ?_ _ | refine blk_drew ?_ | refine blk_alloc ?_ _)); exact BK119.out) hb); have n1_ := Aside0.mk (below_step (by repeat (first | (with_reducible first | exact HB.out | apply below_alloc | apply pw_below_drewN | apply below_drew1 | refine below_set ?_ GE119.out) | exact HB.out)) hb); have n2_ := Aside0.mk (hbox); have n3_ := Aside0.mk ((by rw [hg]; exact (below_size (by repeat (first | (with_reducible first | exact HB.out | apply below_alloc | apply pw_below_drewN | apply below_drew1 | refine below_set ?_ GE119.out) | exact HB.out))) : w.heap.size ≤ gb120)); have n4_ := Aside0.mk ((by rw [hg]; exact (below_size (by repeat (first | (with_reducible first | exact HB.out | apply below_alloc | apply pw_below_drewN | apply below_drew1 | refine below_set ?_ GE119.out) | exact HB.out))) : w.heap.size ≤ gb120)); have n5_ := Aside0.mk ((by rw [hg]; exact Nat.ne_of_lt (blk_lt (g := gb119) (o := .cells #[.string a0_0, .int .i64 a0_1, .slice A0_2 l0_2.length c0_2] 25 (0, 0)) (by (with_reducible repeat (first | refine blk_drewN ?_ _ | refine blk_drew ?_ | refine blk_alloc ?_ _)); exact BK119.out)) : gb119 ≠ gb120)); have n6_ := Aside0.mk ((by rw [hg]; exact Nat.ne_of_gt (blk_lt (g := gb119) (o := .cells #[.string a0_0, .int .i64 a0_1, .slice A0_2 l0_2.length c0_2] 25 (0, 0)) (by (with_reducible repeat (first | refine blk_drewN ?_ _ | refine blk_drew ?_ | refine blk_alloc ?_ _)); exact BK119.out)) : gb120 ≠ gb119)); clear BK119; clear HB; have BK119 := n0_; have HB := n1_; have BK120 := n2_; have GW120 := n3_; have GE120 := n4_; have NB119_120 := n5_; have NB120_119 := n6_; clear n0_ n1_ n2_ n3_ n4_ n5_ n6_; clear hb hbox hg; have hnb5 := NB119_120.out; have hnc5 := NB120_119.out; have hcz6_0 : w4.cell? ⟨gb119, 0, none⟩ = some (.string a0_0) := (blk_cell BK119.out 0).trans rfl; have hcz6_1 : w4.cell? ⟨gb119, 1, none⟩ = some (.int .i64 a0_1) := (blk_cell BK119.out 1).trans rfl; have hcz6_2 : w4.cell? ⟨gb119, 2, none⟩ = some (.slice A0_2 l0_2.length c0_2) := (blk_cell BK119.out 2).trans rfl; have hfz6_0 := blk_frozen BK119.out 0; have hfz6_1 := blk_frozen BK119.out 1; have hfz6_2 := blk_frozen BK119.out 2) | ((with_reducible refine gate_callee (f := 58) rfl ?_); refine goesL_ (some 5) rfl rfl Try.func58 (by kernel_rfl) rfl #[.slice A0_2 l0_2.length c0_2] rfl (by (try simp only [List.map_toArray, List.map_cons, List.map_nil]); first | done | rfl | (simp only [List.length_drop, List.length_take]; rfl)) ?_; (with_reducible refine (slices_Clone_api_Field.calls _ _ l0_2 t121 _ ?side1 ?side2 A2.out).mono ?_); (case side1 => repeat (first | exact (Kd.C_below HR0_2.out HB.out) | (with_reducible refine Kd.C_alloc ?_ _) | (with_reducible refine Kd.C_drewN ?_ _) | (with_reducible refine Kd.C_drew ?_))); (case side2 => exact HC0_2.out); rintro e w7 ⟨v122, rfl, ho0, hb⟩; refine ⟨_, rfl, ?_⟩; have n0_ := Aside0.mk (Kd.R_lower ho0 (below_size (by repeat (first | (with_reducible first | exact HB.out | apply below_alloc | apply pw_below_drewN | apply below_drew1 | refine below_set ?_ GE119.out | refine below_set ?_ GE120.out) | exact HB.out)))); have n1_ := Aside0.mk (blk_below (g := gb119) (o := .cells #[.string a0_0, .int .i64 a0_1, .slice A0_2 l0_2.length c0_2] 25 (0, 0)) (by (with_reducible repeat (first | refine blk_drewN ?_ _ | refine blk_drew ?_ | refine blk_alloc ?_ _)); exact BK119.out) hb); have n2_ := Aside0.mk (blk_below (g := gb120) (o := .cells #[.string (⟨#[]⟩ : ByteArray), .int .i64 0, .slice none 0 0] 25 (0, 0)) (by (with_reducible repeat (first | refine blk_drewN ?_ _ | refine blk_drew ?_ | refine blk_alloc ?_ _)); exact BK120.out) hb); have n3_ := Aside0.mk (below_step (by repeat (first | (with_reducible first | exact HB.out | apply below_alloc | apply pw_below_drewN | apply below_drew1 | refine below_set ?_ GE119.out | refine below_set ?_ GE120.out) | exact HB.out)) hb); clear BK119; clear BK120; clear HB; have HO123 := n0_; have BK119 := n1_; have BK120 := n2_; have HB := n3_; clear n0_ n1_ n2_ n3_; (try clear hb); (try clear hb2); (try clear hk); (try clear hi); (try clear ho0); obtain ⟨Ao8, co8, eo8⟩ := Kd.R_slice HO123.out; subst eo8; have hcz9_0 : w7.cell? ⟨gb119, 0, none⟩ = some (.string a0_0) := (blk_cell BK119.out 0).trans rfl; have hcz9_1 : w7.cell? ⟨gb119, 1, none⟩ = some (.int .i64 a0_1) := (blk_cell BK119.out 1).trans rfl; have hcz9_2 : w7.cell? ⟨gb119, 2, none⟩ = some (.slice A0_2 l0_2.length c0_2) := (blk_cell BK119.out 2).trans rfl; have hfz9_0 := blk_frozen BK119.out 0; have hfz9_1 := blk_frozen BK119.out 1; have hfz9_2 := blk_frozen BK119.out 2; have hcz10_0 : w7.cell? ⟨gb120, 0, none⟩ = some (.string (⟨#[]⟩ : ByteArray)) := (blk_cell BK120.out 0).trans rfl; have hcz10_1 : w7.cell? ⟨gb120, 1, none⟩ = some (.int .i64 0) := (blk_cell BK120.out 1).trans rfl; have hcz10_2 : w7.cell? ⟨gb120, 2, none⟩ = some (.slice none 0 0) := (blk_cell BK120.out 2).trans rfl; have hfz10_0 := blk_frozen BK120.out 0; have hfz10_1 := blk_frozen BK120.out 1; have hfz10_2 := blk_frozen BK120.out 2))
  refine bodyPost_ret (results_cell_row rfl _ _ gb120 25 #[.string a0_0, .int .i64 a0_1, .slice Ao8 t121.length co8] (0, 0) _ rfl (by (with_reducible repeat (first | refine blk_drewN ?_ _ | refine blk_drew ?_ | refine blk_alloc ?_ _)); refine blk_put (cs := #[.string a0_0, .int .i64 a0_1, .slice none 0 0]) ?_ 2 _ rfl; (with_reducible repeat (first | refine blk_drewN ?_ _ | refine blk_drew ?_ | refine blk_alloc ?_ _)); refine blk_put (cs := #[.string a0_0, .int .i64 0, .slice none 0 0]) ?_ 1 _ rfl; (with_reducible repeat (first | refine blk_drewN ?_ _ | refine blk_drew ?_ | refine blk_alloc ?_ _)); refine blk_put (cs := #[.string (⟨#[]⟩ : ByteArray), .int .i64 0, .slice none 0 0]) ?_ 0 _ rfl; (with_reducible repeat (first | refine blk_drewN ?_ _ | refine blk_drew ?_ | refine blk_alloc ?_ _)); refine blk_far ?_ NB120_119.out _; (with_reducible repeat (first | refine blk_drewN ?_ _ | refine blk_drew ?_ | refine blk_alloc ?_ _)); exact BK120.out) Try.underlying25 rfl (by kernel_rfl)) rfl ?_
  exact ⟨_, by first | rfl | (simp [errW_none, errW_some] <;> rfl) | (simp [*, errW_none, errW_some] <;> rfl), by (with_reducible repeat (first | apply Kd.R_alloc | apply Kd.R_drewN | apply Kd.R_drew)); exact Kd.R_mono (Kd.R_far (p := ⟨gb120, 2, none⟩) (Kd.R_far (p := ⟨gb120, 1, none⟩) (Kd.R_far (p := ⟨gb120, 0, none⟩) (Kd.R_far (p := ⟨gb119, 2, none⟩) (Kd.R_types (Kd.R_types HO123.out BK119.out (by decide)) BK120.out (by decide)) (fun _ hk => hk.1.2) (.slice Ao8 t121.length co8)) (fun _ hk => hk.2) (.string a0_0)) (fun _ hk => hk.2) (.int .i64 a0_1)) (fun _ hk => hk.2) (.slice Ao8 t121.length co8)) (fun _ hk => trivial), by repeat (first | (with_reducible first | exact HB.out | apply below_alloc | apply pw_below_drewN | apply below_drew1 | refine below_set ?_ GE119.out | refine below_set ?_ GE120.out) | exact HB.out)⟩

end Go.Proofs.Ytbgdamlidohfhaa.P
