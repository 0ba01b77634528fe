/- The contracts of the functions that SchemaTwice reaches, the plain facts about them, and its walk (part 2): no condition but those that each theorem names. -/
import Derived.Test.YtbgdamlidohfhaaZSchemaTwice1
set_option linter.unusedVariables false
set_option linter.unusedSimpArgs false
namespace Go.Proofs.Ytbgdamlidohfhaa.P
open Go.RowKit Go.Proofs.YtbgdamlidohfhaaW.PrintWords Go.Proofs.YtbgdamlidohfhaaW.PrintLast Go.Proofs.YtbgdamlidohfhaaW.PrintMore
attribute [local go_sem] max2_int min2_int max_two min_two max_three min_three max_four min_four   -- for this text's walks alone
set_option linter.unusedVariables false
set_option linter.unusedSimpArgs false

/-! ### towncrierref05_May: function 36 -/
mutual
def towncrierref05_May.j0 : Nat → Bool → ByteArray → Int → List (SField) → Option (Bool)
  | 0, _, _, _, _ => none
  | k + 1, x27, x192000, x192001, x192002 => if x27 = true then (some false) else (towncrierref05_May.l0 k 0 x192000 x192001 x192002)
def towncrierref05_May.l0 : Nat → Int → ByteArray → Int → List (SField) → Option (Bool)
  | 0, _, _, _, _ => none
  | k + 1, x4, x192000, x192001, x192002 => if x4 < (x192002.length : Int) then (if 0 ≤ x4 then ((towncrierref05_Name.f k ((rd_TField x192002 x4).f0)).bind fun t194 => (if t194 = true then (if ((rd_TField x192002 x4).f1) < 0 then (towncrierref05_May.j2 k x4 true x192000 x192001 x192002) else (towncrierref05_May.j2 k x4 (decide (((rd_TField x192002 x4).f1) ≥ 4)) x192000 x192001 x192002)) else (towncrierref05_May.j2 k x4 true x192000 x192001 x192002))) else (none)) else (some true)
def towncrierref05_May.j2 : Nat → Int → Bool → ByteArray → Int → List (SField) → Option (Bool)
  | 0, _, _, _, _, _ => none
  | k + 1, x4, x61, x192000, x192001, x192002 => if x61 = true then (some false) else (towncrierref05_May.l1 k x4 0 x192000 x192001 x192002)
def towncrierref05_May.l1 : Nat → Int → Int → ByteArray → Int → List (SField) → Option (Bool)
  | 0, _, _, _, _, _ => none
  | k + 1, x4, x6, x192000, x192001, x192002 => if x6 < x4 then (if 0 ≤ x6 then (if x6 < (x192002.length : Int) then (if 0 ≤ x4 then (if x4 < (x192002.length : Int) then (if ((rd_TField x192002 x6).f0).toList = ((rd_TField x192002 x4).f0).toList then (some false) else (towncrierref05_May.l1 k x4 (wrap64 (x6 + 1)) x192000 x192001 x192002)) else (none)) else (none)) else (none)) else (none)) else (towncrierref05_May.l0 k (wrap64 (x4 + 1)) x192000 x192001 x192002)
end
def towncrierref05_May.f (k : Nat) (a0_0 : ByteArray) (a0_1 : Int) (l0_2 : List (SField)) : Option (Bool) := (towncrierref05_Name.f k a0_0).bind fun t192 => (if t192 = true then (if a0_1 < 1 then (towncrierref05_May.j0 k true a0_0 a0_1 l0_2) else (if a0_1 > 1000 then (towncrierref05_May.j0 k true a0_0 a0_1 l0_2) else (towncrierref05_May.j0 k (decide ((l0_2.length : Int) > 6)) a0_0 a0_1 l0_2))) else (towncrierref05_May.j0 k true a0_0 a0_1 l0_2))
theorem towncrierref05_May.mono_l : ∀ k, (∀ y0 y1 y2 y3, LeO (towncrierref05_May.j0 k y0 y1 y2 y3) (towncrierref05_May.j0 (k + 1) y0 y1 y2 y3)) ∧ (∀ y0 y1 y2 y3, LeO (towncrierref05_May.l0 k y0 y1 y2 y3) (towncrierref05_May.l0 (k + 1) y0 y1 y2 y3)) ∧ (∀ y0 y1 y2 y3 y4, LeO (towncrierref05_May.j2 k y0 y1 y2 y3 y4) (towncrierref05_May.j2 (k + 1) y0 y1 y2 y3 y4)) ∧ (∀ y0 y1 y2 y3 y4, LeO (towncrierref05_May.l1 k y0 y1 y2 y3 y4) (towncrierref05_May.l1 (k + 1) y0 y1 y2 y3 y4))
  | 0 => ⟨fun _ _ _ _ r h => by simp [towncrierref05_May.j0] at h, fun _ _ _ _ r h => by simp [towncrierref05_May.l0] at h, fun _ _ _ _ _ r h => by simp [towncrierref05_May.j2] at h, fun _ _ _ _ _ r h => by simp [towncrierref05_May.l1] at h⟩
  | k + 1 => by
    obtain ⟨ih0, ih1, ih2, ih3⟩ := towncrierref05_May.mono_l k
    refine ⟨?_, ?_, ?_, ?_⟩
    · intro y0 y1 y2 y3
      unfold towncrierref05_May.j0
      repeat' first
      | (with_reducible exact ih0 _ _ _ _)
      | (with_reducible exact ih1 _ _ _ _)
      | (with_reducible exact ih2 _ _ _ _ _)
      | (with_reducible exact ih3 _ _ _ _ _)
      | (with_reducible exact towncrierref05_Name.mono _ _)
      | (with_reducible exact LeO.refl _)
      | (with_reducible exact LeO.none _)
      | (with_reducible refine LeO.ite ?_ ?_)
      | (with_reducible refine LeO.bind ?_ (fun _ => ?_))
      | exact ih0 _ _ _ _
      | exact ih1 _ _ _ _
      | exact ih2 _ _ _ _ _
      | exact ih3 _ _ _ _ _
      | exact towncrierref05_Name.mono _ _
      | exact LeO.none _
      | refine LeO.ite ?_ ?_
      | refine LeO.bind ?_ (fun _ => ?_)
    · intro y0 y1 y2 y3
      unfold towncrierref05_May.l0
      repeat' first
      | (with_reducible exact ih0 _ _ _ _)
      | (with_reducible exact ih1 _ _ _ _)
      | (with_reducible exact ih2 _ _ _ _ _)
      | (with_reducible exact ih3 _ _ _ _ _)
      | (with_reducible exact towncrierref05_Name.mono _ _)
      | (with_reducible exact LeO.refl _)
      | (with_reducible exact LeO.none _)
      | (with_reducible refine LeO.ite ?_ ?_)
      | (with_reducible refine LeO.bind ?_ (fun _ => ?_))
      | exact ih0 _ _ _ _
      | exact ih1 _ _ _ _
      | exact ih2 _ _ _ _ _
      | exact ih3 _ _ _ _ _
      | exact towncrierref05_Name.mono _ _
      | exact LeO.none _
      | refine LeO.ite ?_ ?_
      | refine LeO.bind ?_ (fun _ => ?_)
    · intro y0 y1 y2 y3 y4
      unfold towncrierref05_May.j2
      repeat' first
      | (with_reducible exact ih0 _ _ _ _)
      | (with_reducible exact ih1 _ _ _ _)
      | (with_reducible exact ih2 _ _ _ _ _)
      | (with_reducible exact ih3 _ _ _ _ _)
      | (with_reducible exact towncrierref05_Name.mono _ _)
      | (with_reducible exact LeO.refl _)
      | (with_reducible exact LeO.none _)
      | (with_reducible refine LeO.ite ?_ ?_)
      | (with_reducible refine LeO.bind ?_ (fun _ => ?_))
      | exact ih0 _ _ _ _
      | exact ih1 _ _ _ _
      | exact ih2 _ _ _ _ _
      | exact ih3 _ _ _ _ _
      | exact towncrierref05_Name.mono _ _
      | exact LeO.none _
      | refine LeO.ite ?_ ?_
      | refine LeO.bind ?_ (fun _ => ?_)
    · intro y0 y1 y2 y3 y4
      unfold towncrierref05_May.l1
      repeat' first
      | (with_reducible exact ih0 _ _ _ _)
      | (with_reducible exact ih1 _ _ _ _)
      | (with_reducible exact ih2 _ _ _ _ _)
      | (with_reducible exact ih3 _ _ _ _ _)
      | (with_reducible exact towncrierref05_Name.mono _ _)
      | (with_reducible exact LeO.refl _)
      | (with_reducible exact LeO.none _)
      | (with_reducible refine LeO.ite ?_ ?_)
      | (with_reducible refine LeO.bind ?_ (fun _ => ?_))
      | exact ih0 _ _ _ _
      | exact ih1 _ _ _ _
      | exact ih2 _ _ _ _ _
      | exact ih3 _ _ _ _ _
      | exact towncrierref05_Name.mono _ _
      | exact LeO.none _
      | refine LeO.ite ?_ ?_
      | refine LeO.bind ?_ (fun _ => ?_)
theorem towncrierref05_May.mono : ∀ a0 a1 a2 k, LeO (towncrierref05_May.f k a0 a1 a2) (towncrierref05_May.f (k + 1) a0 a1 a2) := by
  intro a0 a1 a2 k
  obtain ⟨ih0, ih1, ih2, ih3⟩ := towncrierref05_May.mono_l k
  unfold towncrierref05_May.f
  repeat' first
      | (with_reducible exact ih0 _ _ _ _)
      | (with_reducible exact ih1 _ _ _ _)
      | (with_reducible exact ih2 _ _ _ _ _)
      | (with_reducible exact ih3 _ _ _ _ _)
      | (with_reducible exact towncrierref05_Name.mono _ _)
      | (with_reducible exact LeO.refl _)
      | (with_reducible exact LeO.none _)
      | (with_reducible refine LeO.ite ?_ ?_)
      | (with_reducible refine LeO.bind ?_ (fun _ => ?_))
      | exact ih0 _ _ _ _
      | exact ih1 _ _ _ _
      | exact ih2 _ _ _ _ _
      | exact ih3 _ _ _ _ _
      | exact towncrierref05_Name.mono _ _
      | exact LeO.none _
      | refine LeO.ite ?_ ?_
      | refine LeO.bind ?_ (fun _ => ?_)
set_option maxHeartbeats 8000000 in
set_option maxRecDepth 100000 in
theorem towncrierref05_May.calls (k : Nat) (a0_0 : ByteArray) (a0_1 : Int) (A0_2 : Option Addr) (c0_2 : Nat) (l0_2 : List (SField)) (r : Bool) (w : World) (hr0_2 : Kd.C kField w A0_2 l0_2.length l0_2) (hc0_2 : l0_2.length ≤ c0_2) (h : towncrierref05_May.f k a0_0 a0_1 l0_2 = some r) :
    Calls Try.prog 36 #[.agg #[.string a0_0, .int .i64 a0_1, .slice A0_2 l0_2.length c0_2]] w fun e w' => e = .returned (.bool r) ∧ Below w.heap.size w w' := by
  have hu25 := Try.underlying25
  have HR0_2 := Aside0.mk hr0_2
  have HC0_2 := Aside0.mk hc0_2
  clear hr0_2 hc0_2
  have HB := Aside0.mk (Below.refl w.heap.size w)
  have H : ((towncrierref05_Name.f k a0_0).bind fun t192 => (if t192 = true then (if a0_1 < 1 then (towncrierref05_May.j0 k true a0_0 a0_1 l0_2) else (if a0_1 > 1000 then (towncrierref05_May.j0 k true a0_0 a0_1 l0_2) else (towncrierref05_May.j0 k (decide ((l0_2.length : Int) > 6)) a0_0 a0_1 l0_2))) else (towncrierref05_May.j0 k true a0_0 a0_1 l0_2))) = some r := h
  clear h
  replace H := Option.bind_eq_some_iff.mp H
  obtain ⟨t192, A20, H⟩ := H
  replace H : (if t192 = true then (if a0_1 < 1 then (towncrierref05_May.j0 k true a0_0 a0_1 l0_2) else (if a0_1 > 1000 then (towncrierref05_May.j0 k true a0_0 a0_1 l0_2) else (towncrierref05_May.j0 k (decide ((l0_2.length : Int) > 6)) a0_0 a0_1 l0_2))) else (towncrierref05_May.j0 k true a0_0 a0_1 l0_2)) = some r := H
  have A2 := Aside0.mk A20
  clear A20
  have HC3 := Aside0.mk H
  clear H
  go_enter Try.func36, Try.ntmps36
  go_upto_region 2 with (first | ((with_reducible refine gate_dst (N := 1) rfl ?_); (try (refine gate_guard (by rfl) ?_; dsimp only)); refine box_event ?hg (N := 1) ?hd (cs := #[.string a0_0, .int .i64 a0_1, .slice A0_2 l0_2.length c0_2]) (t := 25) ?hr ?_; (case hd => rfl); (case hg => rfl); (case hr => first | (go_simp; done) | (go_simp; rfl)); intro gb191 hg w4 hbox hb; have n0_ := Aside0.mk (below_step (by repeat (first | (with_reducible first | exact HB.out | apply below_alloc | apply pw_below_drewN | apply below_drew1) | exact HB.out)) hb); have n1_ := Aside0.mk (hbox); have n2_ := Aside0.mk ((by rw [hg]; exact (below_size (by repeat (first | (with_reducible first | exact HB.out | apply below_alloc | apply pw_below_drewN | apply below_drew1) | exact HB.out))) : w.heap.size ≤ gb191)); have n3_ := Aside0.mk ((by rw [hg]; exact (below_size (by repeat (first | (with_reducible first | exact HB.out | apply below_alloc | apply pw_below_drewN | apply below_drew1) | exact HB.out))) : w.heap.size ≤ gb191)); clear HB; have HB := n0_; have BK191 := n1_; have GW191 := n2_; have GE191 := n3_; clear n0_ n1_ n2_ n3_; clear hb hbox hg; have hcz5_0 : w4.cell? ⟨gb191, 0, none⟩ = some (.string a0_0) := (blk_cell BK191.out 0).trans rfl; have hcz5_1 : w4.cell? ⟨gb191, 1, none⟩ = some (.int .i64 a0_1) := (blk_cell BK191.out 1).trans rfl; have hcz5_2 : w4.cell? ⟨gb191, 2, none⟩ = some (.slice A0_2 l0_2.length c0_2) := (blk_cell BK191.out 2).trans rfl; have hfz5_0 := blk_frozen BK191.out 0; have hfz5_1 := blk_frozen BK191.out 1; have hfz5_2 := blk_frozen BK191.out 2) | (go_at_call 35; (with_reducible refine (towncrierref05_Name.calls k a0_0 t192 _ A2.out).mono ?_); rintro e w' ⟨rfl, ⟨nd, rfl⟩⟩; (try first | exact ⟨rfl, _, World.drewN_drewN _ _ _⟩ | exact ⟨rfl, _, Eq.trans (World.drewN_drewN _ _ _) (congrArg (World.drewN _) (Nat.add_assoc _ _ _))⟩)))
  repeat (go_quiet (first | ((with_reducible refine gate_dst (N := 1) rfl ?_); (try (refine gate_guard (by rfl) ?_; dsimp only)); refine box_event ?hg (N := 1) ?hd (cs := #[.string a0_0, .int .i64 a0_1, .slice A0_2 l0_2.length c0_2]) (t := 25) ?hr ?_; (case hd => rfl); (case hg => rfl); (case hr => first | (go_simp; done) | (go_simp; rfl)); intro gb191 hg w4 hbox hb; have n0_ := Aside0.mk (below_step (by repeat (first | (with_reducible first | exact HB.out | apply below_alloc | apply pw_below_drewN | apply below_drew1) | exact HB.out)) hb); have n1_ := Aside0.mk (hbox); have n2_ := Aside0.mk ((by rw [hg]; exact (below_size (by repeat (first | (with_reducible first | exact HB.out | apply below_alloc | apply pw_below_drewN | apply below_drew1) | exact HB.out))) : w.heap.size ≤ gb191)); have n3_ := Aside0.mk ((by rw [hg]; exact (below_size (by repeat (first | (with_reducible first | exact HB.out | apply below_alloc | apply pw_below_drewN | apply below_drew1) | exact HB.out))) : w.heap.size ≤ gb191)); clear HB; have HB := n0_; have BK191 := n1_; have GW191 := n2_; have GE191 := n3_; clear n0_ n1_ n2_ n3_; clear hb hbox hg; have hcz5_0 : w4.cell? ⟨gb191, 0, none⟩ = some (.string a0_0) := (blk_cell BK191.out 0).trans rfl; have hcz5_1 : w4.cell? ⟨gb191, 1, none⟩ = some (.int .i64 a0_1) := (blk_cell BK191.out 1).trans rfl; have hcz5_2 : w4.cell? ⟨gb191, 2, none⟩ = some (.slice A0_2 l0_2.length c0_2) := (blk_cell BK191.out 2).trans rfl; have hfz5_0 := blk_frozen BK191.out 0; have hfz5_1 := blk_frozen BK191.out 1; have hfz5_2 := blk_frozen BK191.out 2) | (go_at_call 35; (with_reducible refine (towncrierref05_Name.calls k a0_0 t192 _ A2.out).mono ?_); rintro e w' ⟨rfl, ⟨nd, rfl⟩⟩; (try first | exact ⟨rfl, _, World.drewN_drewN _ _ _⟩ | exact ⟨rfl, _, Eq.trans (World.drewN_drewN _ _ _) (congrArg (World.drewN _) (Nat.add_assoc _ _ _))⟩))); go_upto_region 2 with (first | ((with_reducible refine gate_dst (N := 1) rfl ?_); (try (refine gate_guard (by rfl) ?_; dsimp only)); refine box_event ?hg (N := 1) ?hd (cs := #[.string a0_0, .int .i64 a0_1, .slice A0_2 l0_2.length c0_2]) (t := 25) ?hr ?_; (case hd => rfl); (case hg => rfl); (case hr => first | (go_simp; done) | (go_simp; rfl)); intro gb191 hg w4 hbox hb; have n0_ := Aside0.mk (below_step (by repeat (first | (with_reducible first | exact HB.out | apply below_alloc | apply pw_below_drewN | apply below_drew1) | exact HB.out)) hb); have n1_ := Aside0.mk (hbox); have n2_ := Aside0.mk ((by rw [hg]; exact (below_size (by repeat (first | (with_reducible first | exact HB.out | apply below_alloc | apply pw_below_drewN | apply below_drew1) | exact HB.out))) : w.heap.size ≤ gb191)); have n3_ := Aside0.mk ((by rw [hg]; exact (below_size (by repeat (first | (with_reducible first | exact HB.out | apply below_alloc | apply pw_below_drewN | apply below_drew1) | exact HB.out))) : w.heap.size ≤ gb191)); clear HB; have HB := n0_; have BK191 := n1_; have GW191 := n2_; have GE191 := n3_; clear n0_ n1_ n2_ n3_; clear hb hbox hg; have hcz5_0 : w4.cell? ⟨gb191, 0, none⟩ = some (.string a0_0) := (blk_cell BK191.out 0).trans rfl; have hcz5_1 : w4.cell? ⟨gb191, 1, none⟩ = some (.int .i64 a0_1) := (blk_cell BK191.out 1).trans rfl; have hcz5_2 : w4.cell? ⟨gb191, 2, none⟩ = some (.slice A0_2 l0_2.length c0_2) := (blk_cell BK191.out 2).trans rfl; have hfz5_0 := blk_frozen BK191.out 0; have hfz5_1 := blk_frozen BK191.out 1; have hfz5_2 := blk_frozen BK191.out 2) | (go_at_call 35; (with_reducible refine (towncrierref05_Name.calls k a0_0 t192 _ A2.out).mono ?_); rintro e w' ⟨rfl, ⟨nd, rfl⟩⟩; (try first | exact ⟨rfl, _, World.drewN_drewN _ _ _⟩ | exact ⟨rfl, _, Eq.trans (World.drewN_drewN _ _ _) (congrArg (World.drewN _) (Nat.add_assoc _ _ _))⟩))))
  (try simp only [Act.put, List.setIfInBounds_toArray, List.set_cons_zero, List.set_cons_succ])
  go_cut [27] (fun v27 wc => ∃ (kq : Nat) (x27_2 : Bool), v27 = .bool x27_2 ∧ Aside0 (towncrierref05_May.j0 kq x27_2 a0_0 a0_1 l0_2 = some r) ∧ Aside0 (kq ≤ k) ∧ Aside0 (wc.heap[gb191]? = some (.cells #[.string a0_0, .int .i64 a0_1, (.slice A0_2 l0_2.length c0_2)] 25 (0, 0))) ∧ Aside0 (Below w.heap.size w wc))
  case first =>
    have H := HC3.out
    clear HC3
    by_cases c6 : t192 = true
    · subst c6
      have H1 : (if a0_1 < 1 then (towncrierref05_May.j0 k true a0_0 a0_1 l0_2) else (if a0_1 > 1000 then (towncrierref05_May.j0 k true a0_0 a0_1 l0_2) else (towncrierref05_May.j0 k (decide ((l0_2.length : Int) > 6)) a0_0 a0_1 l0_2))) = some r := by rw [if_pos rfl] at H; exact H
      clear H
      have H := H1
      clear H1
      by_cases c7 : a0_1 < 1
      · rw [if_pos c7] at H
        have c7b0 : decide (a0_1 < 1) = true := decide_eq_true c7
        clear c7
        (first | rw [c7b0] | (simp only [i64_w, i32_w]; rw [c7b0]) | skip)
        have H' := Aside0.mk H
        clear H
        have hcz8_0 : w4.cell? ⟨gb191, 0, none⟩ = some (.string a0_0) := (blk_cell BK191.out 0).trans rfl
        have hcz8_1 : w4.cell? ⟨gb191, 1, none⟩ = some (.int .i64 a0_1) := (blk_cell BK191.out 1).trans rfl
        have hcz8_2 : w4.cell? ⟨gb191, 2, none⟩ = some (.slice A0_2 l0_2.length c0_2) := (blk_cell BK191.out 2).trans rfl
        have hfz8_0 := blk_frozen BK191.out 0
        have hfz8_1 := blk_frozen BK191.out 1
        have hfz8_2 := blk_frozen BK191.out 2
        go_wp2
        repeat (go_quiet (fail); try go_wp2)
        go_meet
        case rel => exact ⟨_, (true), (by first | rfl | (simp; done) | (simp [*]; done)), H', ⟨by first | omega | exact Nat.le_refl _⟩, ⟨by (with_reducible repeat (first | refine blk_drewN ?_ _ | refine blk_drew ?_ | refine blk_alloc ?_ _)); exact BK191.out⟩, ⟨by repeat (first | (with_reducible first | exact HB.out | apply below_alloc | apply pw_below_drewN | apply below_drew1 | refine below_set ?_ GE191.out) | exact HB.out)⟩⟩
      · rw [if_neg c7] at H
        have c7b0 : decide (a0_1 < 1) = false := decide_eq_false c7
        clear c7
        (first | rw [c7b0] | (simp only [i64_w, i32_w]; rw [c7b0]) | skip)
        by_cases c9 : a0_1 > 1000
        · rw [if_pos c9] at H
          have c9b0 : decide (1000 < a0_1) = true := decide_eq_true c9
          clear c9
          have H' := Aside0.mk H
          clear H
          have hcz10_0 : w4.cell? ⟨gb191, 0, none⟩ = some (.string a0_0) := (blk_cell BK191.out 0).trans rfl
          have hcz10_1 : w4.cell? ⟨gb191, 1, none⟩ = some (.int .i64 a0_1) := (blk_cell BK191.out 1).trans rfl
          have hcz10_2 : w4.cell? ⟨gb191, 2, none⟩ = some (.slice A0_2 l0_2.length c0_2) := (blk_cell BK191.out 2).trans rfl
          have hfz10_0 := blk_frozen BK191.out 0
          have hfz10_1 := blk_frozen BK191.out 1
          have hfz10_2 := blk_frozen BK191.out 2
          go_wp2
          repeat (go_quiet (fail); try go_wp2)
          go_meet
          case rel => exact ⟨_, (true), (by first | rfl | (simp; done) | (simp [*]; done)), H', ⟨by first | omega | exact Nat.le_refl _⟩, ⟨by (with_reducible repeat (first | refine blk_drewN ?_ _ | refine blk_drew ?_ | refine blk_alloc ?_ _)); exact BK191.out⟩, ⟨by repeat (first | (with_reducible first | exact HB.out | apply below_alloc | apply pw_below_drewN | apply below_drew1 | refine below_set ?_ GE191.out) | exact HB.out)⟩⟩
        · rw [if_neg c9] at H
          have c9b0 : decide (1000 < a0_1) = false := decide_eq_false c9
          clear c9
          have H' := Aside0.mk H
          clear H
          have hcz11_0 : w4.cell? ⟨gb191, 0, none⟩ = some (.string a0_0) := (blk_cell BK191.out 0).trans rfl
          have hcz11_1 : w4.cell? ⟨gb191, 1, none⟩ = some (.int .i64 a0_1) := (blk_cell BK191.out 1).trans rfl
          have hcz11_2 : w4.cell? ⟨gb191, 2, none⟩ = some (.slice A0_2 l0_2.length c0_2) := (blk_cell BK191.out 2).trans rfl
          have hfz11_0 := blk_frozen BK191.out 0
          have hfz11_1 := blk_frozen BK191.out 1
          have hfz11_2 := blk_frozen BK191.out 2
          go_wp2
          repeat (go_quiet (fail); try go_wp2)
          go_meet
          case rel => exact ⟨_, (decide ((l0_2.length : Int) > 6)), (by first | rfl | (simp; done) | (simp [*]; done)), H', ⟨by first | omega | exact Nat.le_refl _⟩, ⟨by (with_reducible repeat (first | refine blk_drewN ?_ _ | refine blk_drew ?_ | refine blk_alloc ?_ _)); exact BK191.out⟩, ⟨by repeat (first | (with_reducible first | exact HB.out | apply below_alloc | apply pw_below_drewN | apply below_drew1 | refine below_set ?_ GE191.out) | exact HB.out)⟩⟩
    · replace c6 := Bool.eq_false_iff.mpr c6
      subst c6
      have H1 : (towncrierref05_May.j0 k true a0_0 a0_1 l0_2) = some r := by rw [if_neg (show ¬ (false = true) by decide)] at H; exact H
      clear H
      have H := H1
      clear H1
      have H' := Aside0.mk H
      clear H
      go_wp2
      repeat (go_quiet (fail); try go_wp2)
      go_meet
      case rel => exact ⟨_, (true), (by first | rfl | (simp; done) | (simp [*]; done)), H', ⟨by first | omega | exact Nat.le_refl _⟩, ⟨by (with_reducible repeat (first | refine blk_drewN ?_ _ | refine blk_drew ?_ | refine blk_alloc ?_ _)); exact BK191.out⟩, ⟨by repeat (first | (with_reducible first | exact HB.out | apply below_alloc | apply pw_below_drewN | apply below_drew1 | refine below_set ?_ GE191.out) | exact HB.out)⟩⟩
  case rest =>
    clear HC3
    try clear p2
    try clear c3
    try clear c6
    try clear c7
    try clear c7b0
    try clear c9
    try clear c9b0
    try clear hcz10_0
    try clear hcz10_1
    try clear hcz10_2
    try clear hcz11_0
    try clear hcz11_1
    try clear hcz11_2
    try clear hcz5_0
    try clear hcz5_1
    try clear hcz5_2
    try clear hcz8_0
    try clear hcz8_1
    try clear hcz8_2
    try clear hfz10_0
    try clear hfz10_1
    try clear hfz10_2
    try clear hfz11_0
    try clear hfz11_1
    try clear hfz11_2
    try clear hfz5_0
    try clear hfz5_1
    try clear hfz5_2
    try clear hfz8_0
    try clear hfz8_1
    try clear hfz8_2
    obtain ⟨kq, x27_2, rfl, HA, HJ2, BK191, HB⟩ := hcut
    cases kq with
    | zero => exact absurd HA.out (by simp [towncrierref05_May.j0])
    | succ kj2 =>
      have H := HA.out
      clear HA
      simp only [towncrierref05_May.j0] at H
      by_cases c12 : x27_2 = true
      · subst c12
        have H1 : (some false) = some r := by rw [if_pos rfl] at H; exact H
        clear H
        have H := H1
        clear H1
        obtain rfl := Option.some.inj H
        go_wp2
        repeat (go_quiet (fail); try go_wp2)
        go_ret
        exact ⟨by first | rfl | (simp [errW_none, errW_some] <;> rfl) | (simp [*, errW_none, errW_some] <;> rfl), by repeat (first | (with_reducible first | exact HB.out | apply below_alloc | apply pw_below_drewN | apply below_drew1 | refine below_set ?_ GE191.out) | exact HB.out)⟩
      · replace c12 := Bool.eq_false_iff.mpr c12
        subst c12
        have H1 : (towncrierref05_May.l0 kj2 0 a0_0 a0_1 l0_2) = some r := by rw [if_neg (show ¬ (false = true) by decide)] at H; exact H
        clear H
        have H := H1
        clear H1
        have H' := Aside0.mk H
        clear H
        go_wp2
        repeat (go_quiet (fail); try go_wp2)
        go_loopg [4] kj2 (fun kq v4 w' => ∃ (x4_2 : Int), v4 = .int .i64 x4_2 ∧ Aside0 (towncrierref05_May.l0 kq x4_2 a0_0 a0_1 l0_2 = some r) ∧ Aside0 (kq ≤ kj2) ∧ Aside0 (w'.heap[gb191]? = some (.cells #[.string a0_0, .int .i64 a0_1, (.slice A0_2 l0_2.length c0_2)] 25 (0, 0))) ∧ Aside0 (Below w.heap.size w w'))
        case atStart => exact ⟨(0), (by first | rfl | (simp; done) | (simp [*]; done)), H', ⟨Nat.le_refl _⟩, ⟨by (with_reducible repeat (first | refine blk_drewN ?_ _ | refine blk_drew ?_ | refine blk_alloc ?_ _)); exact BK191.out⟩, ⟨by repeat (first | (with_reducible first | exact HB.out | apply below_alloc | apply pw_below_drewN | apply below_drew1 | refine below_set ?_ GE191.out) | exact HB.out)⟩⟩
        case round =>
          clear H'
          try clear c1
          try clear p2
          try clear c3
          try clear c6
          try clear c7
          try clear c7b0
          try clear c9
          try clear c9b0
          try clear c12
          try clear hcz10_0
          try clear hcz10_1
          try clear hcz10_2
          try clear hcz11_0
          try clear hcz11_1
          try clear hcz11_2
          try clear hcz5_0
          try clear hcz5_1
          try clear hcz5_2
          try clear hcz8_0
          try clear hcz8_1
          try clear hcz8_2
          try clear hfz10_0
          try clear hfz10_1
          try clear hfz10_2
          try clear hfz11_0
          try clear hfz11_1
          try clear hfz11_2
          try clear hfz5_0
          try clear hfz5_1
          try clear hfz5_2
          try clear hfz8_0
          try clear hfz8_1
          try clear hfz8_2
          try clear p2
          obtain ⟨x4_2, rfl, HA, HK2, BK191, HB⟩ := hrel
          cases gk with
          | zero => exact absurd HA.out (by simp [towncrierref05_May.l0])
          | succ k2 =>
            have H := HA.out
            clear HA
            simp only [towncrierref05_May.l0] at H
            by_cases c13 : x4_2 < (l0_2.length : Int)
            · rw [if_pos c13] at H
              have c13b0 : decide (x4_2 < (l0_2.length : Int)) = true := decide_eq_true c13
              clear c13
              by_cases c14 : 0 ≤ x4_2
              · rw [if_pos c14] at H
                have c14b0 : decide (0 ≤ x4_2) = true := decide_eq_true c14
                clear c14
                replace H := Option.bind_eq_some_iff.mp H
                obtain ⟨t194, A150, H⟩ := H
                replace H : (if t194 = true then (if ((rd_TField l0_2 x4_2).f1) < 0 then (towncrierref05_May.j2 k2 x4_2 true a0_0 a0_1 l0_2) else (towncrierref05_May.j2 k2 x4_2 (decide (((rd_TField l0_2 x4_2).f1) ≥ 4)) a0_0 a0_1 l0_2)) else (towncrierref05_May.j2 k2 x4_2 true a0_0 a0_1 l0_2)) = some r := H
                have A15 := Aside0.mk A150
                clear A150
                have HC16 := Aside0.mk H
                clear H
                have hcz17_0 : wr.cell? ⟨gb191, 0, none⟩ = some (.string a0_0) := (blk_cell BK191.out 0).trans rfl
                have hcz17_1 : wr.cell? ⟨gb191, 1, none⟩ = some (.int .i64 a0_1) := (blk_cell BK191.out 1).trans rfl
                have hcz17_2 : wr.cell? ⟨gb191, 2, none⟩ = some (.slice A0_2 l0_2.length c0_2) := (blk_cell BK191.out 2).trans rfl
                have hfz17_0 := blk_frozen BK191.out 0
                have hfz17_1 := blk_frozen BK191.out 1
                have hfz17_2 := blk_frozen BK191.out 2
                have p193 : 0 ≤ (x4_2 : Int) := of_decide_eq_true (by first | (with_reducible assumption) | assumption)
                have q193 : x4_2 < (l0_2.length : Int) := of_decide_eq_true (by first | (with_reducible assumption) | assumption)
                obtain ⟨ad193, e193, hx193_0, hx193_1⟩ := at_TField HR0_2.out x4_2 p193 q193
                cases e193
                replace hx193_0 := (HB.out.cell (World.block_lt_of_cell? w _ hx193_0)).trans hx193_0
                replace hx193_1 := (HB.out.cell (World.block_lt_of_cell? w _ hx193_1)).trans hx193_1
                replace p193 := eq_true p193
                replace q193 := eq_true q193
                go_upto_region 8 with (first | (go_at_call 35; (with_reducible refine (towncrierref05_Name.calls k2 ((rd_TField l0_2 x4_2).f0) t194 _ A15.out).mono ?_); rintro e w' ⟨rfl, ⟨nd, rfl⟩⟩; (try first | exact ⟨rfl, _, World.drewN_drewN _ _ _⟩ | exact ⟨rfl, _, Eq.trans (World.drewN_drewN _ _ _) (congrArg (World.drewN _) (Nat.add_assoc _ _ _))⟩)))
                repeat (go_quiet (first | (go_at_call 35; (with_reducible refine (towncrierref05_Name.calls k2 ((rd_TField l0_2 x4_2).f0) t194 _ A15.out).mono ?_); rintro e w' ⟨rfl, ⟨nd, rfl⟩⟩; (try first | exact ⟨rfl, _, World.drewN_drewN _ _ _⟩ | exact ⟨rfl, _, Eq.trans (World.drewN_drewN _ _ _) (congrArg (World.drewN _) (Nat.add_assoc _ _ _))⟩))); go_upto_region 8 with (first | (go_at_call 35; (with_reducible refine (towncrierref05_Name.calls k2 ((rd_TField l0_2 x4_2).f0) t194 _ A15.out).mono ?_); rintro e w' ⟨rfl, ⟨nd, rfl⟩⟩; (try first | exact ⟨rfl, _, World.drewN_drewN _ _ _⟩ | exact ⟨rfl, _, Eq.trans (World.drewN_drewN _ _ _) (congrArg (World.drewN _) (Nat.add_assoc _ _ _))⟩))))
                (try simp only [Act.put, List.setIfInBounds_toArray, List.set_cons_zero, List.set_cons_succ])
                go_cut [61] (fun v61 wc => ∃ (kq : Nat) (x61_15 : Bool), v61 = .bool x61_15 ∧ Aside0 (towncrierref05_May.j2 kq x4_2 x61_15 a0_0 a0_1 l0_2 = some r) ∧ Aside0 (kq ≤ k2) ∧ Aside0 (wc.heap[gb191]? = some (.cells #[.string a0_0, .int .i64 a0_1, (.slice (some ad193) l0_2.length c0_2)] 25 (0, 0))) ∧ Aside0 (Below w.heap.size w wc))
                case first =>
                  have H := HC16.out
                  clear HC16
                  by_cases c18 : t194 = true
                  · subst c18
                    have H1 : (if ((rd_TField l0_2 x4_2).f1) < 0 then (towncrierref05_May.j2 k2 x4_2 true a0_0 a0_1 l0_2) else (towncrierref05_May.j2 k2 x4_2 (decide (((rd_TField l0_2 x4_2).f1) ≥ 4)) a0_0 a0_1 l0_2)) = some r := by rw [if_pos rfl] at H; exact H
                    clear H
                    have H := H1
                    clear H1
                    by_cases c19 : ((rd_TField l0_2 x4_2).f1) < 0
                    · rw [if_pos c19] at H
                      have c19b0 : decide (((rd_TField l0_2 x4_2).f1) < 0) = true := decide_eq_true c19
                      clear c19
                      (first | rw [c19b0] | (simp only [i64_w, i32_w]; rw [c19b0]) | skip)
                      have H' := Aside0.mk H
                      clear H
                      have hcz20_0 : wr.cell? ⟨gb191, 0, none⟩ = some (.string a0_0) := (blk_cell BK191.out 0).trans rfl
                      have hcz20_1 : wr.cell? ⟨gb191, 1, none⟩ = some (.int .i64 a0_1) := (blk_cell BK191.out 1).trans rfl
                      have hcz20_2 : wr.cell? ⟨gb191, 2, none⟩ = some (.slice (some ad193) l0_2.length c0_2) := (blk_cell BK191.out 2).trans rfl
                      have hfz20_0 := blk_frozen BK191.out 0
                      have hfz20_1 := blk_frozen BK191.out 1
                      have hfz20_2 := blk_frozen BK191.out 2
                      have p195 : 0 ≤ (x4_2 : Int) := of_decide_eq_true (by first | (with_reducible assumption) | assumption)
                      have q195 : x4_2 < (l0_2.length : Int) := of_decide_eq_true (by first | (with_reducible assumption) | assumption)
                      obtain ⟨ad195, e195, hx195_0, hx195_1⟩ := at_TField HR0_2.out x4_2 p195 q195
                      obtain rfl : ad193 = ad195 := (by injection e195)
                      replace hx195_0 := (HB.out.cell (World.block_lt_of_cell? w _ hx195_0)).trans hx195_0
                      replace hx195_1 := (HB.out.cell (World.block_lt_of_cell? w _ hx195_1)).trans hx195_1
                      replace p195 := eq_true p195
                      replace q195 := eq_true q195
                      go_wp2
                      repeat (go_quiet (fail); try go_wp2)
                      go_meet
                      case rel => exact ⟨_, (true), (by first | rfl | (simp; done) | (simp [*]; done)), H', ⟨by have := HJ2.out; have := HK2.out; first | omega | exact Nat.le_refl _⟩, ⟨by (with_reducible repeat (first | refine blk_drewN ?_ _ | refine blk_drew ?_ | refine blk_alloc ?_ _)); exact BK191.out⟩, ⟨by repeat (first | (with_reducible first | exact HB.out | apply below_alloc | apply pw_below_drewN | apply below_drew1 | refine below_set ?_ GE191.out) | exact HB.out)⟩⟩
                    · rw [if_neg c19] at H
                      have c19b0 : decide (((rd_TField l0_2 x4_2).f1) < 0) = false := decide_eq_false c19
                      clear c19
                      (first | rw [c19b0] | (simp only [i64_w, i32_w]; rw [c19b0]) | skip)
                      have H' := Aside0.mk H
                      clear H
                      have hcz21_0 : wr.cell? ⟨gb191, 0, none⟩ = some (.string a0_0) := (blk_cell BK191.out 0).trans rfl
                      have hcz21_1 : wr.cell? ⟨gb191, 1, none⟩ = some (.int .i64 a0_1) := (blk_cell BK191.out 1).trans rfl
                      have hcz21_2 : wr.cell? ⟨gb191, 2, none⟩ = some (.slice (some ad193) l0_2.length c0_2) := (blk_cell BK191.out 2).trans rfl
                      have hfz21_0 := blk_frozen BK191.out 0
                      have hfz21_1 := blk_frozen BK191.out 1
                      have hfz21_2 := blk_frozen BK191.out 2
                      have p195 : 0 ≤ (x4_2 : Int) := of_decide_eq_true (by first | (with_reducible assumption) | assumption)
                      have q195 : x4_2 < (l0_2.length : Int) := of_decide_eq_true (by first | (with_reducible assumption) | assumption)
                      obtain ⟨ad195, e195, hx195_0, hx195_1⟩ := at_TField HR0_2.out x4_2 p195 q195
                      obtain rfl : ad193 = ad195 := (by injection e195)
                      replace hx195_0 := (HB.out.cell (World.block_lt_of_cell? w _ hx195_0)).trans hx195_0
                      replace hx195_1 := (HB.out.cell (World.block_lt_of_cell? w _ hx195_1)).trans hx195_1
                      replace p195 := eq_true p195
                      replace q195 := eq_true q195
                      have p196 : 0 ≤ (x4_2 : Int) := of_decide_eq_true (by first | (with_reducible assumption) | assumption)
                      have q196 : x4_2 < (l0_2.length : Int) := of_decide_eq_true (by first | (with_reducible assumption) | assumption)
                      obtain ⟨ad196, e196, hx196_0, hx196_1⟩ := at_TField HR0_2.out x4_2 p196 q196
                      obtain rfl : ad193 = ad196 := (by injection e196)
                      replace hx196_0 := (HB.out.cell (World.block_lt_of_cell? w _ hx196_0)).trans hx196_0
                      replace hx196_1 := (HB.out.cell (World.block_lt_of_cell? w _ hx196_1)).trans hx196_1
                      replace p196 := eq_true p196
                      replace q196 := eq_true q196
                      go_wp2
                      repeat (go_quiet (fail); try go_wp2)
                      go_meet
                      case rel => exact ⟨_, (decide (((rd_TField l0_2 x4_2).f1) ≥ 4)), (by first | rfl | (simp; done) | (simp [*]; done)), H', ⟨by have := HJ2.out; have := HK2.out; first | omega | exact Nat.le_refl _⟩, ⟨by (with_reducible repeat (first | refine blk_drewN ?_ _ | refine blk_drew ?_ | refine blk_alloc ?_ _)); exact BK191.out⟩, ⟨by repeat (first | (with_reducible first | exact HB.out | apply below_alloc | apply pw_below_drewN | apply below_drew1 | refine below_set ?_ GE191.out) | exact HB.out)⟩⟩
                  · replace c18 := Bool.eq_false_iff.mpr c18
                    subst c18
                    have H1 : (towncrierref05_May.j2 k2 x4_2 true a0_0 a0_1 l0_2) = some r := by rw [if_neg (show ¬ (false = true) by decide)] at H; exact H
                    clear H
                    have H := H1
                    clear H1
                    have H' := Aside0.mk H
                    clear H
                    go_wp2
                    repeat (go_quiet (fail); try go_wp2)
                    go_meet
                    case rel => exact ⟨_, (true), (by first | rfl | (simp; done) | (simp [*]; done)), H', ⟨by have := HJ2.out; have := HK2.out; first | omega | exact Nat.le_refl _⟩, ⟨by (with_reducible repeat (first | refine blk_drewN ?_ _ | refine blk_drew ?_ | refine blk_alloc ?_ _)); exact BK191.out⟩, ⟨by repeat (first | (with_reducible first | exact HB.out | apply below_alloc | apply pw_below_drewN | apply below_drew1 | refine below_set ?_ GE191.out) | exact HB.out)⟩⟩
                case rest =>
                  clear HC16
                  try clear c1
                  try clear p1
                  try clear q1
                  try clear hx1
                  try clear p2
                  try clear c3
                  try clear c6
                  try clear c7
                  try clear c7b0
                  try clear c9
                  try clear c9b0
                  try clear c12
                  try clear c13
                  try clear c13b0
                  try clear c14
                  try clear c14b0
                  try clear c18
                  try clear c19
                  try clear c19b0
                  try clear p19
                  try clear q19
                  try clear hx19
                  try clear hcz10_0
                  try clear hcz10_1
                  try clear hcz10_2
                  try clear hcz11_0
                  try clear hcz11_1
                  try clear hcz11_2
                  try clear hcz17_0
                  try clear hcz17_1
                  try clear hcz17_2
                  try clear hcz20_0
                  try clear hcz20_1
                  try clear hcz20_2
                  try clear hcz21_0
                  try clear hcz21_1
                  try clear hcz21_2
                  try clear hcz5_0
                  try clear hcz5_1
                  try clear hcz5_2
                  try clear hcz8_0
                  try clear hcz8_1
                  try clear hcz8_2
                  try clear hfz10_0
                  try clear hfz10_1
                  try clear hfz10_2
                  try clear hfz11_0
                  try clear hfz11_1
                  try clear hfz11_2
                  try clear hfz17_0
                  try clear hfz17_1
                  try clear hfz17_2
                  try clear hfz20_0
                  try clear hfz20_1
                  try clear hfz20_2
                  try clear hfz21_0
                  try clear hfz21_1
                  try clear hfz21_2
                  try clear hfz5_0
                  try clear hfz5_1
                  try clear hfz5_2
                  try clear hfz8_0
                  try clear hfz8_1
                  try clear hfz8_2
                  try clear hx193_0
                  try clear hx193_1
                  try clear hx195_0
                  try clear hx195_1
                  try clear hx196_0
                  try clear hx196_1
                  try clear p193
                  try clear p195
                  try clear p196
                  try clear p2
                  try clear q193
                  try clear q195
                  try clear q196
                  obtain ⟨kq, x61_15, rfl, HA, HJ15, BK191, HB⟩ := hcut
                  cases kq with
                  | zero => exact absurd HA.out (by simp [towncrierref05_May.j2])
                  | succ kj15 =>
                    have H := HA.out
                    clear HA
                    simp only [towncrierref05_May.j2] at H
                    by_cases c22 : x61_15 = true
                    · subst c22
                      have H1 : (some false) = some r := by rw [if_pos rfl] at H; exact H
                      clear H
                      have H := H1
                      clear H1
                      obtain rfl := Option.some.inj H
                      go_wp2
                      repeat (go_quiet (fail); try go_wp2)
                      go_ret
                      exact ⟨by first | rfl | (simp [errW_none, errW_some] <;> rfl) | (simp [*, errW_none, errW_some] <;> rfl), by repeat (first | (with_reducible first | exact HB.out | apply below_alloc | apply pw_below_drewN | apply below_drew1 | refine below_set ?_ GE191.out) | exact HB.out)⟩
                    · replace c22 := Bool.eq_false_iff.mpr c22
                      subst c22
                      have H1 : (towncrierref05_May.l1 kj15 x4_2 0 a0_0 a0_1 l0_2) = some r := by rw [if_neg (show ¬ (false = true) by decide)] at H; exact H
                      clear H
                      have H := H1
                      clear H1
                      have H' := Aside0.mk H
                      clear H
                      go_wp2
                      repeat (go_quiet (fail); try go_wp2)
                      go_loopg [6] kj15 (fun kq v6 w' => ∃ (x6_4 : Int), v6 = .int .i64 x6_4 ∧ Aside0 (towncrierref05_May.l1 kq x4_2 x6_4 a0_0 a0_1 l0_2 = some r) ∧ Aside0 (kq ≤ kj15) ∧ Aside0 (w'.heap[gb191]? = some (.cells #[.string a0_0, .int .i64 a0_1, (.slice (some ad193) l0_2.length c0_2)] 25 (0, 0))) ∧ Aside0 (Below w.heap.size w w'))
                      case atStart => exact ⟨(0), (by first | rfl | (simp; done) | (simp [*]; done)), H', ⟨Nat.le_refl _⟩, ⟨by (with_reducible repeat (first | refine blk_drewN ?_ _ | refine blk_drew ?_ | refine blk_alloc ?_ _)); exact BK191.out⟩, ⟨by repeat (first | (with_reducible first | exact HB.out | apply below_alloc | apply pw_below_drewN | apply below_drew1 | refine below_set ?_ GE191.out) | exact HB.out)⟩⟩
                      case round =>
                        clear H'
                        try clear c1
                        try clear p1
                        try clear q1
                        try clear hx1
                        try clear c2
                        try clear p2
                        try clear c3
                        try clear c6
                        try clear c7
                        try clear c7b0
                        try clear c9
                        try clear c9b0
                        try clear c12
                        try clear c13
                        try clear c13b0
                        try clear c14
                        try clear c14b0
                        try clear c18
                        try clear c19
                        try clear c19b0
                        try clear p19
                        try clear q19
                        try clear hx19
                        try clear c22
                        try clear hcz10_0
                        try clear hcz10_1
                        try clear hcz10_2
                        try clear hcz11_0
                        try clear hcz11_1
                        try clear hcz11_2
                        try clear hcz17_0
                        try clear hcz17_1
                        try clear hcz17_2
                        try clear hcz20_0
                        try clear hcz20_1
                        try clear hcz20_2
                        try clear hcz21_0
                        try clear hcz21_1
                        try clear hcz21_2
                        try clear hcz5_0
                        try clear hcz5_1
                        try clear hcz5_2
                        try clear hcz8_0
                        try clear hcz8_1
                        try clear hcz8_2
                        try clear hfz10_0
                        try clear hfz10_1
                        try clear hfz10_2
                        try clear hfz11_0
                        try clear hfz11_1
                        try clear hfz11_2
                        try clear hfz17_0
                        try clear hfz17_1
                        try clear hfz17_2
                        try clear hfz20_0
                        try clear hfz20_1
                        try clear hfz20_2
                        try clear hfz21_0
                        try clear hfz21_1
                        try clear hfz21_2
                        try clear hfz5_0
                        try clear hfz5_1
                        try clear hfz5_2
                        try clear hfz8_0
                        try clear hfz8_1
                        try clear hfz8_2
                        try clear hx193_0
                        try clear hx193_1
                        try clear hx195_0
                        try clear hx195_1
                        try clear hx196_0
                        try clear hx196_1
                        try clear p1
                        try clear p19
                        try clear p193
                        try clear p195
                        try clear p196
                        try clear p2
                        try clear q1
                        try clear q19
                        try clear q193
                        try clear q195
                        try clear q196
                        obtain ⟨x6_4, rfl, HA, HK4, BK191, HB⟩ := hrel
                        cases gk with
                        | zero => exact absurd HA.out (by simp [towncrierref05_May.l1])
                        | succ k4 =>
                          have H := HA.out
                          clear HA
                          simp only [towncrierref05_May.l1] at H
                          by_cases c23 : x6_4 < x4_2
                          · rw [if_pos c23] at H
                            have c23b0 : decide (x6_4 < x4_2) = true := decide_eq_true c23
                            clear c23
                            by_cases c24 : 0 ≤ x6_4
                            · rw [if_pos c24] at H
                              have c24b0 : decide (0 ≤ x6_4) = true := decide_eq_true c24
                              clear c24
                              by_cases c25 : x6_4 < (l0_2.length : Int)
                              · rw [if_pos c25] at H
                                have c25b0 : decide (x6_4 < (l0_2.length : Int)) = true := decide_eq_true c25
                                clear c25
                                by_cases c26 : 0 ≤ x4_2
                                · rw [if_pos c26] at H
                                  have c26b0 : decide (0 ≤ x4_2) = true := decide_eq_true c26
                                  clear c26
                                  by_cases c27 : x4_2 < (l0_2.length : Int)
                                  · rw [if_pos c27] at H
                                    have c27b0 : decide (x4_2 < (l0_2.length : Int)) = true := decide_eq_true c27
                                    clear c27
                                    by_cases c28 : ((rd_TField l0_2 x6_4).f0).toList = ((rd_TField l0_2 x4_2).f0).toList
                                    · rw [if_pos c28] at H
                                      have c28b0 : (((rd_TField l0_2 x6_4).f0).toList == ((rd_TField l0_2 x4_2).f0).toList) = true := beq_iff_eq.mpr c28
                                      have c28b1 : (((rd_TField l0_2 x6_4).f0).toList != ((rd_TField l0_2 x4_2).f0).toList) = false := bne_eq_false_iff_eq.mpr c28
                                      clear c28
                                      obtain rfl := Option.some.inj H
                                      have hcz29_0 : wr.cell? ⟨gb191, 0, none⟩ = some (.string a0_0) := (blk_cell BK191.out 0).trans rfl
                                      have hcz29_1 : wr.cell? ⟨gb191, 1, none⟩ = some (.int .i64 a0_1) := (blk_cell BK191.out 1).trans rfl
                                      have hcz29_2 : wr.cell? ⟨gb191, 2, none⟩ = some (.slice (some ad193) l0_2.length c0_2) := (blk_cell BK191.out 2).trans rfl
                                      have hfz29_0 := blk_frozen BK191.out 0
                                      have hfz29_1 := blk_frozen BK191.out 1
                                      have hfz29_2 := blk_frozen BK191.out 2
                                      have p197 : 0 ≤ (x6_4 : Int) := of_decide_eq_true (by first | (with_reducible assumption) | assumption)
                                      have q197 : x6_4 < (l0_2.length : Int) := of_decide_eq_true (by first | (with_reducible assumption) | assumption)
                                      obtain ⟨ad197, e197, hx197_0, hx197_1⟩ := at_TField HR0_2.out x6_4 p197 q197
                                      obtain rfl : ad193 = ad197 := (by injection e197)
                                      replace hx197_0 := (HB.out.cell (World.block_lt_of_cell? w _ hx197_0)).trans hx197_0
                                      replace hx197_1 := (HB.out.cell (World.block_lt_of_cell? w _ hx197_1)).trans hx197_1
                                      replace p197 := eq_true p197
                                      replace q197 := eq_true q197
                                      have p198 : 0 ≤ (x4_2 : Int) := of_decide_eq_true (by first | (with_reducible assumption) | assumption)
                                      have q198 : x4_2 < (l0_2.length : Int) := of_decide_eq_true (by first | (with_reducible assumption) | assumption)
                                      obtain ⟨ad198, e198, hx198_0, hx198_1⟩ := at_TField HR0_2.out x4_2 p198 q198
                                      obtain rfl : ad193 = ad198 := (by injection e198)
                                      replace hx198_0 := (HB.out.cell (World.block_lt_of_cell? w _ hx198_0)).trans hx198_0
                                      replace hx198_1 := (HB.out.cell (World.block_lt_of_cell? w _ hx198_1)).trans hx198_1
                                      replace p198 := eq_true p198
                                      replace q198 := eq_true q198
                                      go_wp2
                                      repeat (go_quiet (fail); try go_wp2)
                                      go_ret
                                      exact ⟨by first | rfl | (simp [errW_none, errW_some] <;> rfl) | (simp [*, errW_none, errW_some] <;> rfl), by repeat (first | (with_reducible first | exact HB.out | apply below_alloc | apply pw_below_drewN | apply below_drew1 | refine below_set ?_ GE191.out) | exact HB.out)⟩
                                    · rw [if_neg c28] at H
                                      have c28b0 : (((rd_TField l0_2 x6_4).f0).toList == ((rd_TField l0_2 x4_2).f0).toList) = false := beq_eq_false_iff_ne.mpr c28
                                      have c28b1 : (((rd_TField l0_2 x6_4).f0).toList != ((rd_TField l0_2 x4_2).f0).toList) = true := bne_iff_ne.mpr c28
                                      have H' := Aside0.mk H
                                      clear H
                                      have hcz30_0 : wr.cell? ⟨gb191, 0, none⟩ = some (.string a0_0) := (blk_cell BK191.out 0).trans rfl
                                      have hcz30_1 : wr.cell? ⟨gb191, 1, none⟩ = some (.int .i64 a0_1) := (blk_cell BK191.out 1).trans rfl
                                      have hcz30_2 : wr.cell? ⟨gb191, 2, none⟩ = some (.slice (some ad193) l0_2.length c0_2) := (blk_cell BK191.out 2).trans rfl
                                      have hfz30_0 := blk_frozen BK191.out 0
                                      have hfz30_1 := blk_frozen BK191.out 1
                                      have hfz30_2 := blk_frozen BK191.out 2
                                      have p197 : 0 ≤ (x6_4 : Int) := of_decide_eq_true (by first | (with_reducible assumption) | assumption)
                                      have q197 : x6_4 < (l0_2.length : Int) := of_decide_eq_true (by first | (with_reducible assumption) | assumption)
                                      obtain ⟨ad197, e197, hx197_0, hx197_1⟩ := at_TField HR0_2.out x6_4 p197 q197
                                      obtain rfl : ad193 = ad197 := (by injection e197)
                                      replace hx197_0 := (HB.out.cell (World.block_lt_of_cell? w _ hx197_0)).trans hx197_0
                                      replace hx197_1 := (HB.out.cell (World.block_lt_of_cell? w _ hx197_1)).trans hx197_1
                                      replace p197 := eq_true p197
                                      replace q197 := eq_true q197
                                      have p198 : 0 ≤ (x4_2 : Int) := of_decide_eq_true (by first | (with_reducible assumption) | assumption)
                                      have q198 : x4_2 < (l0_2.length : Int) := of_decide_eq_true (by first | (with_reducible assumption) | assumption)
                                      obtain ⟨ad198, e198, hx198_0, hx198_1⟩ := at_TField HR0_2.out x4_2 p198 q198
                                      obtain rfl : ad193 = ad198 := (by injection e198)
                                      replace hx198_0 := (HB.out.cell (World.block_lt_of_cell? w _ hx198_0)).trans hx198_0
                                      replace hx198_1 := (HB.out.cell (World.block_lt_of_cell? w _ hx198_1)).trans hx198_1
                                      replace p198 := eq_true p198
                                      replace q198 := eq_true q198
                                      go_wp2
                                      repeat (go_quiet (fail); try go_wp2)
                                      go_roundg k4
                                      case measure => have := HJ2.out; have := HK2.out; have := HJ15.out; have := HK4.out; omega
                                      case rel => exact ⟨(wrap64 (x6_4 + 1)), (by first | rfl | (simp; done) | (simp [*]; done)), H', ⟨by have := HJ2.out; have := HK2.out; have := HJ15.out; have := HK4.out; omega⟩, ⟨by (with_reducible repeat (first | refine blk_drewN ?_ _ | refine blk_drew ?_ | refine blk_alloc ?_ _)); exact BK191.out⟩, ⟨by repeat (first | (with_reducible first | exact HB.out | apply below_alloc | apply pw_below_drewN | apply below_drew1 | refine below_set ?_ GE191.out) | exact HB.out)⟩⟩
                                  · rw [if_neg c27] at H
                                    exact absurd H (by simp)
                                · rw [if_neg c26] at H
                                  exact absurd H (by simp)
                              · rw [if_neg c25] at H
                                exact absurd H (by simp)
                            · rw [if_neg c24] at H
                              exact absurd H (by simp)
                          · rw [if_neg c23] at H
                            have c23b0 : decide (x6_4 < x4_2) = false := decide_eq_false c23
                            clear c23
                            have H' := Aside0.mk H
                            clear H
                            go_wp2
                            repeat (go_quiet (fail); try go_wp2)
                            go_roundg k4
                            case measure => have := HJ2.out; have := HK2.out; have := HJ15.out; have := HK4.out; omega
                            case rel => exact ⟨(wrap64 (x4_2 + 1)), (by first | rfl | (simp; done) | (simp [*]; done)), H', ⟨by have := HJ2.out; have := HK2.out; have := HJ15.out; have := HK4.out; omega⟩, ⟨by (with_reducible repeat (first | refine blk_drewN ?_ _ | refine blk_drew ?_ | refine blk_alloc ?_ _)); exact BK191.out⟩, ⟨by repeat (first | (with_reducible first | exact HB.out | apply below_alloc | apply pw_below_drewN | apply below_drew1 | refine below_set ?_ GE191.out) | exact HB.out)⟩⟩
              · rw [if_neg c14] at H
                exact absurd H (by simp)
            · rw [if_neg c13] at H
              have c13b0 : decide (x4_2 < (l0_2.length : Int)) = false := decide_eq_false c13
              clear c13
              obtain rfl := Option.some.inj H
              have hcz31_0 : wr.cell? ⟨gb191, 0, none⟩ = some (.string a0_0) := (blk_cell BK191.out 0).trans rfl
              have hcz31_1 : wr.cell? ⟨gb191, 1, none⟩ = some (.int .i64 a0_1) := (blk_cell BK191.out 1).trans rfl
              have hcz31_2 : wr.cell? ⟨gb191, 2, none⟩ = some (.slice A0_2 l0_2.length c0_2) := (blk_cell BK191.out 2).trans rfl
              have hfz31_0 := blk_frozen BK191.out 0
              have hfz31_1 := blk_frozen BK191.out 1
              have hfz31_2 := blk_frozen BK191.out 2
              go_wp2
              repeat (go_quiet (fail); try go_wp2)
              go_ret
              exact ⟨by first | rfl | (simp [errW_none, errW_some] <;> rfl) | (simp [*, errW_none, errW_some] <;> rfl), by repeat (first | (with_reducible first | exact HB.out | apply below_alloc | apply pw_below_drewN | apply below_drew1 | refine below_set ?_ GE191.out) | exact HB.out)⟩
theorem refMay_twice (nm : ByteArray) (ver : Int) (F : List SField) (i : Nat) (hi : i < F.length) (hF : F.length ≤ 6) (R : Option Bool) (h1 : mayB nm ver F = false → R = some false)
    (hok : nameB (F.getD i zField).f0 = true ∧ 0 ≤ (F.getD i zField).f1 ∧ (F.getD i zField).f1 < 4) : ∀ (d j k : Nat), j + d = i → (∀ k', k ≤ k' + d + 1 → fieldOK F i = true → towncrierref05_May.l0 k' ((i + 1 : Nat) : Int) nm ver F = R) → d < k → (∀ m, m < j → (F.getD m zField).f0.toList ≠ (F.getD i zField).f0.toList) →
    towncrierref05_May.l1 k (i : Int) (j : Int) nm ver F = R := by
  intro d
  induction d with
  | zero =>
    intro j k hj H hk h
    obtain ⟨k, rfl⟩ := rounds_of hk
    simp only [towncrierref05_May.l1]
    rw [if_neg (by omega), wrap_succ (by omega)]
    refine H k (by omega) ?_
    unfold fieldOK
    rw [hok.1, decide_eq_true hok.2.1, decide_eq_true hok.2.2]
    simp only [Bool.and_true, Bool.not_eq_true', List.any_eq_false]
    intro x hx
    obtain ⟨m, hm, rfl⟩ := List.mem_iff_getElem.1 hx
    rw [List.length_take] at hm
    have := h m (by omega)
    rw [List.getElem_take]
    have e : F.getD m zField = F[m]'(by omega) := by simp [List.getD, show m < F.length from by omega]
    rw [e] at this
    simpa using this
  | succ d ih =>
    intro j k hj H hk h
    obtain ⟨k, rfl⟩ := rounds_of hk
    simp only [towncrierref05_May.l1]
    rw [if_pos (by omega), if_pos (by omega), if_pos (by omega), if_pos (by omega), if_pos (by omega), wrap_succ (by omega)]
    rw [show rd_TField F (j : Int) = F.getD j zField from rfl, show rd_TField F (i : Int) = F.getD i zField from rfl]
    by_cases he : (F.getD j zField).f0.toList = (F.getD i zField).f0.toList
    · rw [if_pos he]
      refine (h1 (may_hit i hi ?_)).symm
      unfold fieldOK
      have : (F.take i).any (fun x => x.f0.toList == (F.getD i zField).f0.toList) = true := by
        rw [List.any_eq_true]
        refine ⟨F.getD j zField, ?_, by simpa using he⟩
        have e : F.getD j zField = F[j]'(by omega) := by simp [List.getD, show j < F.length from by omega]
        rw [e]
        exact List.mem_take_iff_getElem.2 ⟨j, by omega, rfl⟩
      rw [this]
      rfl
    · rw [if_neg he]
      exact ih (j + 1) k (by omega) (fun k' hk' => H k' (by omega)) (by omega) (fun m hm => by
        by_cases h2 : m < j
        · exact h m h2
        · obtain rfl : m = j := by omega
          exact he)
theorem refMay_loop (nm : ByteArray) (ver : Int) (F : List SField) (S : Nat) (hn : nameB nm = true) (h1 : 1 ≤ ver) (h2 : ver ≤ 1000) (hF : F.length ≤ 6) (hS : S < 4611686018427387904) (hs : ∀ i, i < F.length → (F.getD i zField).f0.size ≤ S) :
    ∀ (d i k : Nat), i + d = F.length → S + d * 10 + 10 < k → (∀ j, j < i → fieldOK F j = true) → towncrierref05_May.l0 k (i : Int) nm ver F = some (mayB nm ver F) := by
  intro d
  induction d with
  | zero =>
    intro i k hi hk h
    obtain ⟨k, rfl⟩ := rounds_of (show 0 < k by omega)
    simp only [towncrierref05_May.l0]
    rw [if_neg (by omega), may_all (fun j hj => h j (by omega)), hn, decide_eq_true h1, decide_eq_true h2, decide_eq_true hF]
    rfl
  | succ d ih =>
    intro i k hi hk h
    obtain ⟨k, rfl⟩ := rounds_of (show 0 < k by omega)
    simp only [towncrierref05_May.l0]
    rw [if_pos (by omega), if_pos (by omega), show rd_TField F (i : Int) = F.getD i zField from rfl, refName_is _ (hs i (by omega)) hS (by omega)]
    simp only [Option.bind_some]
    have hhit : fieldOK F i = false → mayB nm ver F = false := may_hit i (by omega)
    have hj2 : ∀ b, b = true → fieldOK F i = false → towncrierref05_May.j2 k (i : Int) b nm ver F = some (mayB nm ver F) := by
      intro b hb hf
      obtain ⟨k, rfl⟩ := rounds_of (show 0 < k by omega)
      simp only [towncrierref05_May.j2]
      rw [if_pos hb, hhit hf]
    by_cases hok : nameB (F.getD i zField).f0 = true ∧ 0 ≤ (F.getD i zField).f1 ∧ (F.getD i zField).f1 < 4
    · rw [if_pos hok.1, if_neg (by omega), decide_eq_false (by omega)]
      obtain ⟨k, rfl⟩ := rounds_of (show 0 < k by omega)
      simp only [towncrierref05_May.j2]
      rw [if_neg (by simp)]
      refine refMay_twice nm ver F i (by omega) hF _ (fun h => by rw [h]) hok i 0 k (by omega) (fun k' hk' hf => ?_) (by omega) (fun m hm => by omega)
      exact ih (i + 1) k' (by omega) (by omega) (all_next h hf)
    · have hf : fieldOK F i = false := by
        rw [← Bool.not_eq_true]
        intro h3
        exact hok (fieldOK_parts h3)
      by_cases ha : nameB (F.getD i zField).f0 = true
      · rw [if_pos ha]
        by_cases hb : (F.getD i zField).f1 < 0
        · rw [if_pos hb]; exact hj2 true rfl hf
        · have h4 : ¬ (F.getD i zField).f1 < 4 := fun h => hok ⟨ha, by omega, h⟩
          rw [if_neg hb]; exact hj2 _ (decide_eq_true (by omega)) hf
      · rw [if_neg ha]; exact hj2 true rfl hf
theorem refMay_is (nm : ByteArray) (ver : Int) (F : List SField) {S k : Nat} (hnm : nm.size ≤ S) (hS : S < 4611686018427387904) (hs : ∀ i, i < F.length → (F.getD i zField).f0.size ≤ S) (hk : S + 100 < k) : towncrierref05_May.f k nm ver F = some (mayB nm ver F) := by
  unfold towncrierref05_May.f
  rw [refName_is nm hnm hS (by omega)]
  simp only [Option.bind_some]
  have hj : ∀ b, b = true → mayB nm ver F = false → towncrierref05_May.j0 k b nm ver F = some (mayB nm ver F) := by
    intro b hb hf
    obtain ⟨k, rfl⟩ := rounds_of (show 0 < k by omega)
    simp only [towncrierref05_May.j0]
    rw [if_pos hb, hf]
  by_cases hn : nameB nm = true
  · rw [if_pos hn]
    by_cases h1 : ver < 1
    · rw [if_pos h1]
      exact hj true rfl (by unfold mayB; simp; omega)
    · rw [if_neg h1]
      by_cases h2 : ver > 1000
      · rw [if_pos h2]
        exact hj true rfl (by unfold mayB; simp; omega)
      · rw [if_neg h2]
        by_cases h3 : F.length ≤ 6
        · rw [decide_eq_false (by omega)]
          obtain ⟨k, rfl⟩ := rounds_of (show 0 < k by omega)
          simp only [towncrierref05_May.j0]
          rw [if_neg (by simp)]
          exact refMay_loop nm ver F S hn (by omega) (by omega) h3 hS hs F.length 0 k (by omega) (by omega) (fun j hj => by omega)
        · exact hj _ (decide_eq_true (by omega)) (by unfold mayB; simp; omega)
  · rw [if_neg hn]
    exact hj true rfl (by unfold mayB; simp [hn])
/-- Names as long as memory bears. -/
def okNames (x : SSchema) : Prop := x.f0.size ≤ 140737488351232 ∧ (∀ i, i < x.f2.length → (x.f2.getD i zField).f0.size ≤ 140737488351232) ∧ x.f2.length < 4611686018427387904
theorem refMay_told (x : SSchema) (A2 : Option Addr) (c2 : Nat) (w : World) (hr : Kd.C kField w A2 x.f2.length x.f2) (hc : x.f2.length ≤ c2) (hk : okNames x) :
    Calls Try.prog 36 #[.agg #[.string x.f0, .int .i64 x.f1, .slice A2 x.f2.length c2]] w (boolPost (mayS x) w) :=
  towncrierref05_May.calls 140737488361300 x.f0 x.f1 A2 c2 x.f2 (mayS x) w hr hc (refMay_is _ _ _ hk.1 (by decide) hk.2.1 (by decide))
theorem getF_names : ∀ (m : Nat) (l : List Int) (fs : List SField) (v : Nat), getF m l = some (fs, v) → fs.length = m ∧ ∀ f ∈ fs, f.f0.size ≤ 12
  | 0, l, fs, v, h => by simp only [getF, Option.some.injEq, Prod.mk.injEq] at h; obtain ⟨rfl, rfl⟩ := h; simp
  | m + 1, l, fs, v, h => by
    rw [getF] at h
    cases hg : readT l 12 with
    | none => rw [hg] at h; simp at h
    | some p =>
      obtain ⟨t, u⟩ := p
      rw [hg] at h
      simp only at h
      cases hd : l.drop u with
      | nil => rw [hd] at h; simp at h
      | cons k r =>
        rw [hd] at h
        simp only at h
        cases hf : getF m (l.drop (u + 1)) with
        | none => rw [hf] at h; simp at h
        | some q =>
          obtain ⟨gs, y⟩ := q
          rw [hf] at h
          simp only [Option.some.injEq, Prod.mk.injEq] at h
          obtain ⟨rfl, rfl⟩ := h
          obtain ⟨h1, h2⟩ := getF_names m _ gs y hf
          refine ⟨by simp [h1], fun f hm => ?_⟩
          rcases List.mem_cons.1 hm with rfl | hm
          · show (strOfNums t).size ≤ 12
            rw [strOfNums_size]
            exact (readT_used hg).2.1
          · exact h2 f hm
theorem getRaw_names {l : List Int} {x : SSchema} {n : Nat} (h : getRaw l = some (x, n)) : okNames x := by
  unfold getRaw at h
  cases hg : readT l 12 with
  | none => rw [hg] at h; simp at h
  | some p =>
    obtain ⟨t, u⟩ := p
    rw [hg] at h
    simp only at h
    cases hv : getM (l.drop u) 1000 with
    | none => rw [hv] at h; simp at h
    | some q =>
      obtain ⟨ver, v⟩ := q
      rw [hv] at h
      simp only at h
      cases hm : getM (l.drop (u + v)) 6 with
      | none => rw [hm] at h; simp at h
      | some r =>
        obtain ⟨many, y⟩ := r
        rw [hm] at h
        simp only at h
        unfold contF at h
        cases hf : getF many (l.drop (u + v + y)) with
        | none => rw [hf] at h; simp at h
        | some s =>
          obtain ⟨gs, z⟩ := s
          rw [hf] at h
          simp only [List.nil_append, Option.some.injEq, Prod.mk.injEq] at h
          obtain ⟨rfl, rfl⟩ := h
          obtain ⟨h1, h2⟩ := getF_names many _ gs z hf
          have h3 := (getM_used hm).2.1
          refine ⟨?_, fun i hi => ?_, by show gs.length < _; omega⟩
          · show (strOfNums t).size ≤ _
            rw [strOfNums_size]
            have := (readT_used hg).2.1
            omega
          · have hi' : i < gs.length := hi
            have := h2 (gs.getD i zField) (by simp [List.getD, hi'])
            show (gs.getD i zField).f0.size ≤ _
            omega

end Go.Proofs.Ytbgdamlidohfhaa.P

namespace Go.Proofs.Ytbgdamlidohfhaa.P
open Go.RowKit Go.Proofs.YtbgdamlidohfhaaW.PrintWords Go.Proofs.YtbgdamlidohfhaaW.PrintLast Go.Proofs.YtbgdamlidohfhaaW.PrintMore
attribute [local go_sem] max2_int min2_int max_two min_two max_three min_three max_four min_four   -- for this text's walks alone
set_option linter.unusedVariables false
set_option linter.unusedSimpArgs false

attribute [local go_sem high] eqAField
/-! ### towncrierref05_Fits: function 37 -/
mutual
def towncrierref05_Fits.j0 : Nat → Bool → ByteArray → Int → List (SField) → ByteArray → Int → List (SField) → Option (Bool)
  | 0, _, _, _, _, _, _, _ => none
  | k + 1, x41, x205000, x205001, x205002, x206000, x206001, x206002 => if x41 = true then (some false) else (towncrierref05_Fits.l0 k 0 x205000 x205001 x205002 x206000 x206001 x206002)
def towncrierref05_Fits.l0 : Nat → Int → ByteArray → Int → List (SField) → ByteArray → Int → List (SField) → Option (Bool)
  | 0, _, _, _, _, _, _, _ => none
  | k + 1, x7, x205000, x205001, x205002, x206000, x206001, x206002 => if x7 < (x205002.length : Int) then (if 0 ≤ x7 then (if x7 < (x206002.length : Int) then (if (!((((rd_TField x205002 x7).f0).toList) == (((rd_TField x206002 x7).f0).toList)) || (!(((rd_TField x205002 x7).f1) == ((rd_TField x206002 x7).f1)))) = true then (some false) else (towncrierref05_Fits.l0 k (wrap64 (x7 + 1)) x205000 x205001 x205002 x206000 x206001 x206002)) else (none)) else (none)) else (some true)
end
def towncrierref05_Fits.f (k : Nat) (a0_0 : ByteArray) (a0_1 : Int) (l0_2 : List (SField)) (a1_0 : ByteArray) (a1_1 : Int) (l1_2 : List (SField)) : Option (Bool) := (towncrierref05_May.f k a0_0 a0_1 l0_2).bind fun t206 => ((towncrierref05_May.f k a1_0 a1_1 l1_2).bind fun t207 => (if t206 = true then (if t207 = true then (if a0_0.toList = a1_0.toList then (if a1_1 = (wrap64 (a0_1 + 1)) then (towncrierref05_Fits.j0 k (decide ((l1_2.length : Int) < (l0_2.length : Int))) a0_0 a0_1 l0_2 a1_0 a1_1 l1_2) else (towncrierref05_Fits.j0 k true a0_0 a0_1 l0_2 a1_0 a1_1 l1_2)) else (towncrierref05_Fits.j0 k true a0_0 a0_1 l0_2 a1_0 a1_1 l1_2)) else (towncrierref05_Fits.j0 k true a0_0 a0_1 l0_2 a1_0 a1_1 l1_2)) else (towncrierref05_Fits.j0 k true a0_0 a0_1 l0_2 a1_0 a1_1 l1_2)))
theorem towncrierref05_Fits.mono_l : ∀ k, (∀ y0 y1 y2 y3 y4 y5 y6, LeO (towncrierref05_Fits.j0 k y0 y1 y2 y3 y4 y5 y6) (towncrierref05_Fits.j0 (k + 1) y0 y1 y2 y3 y4 y5 y6)) ∧ (∀ y0 y1 y2 y3 y4 y5 y6, LeO (towncrierref05_Fits.l0 k y0 y1 y2 y3 y4 y5 y6) (towncrierref05_Fits.l0 (k + 1) y0 y1 y2 y3 y4 y5 y6))
  | 0 => ⟨fun _ _ _ _ _ _ _ r h => by simp [towncrierref05_Fits.j0] at h, fun _ _ _ _ _ _ _ r h => by simp [towncrierref05_Fits.l0] at h⟩
  | k + 1 => by
    obtain ⟨ih0, ih1⟩ := towncrierref05_Fits.mono_l k
    refine ⟨?_, ?_⟩
    · intro y0 y1 y2 y3 y4 y5 y6
      unfold towncrierref05_Fits.j0
      repeat' first
      | (with_reducible exact ih0 _ _ _ _ _ _ _)
      | (with_reducible exact ih1 _ _ _ _ _ _ _)
      | (with_reducible exact towncrierref05_May.mono _ _ _ _)
      | (with_reducible exact LeO.refl _)
      | (with_reducible exact LeO.none _)
      | (with_reducible refine LeO.ite ?_ ?_)
      | (with_reducible refine LeO.bind ?_ (fun _ => ?_))
      | exact ih0 _ _ _ _ _ _ _
      | exact ih1 _ _ _ _ _ _ _
      | exact towncrierref05_May.mono _ _ _ _
      | exact LeO.none _
      | refine LeO.ite ?_ ?_
      | refine LeO.bind ?_ (fun _ => ?_)
    · intro y0 y1 y2 y3 y4 y5 y6
      unfold towncrierref05_Fits.l0
      repeat' first
      | (with_reducible exact ih0 _ _ _ _ _ _ _)
      | (with_reducible exact ih1 _ _ _ _ _ _ _)
      | (with_reducible exact towncrierref05_May.mono _ _ _ _)
      | (with_reducible exact LeO.refl _)
      | (with_reducible exact LeO.none _)
      | (with_reducible refine LeO.ite ?_ ?_)
      | (with_reducible refine LeO.bind ?_ (fun _ => ?_))
      | exact ih0 _ _ _ _ _ _ _
      | exact ih1 _ _ _ _ _ _ _
      | exact towncrierref05_May.mono _ _ _ _
      | exact LeO.none _
      | refine LeO.ite ?_ ?_
      | refine LeO.bind ?_ (fun _ => ?_)
theorem towncrierref05_Fits.mono : ∀ a0 a1 a2 a3 a4 a5 k, LeO (towncrierref05_Fits.f k a0 a1 a2 a3 a4 a5) (towncrierref05_Fits.f (k + 1) a0 a1 a2 a3 a4 a5) := by
  intro a0 a1 a2 a3 a4 a5 k
  obtain ⟨ih0, ih1⟩ := towncrierref05_Fits.mono_l k
  unfold towncrierref05_Fits.f
  repeat' first
      | (with_reducible exact ih0 _ _ _ _ _ _ _)
      | (with_reducible exact ih1 _ _ _ _ _ _ _)
      | (with_reducible exact towncrierref05_May.mono _ _ _ _)
      | (with_reducible exact LeO.refl _)
      | (with_reducible exact LeO.none _)
      | (with_reducible refine LeO.ite ?_ ?_)
      | (with_reducible refine LeO.bind ?_ (fun _ => ?_))
      | exact ih0 _ _ _ _ _ _ _
      | exact ih1 _ _ _ _ _ _ _
      | exact towncrierref05_May.mono _ _ _ _
      | exact LeO.none _
      | refine LeO.ite ?_ ?_
      | refine LeO.bind ?_ (fun _ => ?_)
set_option maxHeartbeats 8000000 in
set_option maxRecDepth 100000 in
theorem towncrierref05_Fits.calls (k : Nat) (a0_0 : ByteArray) (a0_1 : Int) (A0_2 : Option Addr) (c0_2 : Nat) (l0_2 : List (SField)) (a1_0 : ByteArray) (a1_1 : Int) (A1_2 : Option Addr) (c1_2 : Nat) (l1_2 : List (SField)) (r : Bool) (w : World) (hr0_2 : Kd.C kField w A0_2 l0_2.length l0_2) (hc0_2 : l0_2.length ≤ c0_2) (hr1_2 : Kd.C kField w A1_2 l1_2.length l1_2) (hc1_2 : l1_2.length ≤ c1_2) (h : towncrierref05_Fits.f k a0_0 a0_1 l0_2 a1_0 a1_1 l1_2 = some r) :
    Calls Try.prog 37 #[.agg #[.string a0_0, .int .i64 a0_1, .slice A0_2 l0_2.length c0_2], .agg #[.string a1_0, .int .i64 a1_1, .slice A1_2 l1_2.length c1_2]] w fun e w' => e = .returned (.bool r) ∧ Below w.heap.size w w' := by
  have hu25 := Try.underlying25
  have hu39 := Try.underlying39
  have HR0_2 := Aside0.mk hr0_2
  have HC0_2 := Aside0.mk hc0_2
  clear hr0_2 hc0_2
  have HR1_2 := Aside0.mk hr1_2
  have HC1_2 := Aside0.mk hc1_2
  clear hr1_2 hc1_2
  have HB := Aside0.mk (Below.refl w.heap.size w)
  have H : ((towncrierref05_May.f k a0_0 a0_1 l0_2).bind fun t206 => ((towncrierref05_May.f k a1_0 a1_1 l1_2).bind fun t207 => (if t206 = true then (if t207 = true then (if a0_0.toList = a1_0.toList then (if a1_1 = (wrap64 (a0_1 + 1)) then (towncrierref05_Fits.j0 k (decide ((l1_2.length : Int) < (l0_2.length : Int))) a0_0 a0_1 l0_2 a1_0 a1_1 l1_2) else (towncrierref05_Fits.j0 k true a0_0 a0_1 l0_2 a1_0 a1_1 l1_2)) else (towncrierref05_Fits.j0 k true a0_0 a0_1 l0_2 a1_0 a1_1 l1_2)) else (towncrierref05_Fits.j0 k true a0_0 a0_1 l0_2 a1_0 a1_1 l1_2)) else (towncrierref05_Fits.j0 k true a0_0 a0_1 l0_2 a1_0 a1_1 l1_2)))) = some r := h
  clear h
  replace H := Option.bind_eq_some_iff.mp H
  obtain ⟨t206, A30, H⟩ := H
  replace H : ((towncrierref05_May.f k a1_0 a1_1 l1_2).bind fun t207 => (if t206 = true then (if t207 = true then (if a0_0.toList = a1_0.toList then (if a1_1 = (wrap64 (a0_1 + 1)) then (towncrierref05_Fits.j0 k (decide ((l1_2.length : Int) < (l0_2.length : Int))) a0_0 a0_1 l0_2 a1_0 a1_1 l1_2) else (towncrierref05_Fits.j0 k true a0_0 a0_1 l0_2 a1_0 a1_1 l1_2)) else (towncrierref05_Fits.j0 k true a0_0 a0_1 l0_2 a1_0 a1_1 l1_2)) else (towncrierref05_Fits.j0 k true a0_0 a0_1 l0_2 a1_0 a1_1 l1_2)) else (towncrierref05_Fits.j0 k true a0_0 a0_1 l0_2 a1_0 a1_1 l1_2))) = some r := H
  have A3 := Aside0.mk A30
  clear A30
  replace H := Option.bind_eq_some_iff.mp H
  obtain ⟨t207, A40, H⟩ := H
  replace H : (if t206 = true then (if t207 = true then (if a0_0.toList = a1_0.toList then (if a1_1 = (wrap64 (a0_1 + 1)) then (towncrierref05_Fits.j0 k (decide ((l1_2.length : Int) < (l0_2.length : Int))) a0_0 a0_1 l0_2 a1_0 a1_1 l1_2) else (towncrierref05_Fits.j0 k true a0_0 a0_1 l0_2 a1_0 a1_1 l1_2)) else (towncrierref05_Fits.j0 k true a0_0 a0_1 l0_2 a1_0 a1_1 l1_2)) else (towncrierref05_Fits.j0 k true a0_0 a0_1 l0_2 a1_0 a1_1 l1_2)) else (towncrierref05_Fits.j0 k true a0_0 a0_1 l0_2 a1_0 a1_1 l1_2)) = some r := H
  have A4 := Aside0.mk A40
  clear A40
  have HC5 := Aside0.mk H
  clear H
  go_enter Try.func37, Try.ntmps37
  go_upto_region 3 with (first | ((with_reducible refine gate_dst (N := 2) rfl ?_); (try (refine gate_guard (by rfl) ?_; dsimp only)); refine box_event ?hg (N := 2) ?hd (cs := #[.string a0_0, .int .i64 a0_1, .slice A0_2 l0_2.length c0_2]) (t := 25) ?hr ?_; (case hd => rfl); (case hg => rfl); (case hr => first | (go_simp; done) | (go_simp; rfl)); intro gb204 hg w6 hbox hb; have n0_ := Aside0.mk (below_step (by repeat (first | (with_reducible first | exact HB.out | apply below_alloc | apply pw_below_drewN | apply below_drew1) | exact HB.out)) hb); have n1_ := Aside0.mk (hbox); have n2_ := Aside0.mk ((by rw [hg]; exact (below_size (by repeat (first | (with_reducible first | exact HB.out | apply below_alloc | apply pw_below_drewN | apply below_drew1) | exact HB.out))) : w.heap.size ≤ gb204)); have n3_ := Aside0.mk ((by rw [hg]; exact (below_size (by repeat (first | (with_reducible first | exact HB.out | apply below_alloc | apply pw_below_drewN | apply below_drew1) | exact HB.out))) : w.heap.size ≤ gb204)); clear HB; have HB := n0_; have BK204 := n1_; have GW204 := n2_; have GE204 := n3_; clear n0_ n1_ n2_ n3_; clear hb hbox hg) | ((with_reducible refine gate_dst (N := 3) rfl ?_); (try (refine gate_guard (by rfl) ?_; dsimp only)); refine box_event ?hg (N := 3) ?hd (cs := #[.string a1_0, .int .i64 a1_1, .slice A1_2 l1_2.length c1_2]) (t := 25) ?hr ?_; (case hd => rfl); (case hg => rfl); (case hr => first | (go_simp; done) | (go_simp; rfl)); intro gb205 hg w7 hbox hb; have n0_ := Aside0.mk (blk_below (g := gb204) (o := .cells #[.string a0_0, .int .i64 a0_1, .slice A0_2 l0_2.length c0_2] 25 (0, 0)) (by (with_reducible repeat (first | refine blk_drewN ?_ _ | refine blk_drew ?_ | refine blk_alloc ?_ _)); exact BK204.out) hb); have n1_ := Aside0.mk (below_step (by repeat (first | (with_reducible first | exact HB.out | apply below_alloc | apply pw_below_drewN | apply below_drew1 | refine below_set ?_ GE204.out) | exact HB.out)) hb); have n2_ := Aside0.mk (hbox); have n3_ := Aside0.mk ((by rw [hg]; exact (below_size (by repeat (first | (with_reducible first | exact HB.out | apply below_alloc | apply pw_below_drewN | apply below_drew1 | refine below_set ?_ GE204.out) | exact HB.out))) : w.heap.size ≤ gb205)); have n4_ := Aside0.mk ((by rw [hg]; exact (below_size (by repeat (first | (with_reducible first | exact HB.out | apply below_alloc | apply pw_below_drewN | apply below_drew1 | refine below_set ?_ GE204.out) | exact HB.out))) : w.heap.size ≤ gb205)); have n5_ := Aside0.mk ((by rw [hg]; exact Nat.ne_of_lt (blk_lt (g := gb204) (o := .cells #[.string a0_0, .int .i64 a0_1, .slice A0_2 l0_2.length c0_2] 25 (0, 0)) (by (with_reducible repeat (first | refine blk_drewN ?_ _ | refine blk_drew ?_ | refine blk_alloc ?_ _)); exact BK204.out)) : gb204 ≠ gb205)); have n6_ := Aside0.mk ((by rw [hg]; exact Nat.ne_of_gt (blk_lt (g := gb204) (o := .cells #[.string a0_0, .int .i64 a0_1, .slice A0_2 l0_2.length c0_2] 25 (0, 0)) (by (with_reducible repeat (first | refine blk_drewN ?_ _ | refine blk_drew ?_ | refine blk_alloc ?_ _)); exact BK204.out)) : gb205 ≠ gb204)); clear BK204; clear HB; have BK204 := n0_; have HB := n1_; have BK205 := n2_; have GW205 := n3_; have GE205 := n4_; have NB204_205 := n5_; have NB205_204 := n6_; clear n0_ n1_ n2_ n3_ n4_ n5_ n6_; clear hb hbox hg; have hnb8 := NB204_205.out; have hnc8 := NB205_204.out; have hcz9_0 : w7.cell? ⟨gb204, 0, none⟩ = some (.string a0_0) := (blk_cell BK204.out 0).trans rfl; have hcz9_1 : w7.cell? ⟨gb204, 1, none⟩ = some (.int .i64 a0_1) := (blk_cell BK204.out 1).trans rfl; have hcz9_2 : w7.cell? ⟨gb204, 2, none⟩ = some (.slice A0_2 l0_2.length c0_2) := (blk_cell BK204.out 2).trans rfl; have hfz9_0 := blk_frozen BK204.out 0; have hfz9_1 := blk_frozen BK204.out 1; have hfz9_2 := blk_frozen BK204.out 2) | (go_at_call 36; (with_reducible refine (towncrierref05_May.calls k a0_0 a0_1 _ _ l0_2 t206 _ ?side1 ?side2 A3.out).mono ?_); (case side1 => repeat (first | exact (Kd.C_below HR0_2.out HB.out) | (with_reducible refine Kd.C_alloc ?_ _) | (with_reducible refine Kd.C_drewN ?_ _) | (with_reducible refine Kd.C_drew ?_))); (case side2 => exact HC0_2.out); rintro e w10 ⟨rfl, hb⟩; have n0_ := Aside0.mk (blk_below (g := gb204) (o := .cells #[.string a0_0, .int .i64 a0_1, .slice A0_2 l0_2.length c0_2] 25 (0, 0)) (by (with_reducible repeat (first | refine blk_drewN ?_ _ | refine blk_drew ?_ | refine blk_alloc ?_ _)); exact BK204.out) hb); have n1_ := Aside0.mk (blk_below (g := gb205) (o := .cells #[.string a1_0, .int .i64 a1_1, .slice A1_2 l1_2.length c1_2] 25 (0, 0)) (by (with_reducible repeat (first | refine blk_drewN ?_ _ | refine blk_drew ?_ | refine blk_alloc ?_ _)); exact BK205.out) hb); have n2_ := Aside0.mk (below_step (by repeat (first | (with_reducible first | exact HB.out | apply below_alloc | apply pw_below_drewN | apply below_drew1 | refine below_set ?_ GE204.out | refine below_set ?_ GE205.out) | exact HB.out)) hb); clear BK204; clear BK205; clear HB; have BK204 := n0_; have BK205 := n1_; have HB := n2_; clear n0_ n1_ n2_; (try clear hb); (try clear hb2); (try clear hk); (try clear hi); have hcz11_0 : w10.cell? ⟨gb205, 0, none⟩ = some (.string a1_0) := (blk_cell BK205.out 0).trans rfl; have hcz11_1 : w10.cell? ⟨gb205, 1, none⟩ = some (.int .i64 a1_1) := (blk_cell BK205.out 1).trans rfl; have hcz11_2 : w10.cell? ⟨gb205, 2, none⟩ = some (.slice A1_2 l1_2.length c1_2) := (blk_cell BK205.out 2).trans rfl; have hfz11_0 := blk_frozen BK205.out 0; have hfz11_1 := blk_frozen BK205.out 1; have hfz11_2 := blk_frozen BK205.out 2) | (go_at_call 36; (with_reducible refine (towncrierref05_May.calls k a1_0 a1_1 _ _ l1_2 t207 _ ?side1 ?side2 A4.out).mono ?_); (case side1 => repeat (first | exact (Kd.C_below HR1_2.out HB.out) | (with_reducible refine Kd.C_alloc ?_ _) | (with_reducible refine Kd.C_drewN ?_ _) | (with_reducible refine Kd.C_drew ?_))); (case side2 => exact HC1_2.out); rintro e w12 ⟨rfl, hb⟩; have n0_ := Aside0.mk (blk_below (g := gb204) (o := .cells #[.string a0_0, .int .i64 a0_1, .slice A0_2 l0_2.length c0_2] 25 (0, 0)) (by (with_reducible repeat (first | refine blk_drewN ?_ _ | refine blk_drew ?_ | refine blk_alloc ?_ _)); exact BK204.out) hb); have n1_ := Aside0.mk (blk_below (g := gb205) (o := .cells #[.string a1_0, .int .i64 a1_1, .slice A1_2 l1_2.length c1_2] 25 (0, 0)) (by (with_reducible repeat (first | refine blk_drewN ?_ _ | refine blk_drew ?_ | refine blk_alloc ?_ _)); exact BK205.out) hb); have n2_ := Aside0.mk (below_step (by repeat (first | (with_reducible first | exact HB.out | apply below_alloc | apply pw_below_drewN | apply below_drew1 | refine below_set ?_ GE204.out | refine below_set ?_ GE205.out) | exact HB.out)) hb); clear BK204; clear BK205; clear HB; have BK204 := n0_; have BK205 := n1_; have HB := n2_; clear n0_ n1_ n2_; (try clear hb); (try clear hb2); (try clear hk); (try clear hi)))
  repeat (go_quiet (first | ((with_reducible refine gate_dst (N := 2) rfl ?_); (try (refine gate_guard (by rfl) ?_; dsimp only)); refine box_event ?hg (N := 2) ?hd (cs := #[.string a0_0, .int .i64 a0_1, .slice A0_2 l0_2.length c0_2]) (t := 25) ?hr ?_; (case hd => rfl); (case hg => rfl); (case hr => first | (go_simp; done) | (go_simp; rfl)); intro gb204 hg w6 hbox hb; have n0_ := Aside0.mk (below_step (by repeat (first | (with_reducible first | exact HB.out | apply below_alloc | apply pw_below_drewN | apply below_drew1) | exact HB.out)) hb); have n1_ := Aside0.mk (hbox); have n2_ := Aside0.mk ((by rw [hg]; exact (below_size (by repeat (first | (with_reducible first | exact HB.out | apply below_alloc | apply pw_below_drewN | apply below_drew1) | exact HB.out))) : w.heap.size ≤ gb204)); have n3_ := Aside0.mk ((by rw [hg]; exact (below_size (by repeat (first | (with_reducible first | exact HB.out | apply below_alloc | apply pw_below_drewN | apply below_drew1) | exact HB.out))) : w.heap.size ≤ gb204)); clear HB; have HB := n0_; have BK204 := n1_; have GW204 := n2_; have GE204 := n3_; clear n0_ n1_ n2_ n3_; clear hb hbox hg) | ((with_reducible refine gate_dst (N := 3) rfl ?_); (try (refine gate_guard (by rfl) ?_; dsimp only)); refine box_event ?hg (N := 3) ?hd (cs := #[.string a1_0, .int .i64 a1_1, .slice A1_2 l1_2.length c1_2]) (t := 25) ?hr ?_; (case hd => rfl); (case hg => rfl); (case hr => first | (go_simp; done) | (go_simp; rfl)); intro gb205 hg w7 hbox hb; have n0_ := Aside0.mk (blk_below (g := gb204) (o := .cells #[.string a0_0, .int .i64 a0_1, .slice A0_2 l0_2.length c0_2] 25 (0, 0)) (by (with_reducible repeat (first | refine blk_drewN ?_ _ | refine blk_drew ?_ | refine blk_alloc ?_ _)); exact BK204.out) hb); have n1_ := Aside0.mk (below_step (by repeat (first | (with_reducible first | exact HB.out | apply below_alloc | apply pw_below_drewN | apply below_drew1 | refine below_set ?_ GE204.out) | exact HB.out)) hb); have n2_ := Aside0.mk (hbox); have n3_ := Aside0.mk ((by rw [hg]; exact (below_size (by repeat (first | (with_reducible first | exact HB.out | apply below_alloc | apply pw_below_drewN | apply below_drew1 | refine below_set ?_ GE204.out) | exact HB.out))) : w.heap.size ≤ gb205)); have n4_ := Aside0.mk ((by rw [hg]; exact (below_size (by repeat (first | (with_reducible first | exact HB.out | apply below_alloc | apply pw_below_drewN | apply below_drew1 | refine below_set ?_ GE204.out) | exact HB.out))) : w.heap.size ≤ gb205)); have n5_ := Aside0.mk ((by rw [hg]; exact Nat.ne_of_lt (blk_lt (g := gb204) (o := .cells #[.string a0_0, .int .i64 a0_1, .slice A0_2 l0_2.length c0_2] 25 (0, 0)) (by (with_reducible repeat (first | refine blk_drewN ?_ _ | refine blk_drew ?_ | refine blk_alloc ?_ _)); exact BK204.out)) : gb204 ≠ gb205)); have n6_ := Aside0.mk ((by rw [hg]; exact Nat.ne_of_gt (blk_lt (g := gb204) (o := .cells #[.string a0_0, .int .i64 a0_1, .slice A0_2 l0_2.length c0_2] 25 (0, 0)) (by (with_reducible repeat (first | refine blk_drewN ?_ _ | refine blk_drew ?_ | refine blk_alloc ?_ _)); exact BK204.out)) : gb205 ≠ gb204)); clear BK204; clear HB; have BK204 := n0_; have HB := n1_; have BK205 := n2_; have GW205 := n3_; have GE205 := n4_; have NB204_205 := n5_; have NB205_204 := n6_; clear n0_ n1_ n2_ n3_ n4_ n5_ n6_; clear hb hbox hg; have hnb8 := NB204_205.out; have hnc8 := NB205_204.out; have hcz9_0 : w7.cell? ⟨gb204, 0, none⟩ = some (.string a0_0) := (blk_cell BK204.out 0).trans rfl; have hcz9_1 : w7.cell? ⟨gb204, 1, none⟩ = some (.int .i64 a0_1) := (blk_cell BK204.out 1).trans rfl; have hcz9_2 : w7.cell? ⟨gb204, 2, none⟩ = some (.slice A0_2 l0_2.length c0_2) := (blk_cell BK204.out 2).trans rfl; have hfz9_0 := blk_frozen BK204.out 0; have hfz9_1 := blk_frozen BK204.out 1; have hfz9_2 := blk_frozen BK204.out 2) | (go_at_call 36; (with_reducible refine (towncrierref05_May.calls k a0_0 a0_1 _ _ l0_2 t206 _ ?side1 ?side2 A3.out).mono ?_); (case side1 => repeat (first | exact (Kd.C_below HR0_2.out HB.out) | (with_reducible refine Kd.C_alloc ?_ _) | (with_reducible refine Kd.C_drewN ?_ _) | (with_reducible refine Kd.C_drew ?_))); (case side2 => exact HC0_2.out); rintro e w10 ⟨rfl, hb⟩; have n0_ := Aside0.mk (blk_below (g := gb204) (o := .cells #[.string a0_0, .int .i64 a0_1, .slice A0_2 l0_2.length c0_2] 25 (0, 0)) (by (with_reducible repeat (first | refine blk_drewN ?_ _ | refine blk_drew ?_ | refine blk_alloc ?_ _)); exact BK204.out) hb); have n1_ := Aside0.mk (blk_below (g := gb205) (o := .cells #[.string a1_0, .int .i64 a1_1, .slice A1_2 l1_2.length c1_2] 25 (0, 0)) (by (with_reducible repeat (first | refine blk_drewN ?_ _ | refine blk_drew ?_ | refine blk_alloc ?_ _)); exact BK205.out) hb); have n2_ := Aside0.mk (below_step (by repeat (first | (with_reducible first | exact HB.out | apply below_alloc | apply pw_below_drewN | apply below_drew1 | refine below_set ?_ GE204.out | refine below_set ?_ GE205.out) | exact HB.out)) hb); clear BK204; clear BK205; clear HB; have BK204 := n0_; have BK205 := n1_; have HB := n2_; clear n0_ n1_ n2_; (try clear hb); (try clear hb2); (try clear hk); (try clear hi); have hcz11_0 : w10.cell? ⟨gb205, 0, none⟩ = some (.string a1_0) := (blk_cell BK205.out 0).trans rfl; have hcz11_1 : w10.cell? ⟨gb205, 1, none⟩ = some (.int .i64 a1_1) := (blk_cell BK205.out 1).trans rfl; have hcz11_2 : w10.cell? ⟨gb205, 2, none⟩ = some (.slice A1_2 l1_2.length c1_2) := (blk_cell BK205.out 2).trans rfl; have hfz11_0 := blk_frozen BK205.out 0; have hfz11_1 := blk_frozen BK205.out 1; have hfz11_2 := blk_frozen BK205.out 2) | (go_at_call 36; (with_reducible refine (towncrierref05_May.calls k a1_0 a1_1 _ _ l1_2 t207 _ ?side1 ?side2 A4.out).mono ?_); (case side1 => repeat (first | exact (Kd.C_below HR1_2.out HB.out) | (with_reducible refine Kd.C_alloc ?_ _) | (with_reducible refine Kd.C_drewN ?_ _) | (with_reducible refine Kd.C_drew ?_))); (case side2 => exact HC1_2.out); rintro e w12 ⟨rfl, hb⟩; have n0_ := Aside0.mk (blk_below (g := gb204) (o := .cells #[.string a0_0, .int .i64 a0_1, .slice A0_2 l0_2.length c0_2] 25 (0, 0)) (by (with_reducible repeat (first | refine blk_drewN ?_ _ | refine blk_drew ?_ | refine blk_alloc ?_ _)); exact BK204.out) hb); have n1_ := Aside0.mk (blk_below (g := gb205) (o := .cells #[.string a1_0, .int .i64 a1_1, .slice A1_2 l1_2.length c1_2] 25 (0, 0)) (by (with_reducible repeat (first | refine blk_drewN ?_ _ | refine blk_drew ?_ | refine blk_alloc ?_ _)); exact BK205.out) hb); have n2_ := Aside0.mk (below_step (by repeat (first | (with_reducible first | exact HB.out | apply below_alloc | apply pw_below_drewN | apply below_drew1 | refine below_set ?_ GE204.out | refine below_set ?_ GE205.out) | exact HB.out)) hb); clear BK204; clear BK205; clear HB; have BK204 := n0_; have BK205 := n1_; have HB := n2_; clear n0_ n1_ n2_; (try clear hb); (try clear hb2); (try clear hk); (try clear hi))); go_upto_region 3 with (first | ((with_reducible refine gate_dst (N := 2) rfl ?_); (try (refine gate_guard (by rfl) ?_; dsimp only)); refine box_event ?hg (N := 2) ?hd (cs := #[.string a0_0, .int .i64 a0_1, .slice A0_2 l0_2.length c0_2]) (t := 25) ?hr ?_; (case hd => rfl); (case hg => rfl); (case hr => first | (go_simp; done) | (go_simp; rfl)); intro gb204 hg w6 hbox hb; have n0_ := Aside0.mk (below_step (by repeat (first | (with_reducible first | exact HB.out | apply below_alloc | apply pw_below_drewN | apply below_drew1) | exact HB.out)) hb); have n1_ := Aside0.mk (hbox); have n2_ := Aside0.mk ((by rw [hg]; exact (below_size (by repeat (first | (with_reducible first | exact HB.out | apply below_alloc | apply pw_below_drewN | apply below_drew1) | exact HB.out))) : w.heap.size ≤ gb204)); have n3_ := Aside0.mk ((by rw [hg]; exact (below_size (by repeat (first | (with_reducible first | exact HB.out | apply below_alloc | apply pw_below_drewN | apply below_drew1) | exact HB.out))) : w.heap.size ≤ gb204)); clear HB; have HB := n0_; have BK204 := n1_; have GW204 := n2_; have GE204 := n3_; clear n0_ n1_ n2_ n3_; clear hb hbox hg) | ((with_reducible refine gate_dst (N := 3) rfl ?_); (try (refine gate_guard (by rfl) ?_; dsimp only)); refine box_event ?hg (N := 3) ?hd (cs := #[.string a1_0, .int .i64 a1_1, .slice A1_2 l1_2.length c1_2]) (t := 25) ?hr ?_; (case hd => rfl); (case hg => rfl); (case hr => first | (go_simp; done) | (go_simp; rfl)); intro gb205 hg w7 hbox hb; have n0_ := Aside0.mk (blk_below (g := gb204) (o := .cells #[.string a0_0, .int .i64 a0_1, .slice A0_2 l0_2.length c0_2] 25 (0, 0)) (by (with_reducible repeat (first | refine blk_drewN ?_ _ | refine blk_drew ?_ | refine blk_alloc ?_ _)); exact BK204.out) hb); have n1_ := Aside0.mk (below_step (by repeat (first | (with_reducible first | exact HB.out | apply below_alloc | apply pw_below_drewN | apply below_drew1 | refine below_set ?_ GE204.out) | exact HB.out)) hb); have n2_ := Aside0.mk (hbox); have n3_ := Aside0.mk ((by rw [hg]; exact (below_size (by repeat (first | (with_reducible first | exact HB.out | apply below_alloc | apply pw_below_drewN | apply below_drew1 | refine below_set ?_ GE204.out) | exact HB.out))) : w.heap.size ≤ gb205)); have n4_ := Aside0.mk ((by rw [hg]; exact (below_size (by repeat (first | (with_reducible first | exact HB.out | apply below_alloc | apply pw_below_drewN | apply below_drew1 | refine below_set ?_ GE204.out) | exact HB.out))) : w.heap.size ≤ gb205)); have n5_ := Aside0.mk ((by rw [hg]; exact Nat.ne_of_lt (blk_lt (g := gb204) (o := .cells #[.string a0_0, .int .i64 a0_1, .slice A0_2 l0_2.length c0_2] 25 (0, 0)) (by (with_reducible repeat (first | refine blk_drewN ?_ _ | refine blk_drew ?_ | refine blk_alloc ?_ _)); exact BK204.out)) : gb204 ≠ gb205)); have n6_ := Aside0.mk ((by rw [hg]; exact Nat.ne_of_gt (blk_lt (g := gb204) (o := .cells #[.string a0_0, .int .i64 a0_1, .slice A0_2 l0_2.length c0_2] 25 (0, 0)) (by (with_reducible repeat (first | refine blk_drewN ?_ _ | refine blk_drew ?_ | refine blk_alloc ?_ _)); exact BK204.out)) : gb205 ≠ gb204)); clear BK204; clear HB; have BK204 := n0_; have HB := n1_; have BK205 := n2_; have GW205 := n3_; have GE205 := n4_; have NB204_205 := n5_; have NB205_204 := n6_; clear n0_ n1_ n2_ n3_ n4_ n5_ n6_; clear hb hbox hg; have hnb8 := NB204_205.out; have hnc8 := NB205_204.out; have hcz9_0 : w7.cell? ⟨gb204, 0, none⟩ = some (.string a0_0) := (blk_cell BK204.out 0).trans rfl; have hcz9_1 : w7.cell? ⟨gb204, 1, none⟩ = some (.int .i64 a0_1) := (blk_cell BK204.out 1).trans rfl; have hcz9_2 : w7.cell? ⟨gb204, 2, none⟩ = some (.slice A0_2 l0_2.length c0_2) := (blk_cell BK204.out 2).trans rfl; have hfz9_0 := blk_frozen BK204.out 0; have hfz9_1 := blk_frozen BK204.out 1; have hfz9_2 := blk_frozen BK204.out 2) | (go_at_call 36; (with_reducible refine (towncrierref05_May.calls k a0_0 a0_1 _ _ l0_2 t206 _ ?side1 ?side2 A3.out).mono ?_); (case side1 => repeat (first | exact (Kd.C_below HR0_2.out HB.out) | (with_reducible refine Kd.C_alloc ?_ _) | (with_reducible refine Kd.C_drewN ?_ _) | (with_reducible refine Kd.C_drew ?_))); (case side2 => exact HC0_2.out); rintro e w10 ⟨rfl, hb⟩; have n0_ := Aside0.mk (blk_below (g := gb204) (o := .cells #[.string a0_0, .int .i64 a0_1, .slice A0_2 l0_2.length c0_2] 25 (0, 0)) (by (with_reducible repeat (first | refine blk_drewN ?_ _ | refine blk_drew ?_ | refine blk_alloc ?_ _)); exact BK204.out) hb); have n1_ := Aside0.mk (blk_below (g := gb205) (o := .cells #[.string a1_0, .int .i64 a1_1, .slice A1_2 l1_2.length c1_2] 25 (0, 0)) (by (with_reducible repeat (first | refine blk_drewN ?_ _ | refine blk_drew ?_ | refine blk_alloc ?_ _)); exact BK205.out) hb); have n2_ := Aside0.mk (below_step (by repeat (first | (with_reducible first | exact HB.out | apply below_alloc | apply pw_below_drewN | apply below_drew1 | refine below_set ?_ GE204.out | refine below_set ?_ GE205.out) | exact HB.out)) hb); clear BK204; clear BK205; clear HB; have BK204 := n0_; have BK205 := n1_; have HB := n2_; clear n0_ n1_ n2_; (try clear hb); (try clear hb2); (try clear hk); (try clear hi); have hcz11_0 : w10.cell? ⟨gb205, 0, none⟩ = some (.string a1_0) := (blk_cell BK205.out 0).trans rfl; have hcz11_1 : w10.cell? ⟨gb205, 1, none⟩ = some (.int .i64 a1_1) := (blk_cell BK205.out 1).trans rfl; have hcz11_2 : w10.cell? ⟨gb205, 2, none⟩ = some (.slice A1_2 l1_2.length c1_2) := (blk_cell BK205.out 2).trans rfl; have hfz11_0 := blk_frozen BK205.out 0; have hfz11_1 := blk_frozen BK205.out 1; have hfz11_2 := blk_frozen BK205.out 2) | (go_at_call 36; (with_reducible refine (towncrierref05_May.calls k a1_0 a1_1 _ _ l1_2 t207 _ ?side1 ?side2 A4.out).mono ?_); (case side1 => repeat (first | exact (Kd.C_below HR1_2.out HB.out) | (with_reducible refine Kd.C_alloc ?_ _) | (with_reducible refine Kd.C_drewN ?_ _) | (with_reducible refine Kd.C_drew ?_))); (case side2 => exact HC1_2.out); rintro e w12 ⟨rfl, hb⟩; have n0_ := Aside0.mk (blk_below (g := gb204) (o := .cells #[.string a0_0, .int .i64 a0_1, .slice A0_2 l0_2.length c0_2] 25 (0, 0)) (by (with_reducible repeat (first | refine blk_drewN ?_ _ | refine blk_drew ?_ | refine blk_alloc ?_ _)); exact BK204.out) hb); have n1_ := Aside0.mk (blk_below (g := gb205) (o := .cells #[.string a1_0, .int .i64 a1_1, .slice A1_2 l1_2.length c1_2] 25 (0, 0)) (by (with_reducible repeat (first | refine blk_drewN ?_ _ | refine blk_drew ?_ | refine blk_alloc ?_ _)); exact BK205.out) hb); have n2_ := Aside0.mk (below_step (by repeat (first | (with_reducible first | exact HB.out | apply below_alloc | apply pw_below_drewN | apply below_drew1 | refine below_set ?_ GE204.out | refine below_set ?_ GE205.out) | exact HB.out)) hb); clear BK204; clear BK205; clear HB; have BK204 := n0_; have BK205 := n1_; have HB := n2_; clear n0_ n1_ n2_; (try clear hb); (try clear hb2); (try clear hk); (try clear hi))))
  (try simp only [Act.put, List.setIfInBounds_toArray, List.set_cons_zero, List.set_cons_succ])
  go_cut [41] (fun v41 wc => ∃ (kq : Nat) (x41_4 : Bool), v41 = .bool x41_4 ∧ Aside0 (towncrierref05_Fits.j0 kq x41_4 a0_0 a0_1 l0_2 a1_0 a1_1 l1_2 = some r) ∧ Aside0 (kq ≤ k) ∧ Aside0 (wc.heap[gb204]? = some (.cells #[.string a0_0, .int .i64 a0_1, (.slice A0_2 l0_2.length c0_2)] 25 (0, 0))) ∧ Aside0 (wc.heap[gb205]? = some (.cells #[.string a1_0, .int .i64 a1_1, (.slice A1_2 l1_2.length c1_2)] 25 (0, 0))) ∧ Aside0 (Below w.heap.size w wc))
  case first =>
    have H := HC5.out
    clear HC5
    by_cases c13 : t206 = true
    · subst c13
      have H1 : (if t207 = true then (if a0_0.toList = a1_0.toList then (if a1_1 = (wrap64 (a0_1 + 1)) then (towncrierref05_Fits.j0 k (decide ((l1_2.length : Int) < (l0_2.length : Int))) a0_0 a0_1 l0_2 a1_0 a1_1 l1_2) else (towncrierref05_Fits.j0 k true a0_0 a0_1 l0_2 a1_0 a1_1 l1_2)) else (towncrierref05_Fits.j0 k true a0_0 a0_1 l0_2 a1_0 a1_1 l1_2)) else (towncrierref05_Fits.j0 k true a0_0 a0_1 l0_2 a1_0 a1_1 l1_2)) = some r := by rw [if_pos rfl] at H; exact H
      clear H
      have H := H1
      clear H1
      by_cases c14 : t207 = true
      · subst c14
        have H1 : (if a0_0.toList = a1_0.toList then (if a1_1 = (wrap64 (a0_1 + 1)) then (towncrierref05_Fits.j0 k (decide ((l1_2.length : Int) < (l0_2.length : Int))) a0_0 a0_1 l0_2 a1_0 a1_1 l1_2) else (towncrierref05_Fits.j0 k true a0_0 a0_1 l0_2 a1_0 a1_1 l1_2)) else (towncrierref05_Fits.j0 k true a0_0 a0_1 l0_2 a1_0 a1_1 l1_2)) = some r := by rw [if_pos rfl] at H; exact H
        clear H
        have H := H1
        clear H1
        by_cases c15 : a0_0.toList = a1_0.toList
        · rw [if_pos c15] at H
          have c15b0 : (a0_0.toList == a1_0.toList) = true := beq_iff_eq.mpr c15
          have c15b1 : (a0_0.toList != a1_0.toList) = false := bne_eq_false_iff_eq.mpr c15
          clear c15
          (first | rw [c15b0] | (simp only [i64_w, i32_w]; rw [c15b0]) | skip)
          by_cases c16 : a1_1 = (wrap64 (a0_1 + 1))
          · rw [if_pos c16] at H
            have c16b0 : (a1_1 == (wrap64 (a0_1 + 1))) = true := beq_iff_eq.mpr c16
            have c16b1 : (a1_1 != (wrap64 (a0_1 + 1))) = false := bne_eq_false_iff_eq.mpr c16
            clear c16
            have H' := Aside0.mk H
            clear H
            have hnb17 := NB204_205.out
            have hnc17 := NB205_204.out
            have hcz18_0 : w12.cell? ⟨gb204, 0, none⟩ = some (.string a0_0) := (blk_cell BK204.out 0).trans rfl
            have hcz18_1 : w12.cell? ⟨gb204, 1, none⟩ = some (.int .i64 a0_1) := (blk_cell BK204.out 1).trans rfl
            have hcz18_2 : w12.cell? ⟨gb204, 2, none⟩ = some (.slice A0_2 l0_2.length c0_2) := (blk_cell BK204.out 2).trans rfl
            have hfz18_0 := blk_frozen BK204.out 0
            have hfz18_1 := blk_frozen BK204.out 1
            have hfz18_2 := blk_frozen BK204.out 2
            have hcz19_0 : w12.cell? ⟨gb205, 0, none⟩ = some (.string a1_0) := (blk_cell BK205.out 0).trans rfl
            have hcz19_1 : w12.cell? ⟨gb205, 1, none⟩ = some (.int .i64 a1_1) := (blk_cell BK205.out 1).trans rfl
            have hcz19_2 : w12.cell? ⟨gb205, 2, none⟩ = some (.slice A1_2 l1_2.length c1_2) := (blk_cell BK205.out 2).trans rfl
            have hfz19_0 := blk_frozen BK205.out 0
            have hfz19_1 := blk_frozen BK205.out 1
            have hfz19_2 := blk_frozen BK205.out 2
            go_wp2
            repeat (go_quiet (fail); try go_wp2)
            go_meet
            case rel => exact ⟨_, (decide ((l1_2.length : Int) < (l0_2.length : Int))), (by first | rfl | (simp; done) | (simp [*]; done)), H', ⟨by first | omega | exact Nat.le_refl _⟩, ⟨by (with_reducible repeat (first | refine blk_drewN ?_ _ | refine blk_drew ?_ | refine blk_alloc ?_ _)); exact BK204.out⟩, ⟨by (with_reducible repeat (first | refine blk_drewN ?_ _ | refine blk_drew ?_ | refine blk_alloc ?_ _)); exact BK205.out⟩, ⟨by repeat (first | (with_reducible first | exact HB.out | apply below_alloc | apply pw_below_drewN | apply below_drew1 | refine below_set ?_ GE204.out | refine below_set ?_ GE205.out) | exact HB.out)⟩⟩
          · rw [if_neg c16] at H
            have c16b0 : (a1_1 == (wrap64 (a0_1 + 1))) = false := beq_eq_false_iff_ne.mpr c16
            have c16b1 : (a1_1 != (wrap64 (a0_1 + 1))) = true := bne_iff_ne.mpr c16
            have H' := Aside0.mk H
            clear H
            have hnb20 := NB204_205.out
            have hnc20 := NB205_204.out
            have hcz21_0 : w12.cell? ⟨gb204, 0, none⟩ = some (.string a0_0) := (blk_cell BK204.out 0).trans rfl
            have hcz21_1 : w12.cell? ⟨gb204, 1, none⟩ = some (.int .i64 a0_1) := (blk_cell BK204.out 1).trans rfl
            have hcz21_2 : w12.cell? ⟨gb204, 2, none⟩ = some (.slice A0_2 l0_2.length c0_2) := (blk_cell BK204.out 2).trans rfl
            have hfz21_0 := blk_frozen BK204.out 0
            have hfz21_1 := blk_frozen BK204.out 1
            have hfz21_2 := blk_frozen BK204.out 2
            have hcz22_0 : w12.cell? ⟨gb205, 0, none⟩ = some (.string a1_0) := (blk_cell BK205.out 0).trans rfl
            have hcz22_1 : w12.cell? ⟨gb205, 1, none⟩ = some (.int .i64 a1_1) := (blk_cell BK205.out 1).trans rfl
            have hcz22_2 : w12.cell? ⟨gb205, 2, none⟩ = some (.slice A1_2 l1_2.length c1_2) := (blk_cell BK205.out 2).trans rfl
            have hfz22_0 := blk_frozen BK205.out 0
            have hfz22_1 := blk_frozen BK205.out 1
            have hfz22_2 := blk_frozen BK205.out 2
            go_wp2
            repeat (go_quiet (fail); try go_wp2)
            go_meet
            case rel => exact ⟨_, (true), (by first | rfl | (simp; done) | (simp [*]; done)), H', ⟨by first | omega | exact Nat.le_refl _⟩, ⟨by (with_reducible repeat (first | refine blk_drewN ?_ _ | refine blk_drew ?_ | refine blk_alloc ?_ _)); exact BK204.out⟩, ⟨by (with_reducible repeat (first | refine blk_drewN ?_ _ | refine blk_drew ?_ | refine blk_alloc ?_ _)); exact BK205.out⟩, ⟨by repeat (first | (with_reducible first | exact HB.out | apply below_alloc | apply pw_below_drewN | apply below_drew1 | refine below_set ?_ GE204.out | refine below_set ?_ GE205.out) | exact HB.out)⟩⟩
        · rw [if_neg c15] at H
          have c15b0 : (a0_0.toList == a1_0.toList) = false := beq_eq_false_iff_ne.mpr c15
          have c15b1 : (a0_0.toList != a1_0.toList) = true := bne_iff_ne.mpr c15
          (first | rw [c15b0] | (simp only [i64_w, i32_w]; rw [c15b0]) | skip)
          have H' := Aside0.mk H
          clear H
          have hnb23 := NB204_205.out
          have hnc23 := NB205_204.out
          have hcz24_0 : w12.cell? ⟨gb204, 0, none⟩ = some (.string a0_0) := (blk_cell BK204.out 0).trans rfl
          have hcz24_1 : w12.cell? ⟨gb204, 1, none⟩ = some (.int .i64 a0_1) := (blk_cell BK204.out 1).trans rfl
          have hcz24_2 : w12.cell? ⟨gb204, 2, none⟩ = some (.slice A0_2 l0_2.length c0_2) := (blk_cell BK204.out 2).trans rfl
          have hfz24_0 := blk_frozen BK204.out 0
          have hfz24_1 := blk_frozen BK204.out 1
          have hfz24_2 := blk_frozen BK204.out 2
          have hcz25_0 : w12.cell? ⟨gb205, 0, none⟩ = some (.string a1_0) := (blk_cell BK205.out 0).trans rfl
          have hcz25_1 : w12.cell? ⟨gb205, 1, none⟩ = some (.int .i64 a1_1) := (blk_cell BK205.out 1).trans rfl
          have hcz25_2 : w12.cell? ⟨gb205, 2, none⟩ = some (.slice A1_2 l1_2.length c1_2) := (blk_cell BK205.out 2).trans rfl
          have hfz25_0 := blk_frozen BK205.out 0
          have hfz25_1 := blk_frozen BK205.out 1
          have hfz25_2 := blk_frozen BK205.out 2
          go_wp2
          repeat (go_quiet (fail); try go_wp2)
          go_meet
          case rel => exact ⟨_, (true), (by first | rfl | (simp; done) | (simp [*]; done)), H', ⟨by first | omega | exact Nat.le_refl _⟩, ⟨by (with_reducible repeat (first | refine blk_drewN ?_ _ | refine blk_drew ?_ | refine blk_alloc ?_ _)); exact BK204.out⟩, ⟨by (with_reducible repeat (first | refine blk_drewN ?_ _ | refine blk_drew ?_ | refine blk_alloc ?_ _)); exact BK205.out⟩, ⟨by repeat (first | (with_reducible first | exact HB.out | apply below_alloc | apply pw_below_drewN | apply below_drew1 | refine below_set ?_ GE204.out | refine below_set ?_ GE205.out) | exact HB.out)⟩⟩
      · replace c14 := Bool.eq_false_iff.mpr c14
        subst c14
        have H1 : (towncrierref05_Fits.j0 k true a0_0 a0_1 l0_2 a1_0 a1_1 l1_2) = some r := by rw [if_neg (show ¬ (false = true) by decide)] at H; exact H
        clear H
        have H := H1
        clear H1
        have H' := Aside0.mk H
        clear H
        go_wp2
        repeat (go_quiet (fail); try go_wp2)
        go_meet
        case rel => exact ⟨_, (true), (by first | rfl | (simp; done) | (simp [*]; done)), H', ⟨by first | omega | exact Nat.le_refl _⟩, ⟨by (with_reducible repeat (first | refine blk_drewN ?_ _ | refine blk_drew ?_ | refine blk_alloc ?_ _)); exact BK204.out⟩, ⟨by (with_reducible repeat (first | refine blk_drewN ?_ _ | refine blk_drew ?_ | refine blk_alloc ?_ _)); exact BK205.out⟩, ⟨by repeat (first | (with_reducible first | exact HB.out | apply below_alloc | apply pw_below_drewN | apply below_drew1 | refine below_set ?_ GE204.out | refine below_set ?_ GE205.out) | exact HB.out)⟩⟩
    · replace c13 := Bool.eq_false_iff.mpr c13
      subst c13
      have H1 : (towncrierref05_Fits.j0 k true a0_0 a0_1 l0_2 a1_0 a1_1 l1_2) = some r := by rw [if_neg (show ¬ (false = true) by decide)] at H; exact H
      clear H
      have H := H1
      clear H1
      have H' := Aside0.mk H
      clear H
      go_wp2
      repeat (go_quiet (fail); try go_wp2)
      go_meet
      case rel => exact ⟨_, (true), (by first | rfl | (simp; done) | (simp [*]; done)), H', ⟨by first | omega | exact Nat.le_refl _⟩, ⟨by (with_reducible repeat (first | refine blk_drewN ?_ _ | refine blk_drew ?_ | refine blk_alloc ?_ _)); exact BK204.out⟩, ⟨by (with_reducible repeat (first | refine blk_drewN ?_ _ | refine blk_drew ?_ | refine blk_alloc ?_ _)); exact BK205.out⟩, ⟨by repeat (first | (with_reducible first | exact HB.out | apply below_alloc | apply pw_below_drewN | apply below_drew1 | refine below_set ?_ GE204.out | refine below_set ?_ GE205.out) | exact HB.out)⟩⟩
  case rest =>
    clear HC5
    try clear c1
    try clear c2
    try clear p2
    try clear c3
    try clear p6
    try clear c8
    try clear c13
    try clear c14
    try clear c15
    try clear c15b0
    try clear c15b1
    try clear c16
    try clear c16b0
    try clear c16b1
    try clear c17
    try clear c20
    try clear c23
    try clear hcz11_0
    try clear hcz11_1
    try clear hcz11_2
    try clear hcz18_0
    try clear hcz18_1
    try clear hcz18_2
    try clear hcz19_0
    try clear hcz19_1
    try clear hcz19_2
    try clear hcz21_0
    try clear hcz21_1
    try clear hcz21_2
    try clear hcz22_0
    try clear hcz22_1
    try clear hcz22_2
    try clear hcz24_0
    try clear hcz24_1
    try clear hcz24_2
    try clear hcz25_0
    try clear hcz25_1
    try clear hcz25_2
    try clear hcz9_0
    try clear hcz9_1
    try clear hcz9_2
    try clear hfz11_0
    try clear hfz11_1
    try clear hfz11_2
    try clear hfz18_0
    try clear hfz18_1
    try clear hfz18_2
    try clear hfz19_0
    try clear hfz19_1
    try clear hfz19_2
    try clear hfz21_0
    try clear hfz21_1
    try clear hfz21_2
    try clear hfz22_0
    try clear hfz22_1
    try clear hfz22_2
    try clear hfz24_0
    try clear hfz24_1
    try clear hfz24_2
    try clear hfz25_0
    try clear hfz25_1
    try clear hfz25_2
    try clear hfz9_0
    try clear hfz9_1
    try clear hfz9_2
    obtain ⟨kq, x41_4, rfl, HA, HJ4, BK204, BK205, HB⟩ := hcut
    cases kq with
    | zero => exact absurd HA.out (by simp [towncrierref05_Fits.j0])
    | succ kj4 =>
      have H := HA.out
      clear HA
      simp only [towncrierref05_Fits.j0] at H
      by_cases c26 : x41_4 = true
      · subst c26
        have H1 : (some false) = some r := by rw [if_pos rfl] at H; exact H
        clear H
        have H := H1
        clear H1
        obtain rfl := Option.some.inj H
        go_wp2
        repeat (go_quiet (fail); try go_wp2)
        go_ret
        exact ⟨by first | rfl | (simp [errW_none, errW_some] <;> rfl) | (simp [*, errW_none, errW_some] <;> rfl), by repeat (first | (with_reducible first | exact HB.out | apply below_alloc | apply pw_below_drewN | apply below_drew1 | refine below_set ?_ GE204.out | refine below_set ?_ GE205.out) | exact HB.out)⟩
      · replace c26 := Bool.eq_false_iff.mpr c26
        subst c26
        have H1 : (towncrierref05_Fits.l0 kj4 0 a0_0 a0_1 l0_2 a1_0 a1_1 l1_2) = some r := by rw [if_neg (show ¬ (false = true) by decide)] at H; exact H
        clear H
        have H := H1
        clear H1
        have H' := Aside0.mk H
        clear H
        go_wp2
        repeat (go_quiet (fail); try go_wp2)
        go_loopg [7] kj4 (fun kq v7 w' => ∃ (x7_2 : Int), v7 = .int .i64 x7_2 ∧ Aside0 (towncrierref05_Fits.l0 kq x7_2 a0_0 a0_1 l0_2 a1_0 a1_1 l1_2 = some r) ∧ Aside0 (kq ≤ kj4) ∧ Aside0 (w'.heap[gb204]? = some (.cells #[.string a0_0, .int .i64 a0_1, (.slice A0_2 l0_2.length c0_2)] 25 (0, 0))) ∧ Aside0 (w'.heap[gb205]? = some (.cells #[.string a1_0, .int .i64 a1_1, (.slice A1_2 l1_2.length c1_2)] 25 (0, 0))) ∧ Aside0 (Below w.heap.size w w'))
        case atStart => exact ⟨(0), (by first | rfl | (simp; done) | (simp [*]; done)), H', ⟨Nat.le_refl _⟩, ⟨by (with_reducible repeat (first | refine blk_drewN ?_ _ | refine blk_drew ?_ | refine blk_alloc ?_ _)); exact BK204.out⟩, ⟨by (with_reducible repeat (first | refine blk_drewN ?_ _ | refine blk_drew ?_ | refine blk_alloc ?_ _)); exact BK205.out⟩, ⟨by repeat (first | (with_reducible first | exact HB.out | apply below_alloc | apply pw_below_drewN | apply below_drew1 | refine below_set ?_ GE204.out | refine below_set ?_ GE205.out) | exact HB.out)⟩⟩
        case round =>
          clear H'
          try clear c1
          try clear c2
          try clear p2
          try clear c3
          try clear p6
          try clear c8
          try clear c13
          try clear c14
          try clear c15
          try clear c15b0
          try clear c15b1
          try clear c16
          try clear c16b0
          try clear c16b1
          try clear c17
          try clear c20
          try clear c23
          try clear c26
          try clear hcz11_0
          try clear hcz11_1
          try clear hcz11_2
          try clear hcz18_0
          try clear hcz18_1
          try clear hcz18_2
          try clear hcz19_0
          try clear hcz19_1
          try clear hcz19_2
          try clear hcz21_0
          try clear hcz21_1
          try clear hcz21_2
          try clear hcz22_0
          try clear hcz22_1
          try clear hcz22_2
          try clear hcz24_0
          try clear hcz24_1
          try clear hcz24_2
          try clear hcz25_0
          try clear hcz25_1
          try clear hcz25_2
          try clear hcz9_0
          try clear hcz9_1
          try clear hcz9_2
          try clear hfz11_0
          try clear hfz11_1
          try clear hfz11_2
          try clear hfz18_0
          try clear hfz18_1
          try clear hfz18_2
          try clear hfz19_0
          try clear hfz19_1
          try clear hfz19_2
          try clear hfz21_0
          try clear hfz21_1
          try clear hfz21_2
          try clear hfz22_0
          try clear hfz22_1
          try clear hfz22_2
          try clear hfz24_0
          try clear hfz24_1
          try clear hfz24_2
          try clear hfz25_0
          try clear hfz25_1
          try clear hfz25_2
          try clear hfz9_0
          try clear hfz9_1
          try clear hfz9_2
          try clear p2
          try clear p6
          obtain ⟨x7_2, rfl, HA, HK2, BK204, BK205, HB⟩ := hrel
          cases gk with
          | zero => exact absurd HA.out (by simp [towncrierref05_Fits.l0])
          | succ k2 =>
            have H := HA.out
            clear HA
            simp only [towncrierref05_Fits.l0] at H
            by_cases c27 : x7_2 < (l0_2.length : Int)
            · rw [if_pos c27] at H
              have c27b0 : decide (x7_2 < (l0_2.length : Int)) = true := decide_eq_true c27
              clear c27
              by_cases c28 : 0 ≤ x7_2
              · rw [if_pos c28] at H
                have c28b0 : decide (0 ≤ x7_2) = true := decide_eq_true c28
                clear c28
                by_cases c29 : x7_2 < (l1_2.length : Int)
                · rw [if_pos c29] at H
                  have c29b0 : decide (x7_2 < (l1_2.length : Int)) = true := decide_eq_true c29
                  clear c29
                  by_cases c30 : (!((((rd_TField l0_2 x7_2).f0).toList) == (((rd_TField l1_2 x7_2).f0).toList)) || (!(((rd_TField l0_2 x7_2).f1) == ((rd_TField l1_2 x7_2).f1)))) = true
                  · rw [if_pos c30] at H
                    have c30b0 : (!((((rd_TField l0_2 x7_2).f0).toList) == (((rd_TField l1_2 x7_2).f0).toList)) || (!(((rd_TField l0_2 x7_2).f1) == ((rd_TField l1_2 x7_2).f1)))) = true := c30
                    clear c30
                    obtain rfl := Option.some.inj H
                    have hnb31 := NB204_205.out
                    have hnc31 := NB205_204.out
                    have hcz32_0 : wr.cell? ⟨gb204, 0, none⟩ = some (.string a0_0) := (blk_cell BK204.out 0).trans rfl
                    have hcz32_1 : wr.cell? ⟨gb204, 1, none⟩ = some (.int .i64 a0_1) := (blk_cell BK204.out 1).trans rfl
                    have hcz32_2 : wr.cell? ⟨gb204, 2, none⟩ = some (.slice A0_2 l0_2.length c0_2) := (blk_cell BK204.out 2).trans rfl
                    have hfz32_0 := blk_frozen BK204.out 0
                    have hfz32_1 := blk_frozen BK204.out 1
                    have hfz32_2 := blk_frozen BK204.out 2
                    have p208 : 0 ≤ (x7_2 : Int) := of_decide_eq_true (by first | (with_reducible assumption) | assumption)
                    have q208 : x7_2 < (l0_2.length : Int) := of_decide_eq_true (by first | (with_reducible assumption) | assumption)
                    obtain ⟨ad208, e208, hx208_0, hx208_1⟩ := at_TField HR0_2.out x7_2 p208 q208
                    cases e208
                    replace hx208_0 := (HB.out.cell (World.block_lt_of_cell? w _ hx208_0)).trans hx208_0
                    replace hx208_1 := (HB.out.cell (World.block_lt_of_cell? w _ hx208_1)).trans hx208_1
                    replace p208 := eq_true p208
                    replace q208 := eq_true q208
                    have hcz33_0 : wr.cell? ⟨gb205, 0, none⟩ = some (.string a1_0) := (blk_cell BK205.out 0).trans rfl
                    have hcz33_1 : wr.cell? ⟨gb205, 1, none⟩ = some (.int .i64 a1_1) := (blk_cell BK205.out 1).trans rfl
                    have hcz33_2 : wr.cell? ⟨gb205, 2, none⟩ = some (.slice A1_2 l1_2.length c1_2) := (blk_cell BK205.out 2).trans rfl
                    have hfz33_0 := blk_frozen BK205.out 0
                    have hfz33_1 := blk_frozen BK205.out 1
                    have hfz33_2 := blk_frozen BK205.out 2
                    have p209 : 0 ≤ (x7_2 : Int) := of_decide_eq_true (by first | (with_reducible assumption) | assumption)
                    have q209 : x7_2 < (l1_2.length : Int) := of_decide_eq_true (by first | (with_reducible assumption) | assumption)
                    obtain ⟨ad209, e209, hx209_0, hx209_1⟩ := at_TField HR1_2.out x7_2 p209 q209
                    cases e209
                    replace hx209_0 := (HB.out.cell (World.block_lt_of_cell? w _ hx209_0)).trans hx209_0
                    replace hx209_1 := (HB.out.cell (World.block_lt_of_cell? w _ hx209_1)).trans hx209_1
                    replace p209 := eq_true p209
                    replace q209 := eq_true q209
                    go_wp2
                    repeat (go_quiet (fail); try go_wp2)
                    go_ret
                    exact ⟨by first | rfl | (simp [errW_none, errW_some] <;> rfl) | (simp [*, errW_none, errW_some] <;> rfl), by repeat (first | (with_reducible first | exact HB.out | apply below_alloc | apply pw_below_drewN | apply below_drew1 | refine below_set ?_ GE204.out | refine below_set ?_ GE205.out) | exact HB.out)⟩
                  · rw [if_neg c30] at H
                    have c30b0 : (!((((rd_TField l0_2 x7_2).f0).toList) == (((rd_TField l1_2 x7_2).f0).toList)) || (!(((rd_TField l0_2 x7_2).f1) == ((rd_TField l1_2 x7_2).f1)))) = false := by simpa using c30
                    clear c30
                    have H' := Aside0.mk H
                    clear H
                    have hnb34 := NB204_205.out
                    have hnc34 := NB205_204.out
                    have hcz35_0 : wr.cell? ⟨gb204, 0, none⟩ = some (.string a0_0) := (blk_cell BK204.out 0).trans rfl
                    have hcz35_1 : wr.cell? ⟨gb204, 1, none⟩ = some (.int .i64 a0_1) := (blk_cell BK204.out 1).trans rfl
                    have hcz35_2 : wr.cell? ⟨gb204, 2, none⟩ = some (.slice A0_2 l0_2.length c0_2) := (blk_cell BK204.out 2).trans rfl
                    have hfz35_0 := blk_frozen BK204.out 0
                    have hfz35_1 := blk_frozen BK204.out 1
                    have hfz35_2 := blk_frozen BK204.out 2
                    have p208 : 0 ≤ (x7_2 : Int) := of_decide_eq_true (by first | (with_reducible assumption) | assumption)
                    have q208 : x7_2 < (l0_2.length : Int) := of_decide_eq_true (by first | (with_reducible assumption) | assumption)
                    obtain ⟨ad208, e208, hx208_0, hx208_1⟩ := at_TField HR0_2.out x7_2 p208 q208
                    cases e208
                    replace hx208_0 := (HB.out.cell (World.block_lt_of_cell? w _ hx208_0)).trans hx208_0
                    replace hx208_1 := (HB.out.cell (World.block_lt_of_cell? w _ hx208_1)).trans hx208_1
                    replace p208 := eq_true p208
                    replace q208 := eq_true q208
                    have hcz36_0 : wr.cell? ⟨gb205, 0, none⟩ = some (.string a1_0) := (blk_cell BK205.out 0).trans rfl
                    have hcz36_1 : wr.cell? ⟨gb205, 1, none⟩ = some (.int .i64 a1_1) := (blk_cell BK205.out 1).trans rfl
                    have hcz36_2 : wr.cell? ⟨gb205, 2, none⟩ = some (.slice A1_2 l1_2.length c1_2) := (blk_cell BK205.out 2).trans rfl
                    have hfz36_0 := blk_frozen BK205.out 0
                    have hfz36_1 := blk_frozen BK205.out 1
                    have hfz36_2 := blk_frozen BK205.out 2
                    have p209 : 0 ≤ (x7_2 : Int) := of_decide_eq_true (by first | (with_reducible assumption) | assumption)
                    have q209 : x7_2 < (l1_2.length : Int) := of_decide_eq_true (by first | (with_reducible assumption) | assumption)
                    obtain ⟨ad209, e209, hx209_0, hx209_1⟩ := at_TField HR1_2.out x7_2 p209 q209
                    cases e209
                    replace hx209_0 := (HB.out.cell (World.block_lt_of_cell? w _ hx209_0)).trans hx209_0
                    replace hx209_1 := (HB.out.cell (World.block_lt_of_cell? w _ hx209_1)).trans hx209_1
                    replace p209 := eq_true p209
                    replace q209 := eq_true q209
                    go_wp2
                    repeat (go_quiet (fail); try go_wp2)
                    go_roundg k2
                    case measure => have := HJ4.out; have := HK2.out; omega
                    case rel => exact ⟨(wrap64 (x7_2 + 1)), (by first | rfl | (simp; done) | (simp [*]; done)), H', ⟨by have := HJ4.out; have := HK2.out; omega⟩, ⟨by (with_reducible repeat (first | refine blk_drewN ?_ _ | refine blk_drew ?_ | refine blk_alloc ?_ _)); exact BK204.out⟩, ⟨by (with_reducible repeat (first | refine blk_drewN ?_ _ | refine blk_drew ?_ | refine blk_alloc ?_ _)); exact BK205.out⟩, ⟨by repeat (first | (with_reducible first | exact HB.out | apply below_alloc | apply pw_below_drewN | apply below_drew1 | refine below_set ?_ GE204.out | refine below_set ?_ GE205.out) | exact HB.out)⟩⟩
                · rw [if_neg c29] at H
                  exact absurd H (by simp)
              · rw [if_neg c28] at H
                exact absurd H (by simp)
            · rw [if_neg c27] at H
              have c27b0 : decide (x7_2 < (l0_2.length : Int)) = false := decide_eq_false c27
              clear c27
              obtain rfl := Option.some.inj H
              have hnb37 := NB204_205.out
              have hnc37 := NB205_204.out
              have hcz38_0 : wr.cell? ⟨gb204, 0, none⟩ = some (.string a0_0) := (blk_cell BK204.out 0).trans rfl
              have hcz38_1 : wr.cell? ⟨gb204, 1, none⟩ = some (.int .i64 a0_1) := (blk_cell BK204.out 1).trans rfl
              have hcz38_2 : wr.cell? ⟨gb204, 2, none⟩ = some (.slice A0_2 l0_2.length c0_2) := (blk_cell BK204.out 2).trans rfl
              have hfz38_0 := blk_frozen BK204.out 0
              have hfz38_1 := blk_frozen BK204.out 1
              have hfz38_2 := blk_frozen BK204.out 2
              go_wp2
              repeat (go_quiet (fail); try go_wp2)
              go_ret
              exact ⟨by first | rfl | (simp [errW_none, errW_some] <;> rfl) | (simp [*, errW_none, errW_some] <;> rfl), by repeat (first | (with_reducible first | exact HB.out | apply below_alloc | apply pw_below_drewN | apply below_drew1 | refine below_set ?_ GE204.out | refine below_set ?_ GE205.out) | exact HB.out)⟩

end Go.Proofs.Ytbgdamlidohfhaa.P

/- Plain facts on the schemas' functions (layer 5), and on the document's, about lists alone; each under the conditions that it names. -/
namespace Go.Proofs.Ytbgdamlidohfhaa.P
open Go.RowKit Go.Proofs.YtbgdamlidohfhaaW.PrintWords Go.Proofs.YtbgdamlidohfhaaW.PrintLast Go.Proofs.YtbgdamlidohfhaaW.PrintMore

theorem getD_mem {α : Type} {P : α → Prop} {l : List α} (h : ∀ y ∈ l, P y) (z : α) {i : Nat} (hi : i < l.length) : P (l.getD i z) := h _ (by simp [List.getD, hi])
theorem fields_few {x : SSchema} (h : wfSchema x) : x.f2.length < 5864062014805 := by obtain ⟨_, _, h, _⟩ := h; omega
def fitsB (x y : SSchema) : Bool := mayS x && (mayS y && (decide (x.f2.length ≤ y.f2.length) && eqSchema x ⟨y.f0, wrap64 (y.f1 - 1), y.f2.take x.f2.length⟩))
theorem fits_is (x y : SSchema) (hx : x.f2.length < 4611686018427387904) (hy : y.f2.length < 4611686018427387904) {k : Nat} (hk : x.f2.length < k) : schema_Fits.f k x.f0 x.f1 x.f2 y.f0 y.f1 y.f2 = some (fitsB x y) := by
  unfold schema_Fits.f schema_May.f fitsB mayS
  simp only [Option.bind_some]
  cases mayB x.f0 x.f1 x.f2
  · simp
  · rw [if_pos rfl]
    cases mayB y.f0 y.f1 y.f2
    · simp
    · rw [if_pos rfl]
      by_cases h : x.f2.length ≤ y.f2.length
      · rw [if_neg (by omega), if_pos (by omega), if_pos (by omega), decide_eq_true h, Int.toNat_natCast]
        have := schema_Same_is x ⟨y.f0, wrap64 (y.f1 - 1), y.f2.take x.f2.length⟩ (by omega) hk
        rw [this]
        rfl
      · rw [if_pos (by omega), decide_eq_false h]
        rfl
theorem eqf_iff {α : Type} {p : α → α → Bool} {z : α} {a b : List α} : eqf p z a b = true ↔ a.length = b.length ∧ ∀ i, i < a.length → p (a.getD i z) (b.getD i z) = true := by
  unfold eqf
  simp only [Bool.and_eq_true, decide_eq_true_eq, List.all_eq_true, List.mem_range]
theorem eqField_iff {x y : SField} : eqField x y = true ↔ x.f0.toList = y.f0.toList ∧ x.f1 = y.f1 := by
  unfold eqField
  simp only [Bool.and_eq_true, beq_iff_eq]
theorem eqSchema_iff {x y : SSchema} : eqSchema x y = true ↔ x.f0.toList = y.f0.toList ∧ x.f1 = y.f1 ∧ x.f2.length = y.f2.length ∧ ∀ i, i < x.f2.length → eqField (x.f2.getD i zField) (y.f2.getD i zField) = true := by
  unfold eqSchema
  simp only [Bool.and_eq_true, decide_eq_true_eq, eqf_iff]
theorem eqSchema_refl (x : SSchema) : eqSchema x x = true := eqSchema_iff.2 ⟨rfl, rfl, rfl, fun _ _ => eqField_iff.2 ⟨rfl, rfl⟩⟩
theorem mayS_iff {x : SSchema} : mayS x = true ↔ nameB x.f0 = true ∧ 1 ≤ x.f1 ∧ x.f1 ≤ 1000 ∧ x.f2.length ≤ 6 ∧ ∀ i, i < x.f2.length → fieldOK x.f2 i = true := by
  unfold mayS mayB
  simp only [Bool.and_eq_true, decide_eq_true_eq, List.all_eq_true, List.mem_range]
theorem getD_take {α : Type} (l : List α) (z : α) (n i : Nat) (h : i < n) : (l.take n).getD i z = l.getD i z := by
  simp only [List.getD_eq_getElem?_getD, List.getElem?_take, if_pos h]
theorem fitsB_iff {x y : SSchema} : fitsB x y = true ↔ mayS x = true ∧ mayS y = true ∧ x.f2.length ≤ y.f2.length ∧ x.f0.toList = y.f0.toList ∧ x.f1 + 1 = y.f1 ∧ ∀ i, i < x.f2.length → eqField (x.f2.getD i zField) (y.f2.getD i zField) = true := by
  unfold fitsB
  simp only [Bool.and_eq_true, decide_eq_true_eq, eqSchema_iff]
  constructor
  · rintro ⟨h1, h2, h3, h4, h5, _, h7⟩
    obtain ⟨_, hy1, hy2, _⟩ := mayS_iff.1 h2
    refine ⟨h1, h2, h3, h4, ?_, fun i hi => ?_⟩
    · have h5 : x.f1 = wrap64 (y.f1 - 1) := h5
      unfold wrap64 at h5; omega
    · have := h7 i hi
      rwa [getD_take _ _ _ _ hi] at this
  · rintro ⟨h1, h2, h3, h4, h5, h7⟩
    obtain ⟨_, hy1, hy2, _⟩ := mayS_iff.1 h2
    refine ⟨h1, h2, h3, h4, ?_, ?_, fun i hi => ?_⟩
    · show x.f1 = wrap64 (y.f1 - 1)
      unfold wrap64; omega
    · show x.f2.length = (y.f2.take x.f2.length).length
      rw [List.length_take]; omega
    · show eqField (x.f2.getD i zField) ((y.f2.take x.f2.length).getD i zField) = true
      rw [getD_take _ _ _ _ hi]
      exact h7 i hi
theorem few5_loop (x1 : ByteArray) (x2 : Int) (l : List SField) (hl : l.length < 4611686018427387904) : ∀ (d i k : Nat), i + d = l.length → d < k → ∃ b, towncrierlaw05_Few.l0 k (i : Int) x1 x2 l = some b := by
  intro d
  induction d with
  | zero =>
    intro i k hi hk
    obtain ⟨k, rfl⟩ := rounds_of hk
    simp only [towncrierlaw05_Few.l0]
    rw [if_neg (by omega)]
    exact ⟨_, rfl⟩
  | succ d ih =>
    intro i k hi hk
    obtain ⟨k, rfl⟩ := rounds_of hk
    simp only [towncrierlaw05_Few.l0]
    rw [if_pos (by omega), if_pos (by omega), wrap_succ (by omega)]
    split
    · exact ⟨_, rfl⟩
    · exact ih (i + 1) k (by omega) (by omega)
/-- At most 10 fields, if it is few. -/
theorem few5_some (x1 : ByteArray) (x2 : Int) (l : List SField) {k : Nat} (hk : 20 ≤ k) : ∃ b, towncrierlaw05_Few.f k x1 x2 l = some b ∧ (b = true → l.length ≤ 10) := by
  obtain ⟨k, rfl⟩ := rounds_of (show 0 < k from by omega)
  unfold towncrierlaw05_Few.f
  simp only [towncrierlaw05_Few.j0]
  split
  · exact ⟨_, rfl, by simp⟩
  · by_cases h : (l.length : Int) > 10
    · rw [decide_eq_true h]; exact ⟨_, rfl, by simp⟩
    · rw [decide_eq_false h]
      simp only [Bool.false_eq_true, if_false]
      obtain ⟨b, hb⟩ := few5_loop x1 x2 l (by omega) l.length 0 k (by omega) (by omega)
      exact ⟨b, hb, fun _ => by omega⟩
/-! ### The document's functions -/
theorem refSame_loop (x y : SSchema) (hl : x.f2.length ≤ 9223372036854775807) (hn : x.f0.toList = y.f0.toList) (hv : x.f1 = y.f1) (he : x.f2.length = y.f2.length) : ∀ (d i k : Nat), i + d = x.f2.length → d < k → (∀ j, j < i → eqField (x.f2.getD j zField) (y.f2.getD j zField) = true) →
    towncrierref05_Same.l0 k (i : Int) x.f0 x.f1 x.f2 y.f0 y.f1 y.f2 = some (eqSchema x y) := by
  intro d
  induction d with
  | zero =>
    intro i k hi hk h
    obtain ⟨k, rfl⟩ := rounds_of hk
    simp only [towncrierref05_Same.l0]
    rw [if_neg (by omega)]
    unfold eqSchema
    rw [decide_eq_true hn, decide_eq_true hv, eqf_all he (fun j hj => h j (by omega))]
    rfl
  | succ d ih =>
    intro i k hi hk h
    obtain ⟨k, rfl⟩ := rounds_of hk
    simp only [towncrierref05_Same.l0]
    rw [if_pos (by omega), if_pos (by omega), if_pos (by omega), wrap_succ (by omega)]
    rw [show rd_TField x.f2 (i : Int) = x.f2.getD i zField from rfl, show rd_TField y.f2 (i : Int) = y.f2.getD i zField from rfl]
    cases hq : eqField (x.f2.getD i zField) (y.f2.getD i zField) with
    | true =>
      have hq2 := hq
      unfold eqField at hq
      rw [Bool.and_eq_true] at hq
      rw [hq.1, hq.2]
      exact ih (i + 1) k (by omega) (by omega) (all_next h hq2)
    | false =>
      have hf : eqSchema x y = false := by
        unfold eqSchema
        rw [eqf_hit i (by omega) hq]
        simp
      rw [hf]
      unfold eqField at hq
      rw [Bool.and_eq_false_iff] at hq
      rcases hq with hq | hq <;> (rw [hq, if_pos (by simp)])
theorem refSame_is (x y : SSchema) (hl : x.f2.length ≤ 9223372036854775807) {k : Nat} (hk : x.f2.length + 1 < k) : towncrierref05_Same.f k x.f0 x.f1 x.f2 y.f0 y.f1 y.f2 = some (eqSchema x y) := by
  unfold towncrierref05_Same.f
  have hj : ∀ b, b = true → eqSchema x y = false → towncrierref05_Same.j0 k b x.f0 x.f1 x.f2 y.f0 y.f1 y.f2 = some (eqSchema x y) := by
    intro b hb hf
    obtain ⟨k, rfl⟩ := rounds_of (show 0 < k by omega)
    simp only [towncrierref05_Same.j0]
    rw [if_pos hb, hf]
  by_cases h1 : x.f0.toList = y.f0.toList
  · rw [if_pos h1]
    by_cases h2 : x.f1 = y.f1
    · rw [if_pos h2]
      by_cases h3 : x.f2.length = y.f2.length
      · obtain ⟨k, rfl⟩ := rounds_of (show 0 < k by omega)
        simp only [towncrierref05_Same.j0]
        rw [if_neg (by simp [h3])]
        exact refSame_loop x y hl h1 h2 h3 x.f2.length 0 k (by omega) (by omega) (fun j hj => by omega)
      · refine hj _ (bne_iff_ne.mpr (by omega)) ?_
        unfold eqSchema
        rw [eqf_len h3]
        simp
    · rw [if_neg h2]
      exact hj true rfl (by unfold eqSchema; rw [decide_eq_false h2]; simp)
  · rw [if_neg h1]
    exact hj true rfl (by unfold eqSchema; rw [decide_eq_false h1]; rfl)
theorem refFits_loop (x y : SSchema) (hl : x.f2.length ≤ 9223372036854775807) (hx : mayS x = true) (hy : mayS y = true) (hn : x.f0.toList = y.f0.toList) (hv : x.f1 + 1 = y.f1) (he : x.f2.length ≤ y.f2.length) : ∀ (d i k : Nat), i + d = x.f2.length → d < k → (∀ j, j < i → eqField (x.f2.getD j zField) (y.f2.getD j zField) = true) →
    towncrierref05_Fits.l0 k (i : Int) x.f0 x.f1 x.f2 y.f0 y.f1 y.f2 = some (fitsB x y) := by
  intro d
  induction d with
  | zero =>
    intro i k hi hk h
    obtain ⟨k, rfl⟩ := rounds_of hk
    simp only [towncrierref05_Fits.l0]
    rw [if_neg (by omega), fitsB_iff.2 ⟨hx, hy, he, hn, hv, fun j hj => h j (by omega)⟩]
  | succ d ih =>
    intro i k hi hk h
    obtain ⟨k, rfl⟩ := rounds_of hk
    simp only [towncrierref05_Fits.l0]
    rw [if_pos (by omega), if_pos (by omega), if_pos (by omega), wrap_succ (by omega)]
    rw [show rd_TField x.f2 (i : Int) = x.f2.getD i zField from rfl, show rd_TField y.f2 (i : Int) = y.f2.getD i zField from rfl]
    cases hq : eqField (x.f2.getD i zField) (y.f2.getD i zField) with
    | true =>
      have hq2 := hq
      unfold eqField at hq
      rw [Bool.and_eq_true] at hq
      rw [hq.1, hq.2]
      exact ih (i + 1) k (by omega) (by omega) (all_next h hq2)
    | false =>
      have hf : fitsB x y = false := by
        rw [← Bool.not_eq_true]
        intro h3
        have := (fitsB_iff.1 h3).2.2.2.2.2 i (by omega)
        rw [this] at hq
        cases hq
      rw [hf]
      unfold eqField at hq
      rw [Bool.and_eq_false_iff] at hq
      rcases hq with hq | hq <;> (rw [hq, if_pos (by simp)])
theorem refFits_is (x y : SSchema) {S k : Nat} (hx0 : x.f0.size ≤ S) (hy0 : y.f0.size ≤ S) (hS : S < 4611686018427387904) (hxs : ∀ i, i < x.f2.length → (x.f2.getD i zField).f0.size ≤ S) (hys : ∀ i, i < y.f2.length → (y.f2.getD i zField).f0.size ≤ S) (hk : S + 100 < k) :
    towncrierref05_Fits.f k x.f0 x.f1 x.f2 y.f0 y.f1 y.f2 = some (fitsB x y) := by
  unfold towncrierref05_Fits.f
  rw [refMay_is _ _ _ hx0 hS hxs hk, refMay_is _ _ _ hy0 hS hys hk]
  simp only [Option.bind_some]
  have hj : ∀ b, b = true → ¬ fitsB x y = true → towncrierref05_Fits.j0 k b x.f0 x.f1 x.f2 y.f0 y.f1 y.f2 = some (fitsB x y) := by
    intro b hb hf
    obtain ⟨k, rfl⟩ := rounds_of (show 0 < k by omega)
    simp only [towncrierref05_Fits.j0]
    rw [if_pos hb, show fitsB x y = false from by simpa using hf]
  by_cases h1 : mayB x.f0 x.f1 x.f2 = true
  · rw [if_pos h1]
    by_cases h2 : mayB y.f0 y.f1 y.f2 = true
    · rw [if_pos h2]
      have hxl := (mayB_parts h1).2.2.2.1
      have hxv := (mayB_parts h1).2.1
      have hxv2 := (mayB_parts h1).2.2.1
      have hw : wrap64 (x.f1 + 1) = x.f1 + 1 := by unfold wrap64; omega
      rw [hw]
      by_cases h3 : x.f0.toList = y.f0.toList
      · rw [if_pos h3]
        by_cases h4 : y.f1 = x.f1 + 1
        · rw [if_pos h4]
          by_cases h5 : x.f2.length ≤ y.f2.length
          · rw [decide_eq_false (by omega)]
            obtain ⟨k, rfl⟩ := rounds_of (show 0 < k by omega)
            simp only [towncrierref05_Fits.j0]
            rw [if_neg (by simp)]
            exact refFits_loop x y (by omega) h1 h2 h3 h4.symm h5 x.f2.length 0 k (by omega) (by omega) (fun j hj => by omega)
          · exact hj _ (decide_eq_true (by omega)) (fun h => h5 (fitsB_iff.1 h).2.2.1)
        · rw [if_neg h4]; exact hj true rfl (fun h => h4 (fitsB_iff.1 h).2.2.2.2.1.symm)
      · rw [if_neg h3]; exact hj true rfl (fun h => h3 (fitsB_iff.1 h).2.2.2.1)
    · rw [if_neg h2]; exact hj true rfl (fun h => h2 (fitsB_iff.1 h).2.1)
  · rw [if_neg h1]; exact hj true rfl (fun h => h1 (fitsB_iff.1 h).1)
/-! ### Calls, by what they come to -/
theorem refName_told (s : ByteArray) (w : World) (h : s.size ≤ 140737488351232) : Calls Try.prog 35 #[.string s] w (boolPost (nameB s) w) :=
  (towncrierref05_Name.calls 140737488351300 s (nameB s) w (refName_is s h (by decide) (by decide))).mono fun e w' h => ⟨h.1, h.2.below⟩
theorem wf_names {x : SSchema} (h : wfSchema x) : x.f0.size ≤ 140737488351232 ∧ ∀ i, i < x.f2.length → (x.f2.getD i zField).f0.size ≤ 140737488351232 :=
  ⟨h.1, fun i hi => (getD_mem (P := wfField) h.2.2.2 zField hi).1⟩
theorem wf_okNames {x : SSchema} (h : wfSchema x) : okNames x := ⟨(wf_names h).1, (wf_names h).2, by have := fields_few h; omega⟩
theorem may_told (x : SSchema) (A2 : Option Addr) (c2 : Nat) (w : World) (hr : Kd.C kField w A2 x.f2.length x.f2) (hc : x.f2.length ≤ c2) :
    Calls Try.prog 28 #[.agg #[.string x.f0, .int .i64 x.f1, .slice A2 x.f2.length c2]] w (boolPost (mayS x) w) := schema_May.calls x.f0 x.f1 A2 c2 x.f2 (mayS x) w hr hc rfl
theorem refSameS_told (x y : SSchema) (A0 : Option Addr) (c0 : Nat) (A1 : Option Addr) (c1 : Nat) (w : World) (hr0 : Kd.C kField w A0 x.f2.length x.f2) (hc0 : x.f2.length ≤ c0) (hr1 : Kd.C kField w A1 y.f2.length y.f2) (hc1 : y.f2.length ≤ c1) :
    Calls Try.prog 23 #[.agg #[.string x.f0, .int .i64 x.f1, .slice A0 x.f2.length c0], .agg #[.string y.f0, .int .i64 y.f1, .slice A1 y.f2.length c1]] w (boolPost (eqSchema x y) w) :=
  towncrierref05_Same.calls (x.f2.length + 2) _ _ _ _ _ _ _ _ _ _ (eqSchema x y) w hr0 hc0 hr1 hc1 (refSame_is x y hr0.2.1 (by omega))
theorem sameS_told (x y : SSchema) (A0 : Option Addr) (c0 : Nat) (A1 : Option Addr) (c1 : Nat) (w : World) (hr0 : Kd.C kField w A0 x.f2.length x.f2) (hc0 : x.f2.length ≤ c0) (hr1 : Kd.C kField w A1 y.f2.length y.f2) (hc1 : y.f2.length ≤ c1) :
    Calls Try.prog 27 #[.agg #[.string x.f0, .int .i64 x.f1, .slice A0 x.f2.length c0], .agg #[.string y.f0, .int .i64 y.f1, .slice A1 y.f2.length c1]] w (boolPost (eqSchema x y) w) :=
  schema_Same.calls (x.f2.length + 1) _ _ _ _ _ _ _ _ _ _ (eqSchema x y) w hr0 hc0 hr1 hc1 (schema_Same_is x y hr0.2.1 (by omega))
theorem fits_told (x y : SSchema) (A0 : Option Addr) (c0 : Nat) (A1 : Option Addr) (c1 : Nat) (w : World) (hx : x.f2.length < 4611686018427387904) (hy : y.f2.length < 4611686018427387904) (hr0 : Kd.C kField w A0 x.f2.length x.f2) (hc0 : x.f2.length ≤ c0) (hr1 : Kd.C kField w A1 y.f2.length y.f2) (hc1 : y.f2.length ≤ c1) :
    Calls Try.prog 38 #[.agg #[.string x.f0, .int .i64 x.f1, .slice A0 x.f2.length c0], .agg #[.string y.f0, .int .i64 y.f1, .slice A1 y.f2.length c1]] w (boolPost (fitsB x y) w) :=
  schema_Fits.calls (x.f2.length + 1) _ _ _ _ _ _ _ _ _ _ (fitsB x y) w hr0 hc0 hr1 hc1 (fits_is x y hx hy (by omega))
theorem refFits_told (x y : SSchema) (A0 : Option Addr) (c0 : Nat) (A1 : Option Addr) (c1 : Nat) (w : World) (hx : okNames x) (hy : okNames y) (hr0 : Kd.C kField w A0 x.f2.length x.f2) (hc0 : x.f2.length ≤ c0) (hr1 : Kd.C kField w A1 y.f2.length y.f2) (hc1 : y.f2.length ≤ c1) :
    Calls Try.prog 37 #[.agg #[.string x.f0, .int .i64 x.f1, .slice A0 x.f2.length c0], .agg #[.string y.f0, .int .i64 y.f1, .slice A1 y.f2.length c1]] w (boolPost (fitsB x y) w) :=
  towncrierref05_Fits.calls 140737488361300 _ _ _ _ _ _ _ _ _ _ (fitsB x y) w hr0 hc0 hr1 hc1 (refFits_is x y hx.1 hy.1 (by decide) hx.2.1 hy.2.1 (by decide))
/-! ### What is put is got, and the other way -/
def bytesS (x : SSchema) : List Int := putS x.f0 x.f1 x.f2
theorem getF_put : ∀ (F : List SField) (rest : List Int), (∀ f ∈ F, f.f0.size ≤ 12) → getF F.length (fieldsL F ++ rest) = some (F, (fieldsL F).length)
  | [], rest, _ => by simp [getF, fieldsL]
  | f :: F, rest, h => by
    have e : fieldsL (f :: F) ++ rest = textL f.f0 ++ (f.f1 :: (fieldsL F ++ rest)) := by simp [fieldsL]
    have hl : (fieldsL (f :: F)).length = (textL f.f0).length + 1 + (fieldsL F).length := by simp [fieldsL]; omega
    rw [List.length_cons, getF, e, readT_put _ (h f (by simp)) (by decide)]
    simp only
    rw [List.drop_left]
    simp only
    rw [show (textL f.f0).length + 1 = (textL f.f0 ++ [f.f1]).length from by simp, show textL f.f0 ++ f.f1 :: (fieldsL F ++ rest) = (textL f.f0 ++ [f.f1]) ++ (fieldsL F ++ rest) from by simp, List.drop_left, getF_put F rest (fun g hg => h g (by simp [hg]))]
    simp only [str_bytesOf, hl, List.length_append, List.length_singleton]
theorem getF_take : ∀ (m : Nat) (l : List Int) (fs : List SField) (v : Nat), byteL l → getF m l = some (fs, v) → l.take v = fieldsL fs ∧ v ≤ l.length
  | 0, l, fs, v, _, h => by simp only [getF, Option.some.injEq, Prod.mk.injEq] at h; obtain ⟨rfl, rfl⟩ := h; simp [fieldsL]
  | m + 1, l, fs, v, hb, h => by
    rw [getF] at h
    cases hg : readT l 12 with
    | none => rw [hg] at h; simp at h
    | some p =>
      obtain ⟨t, u⟩ := p
      rw [hg] at h
      simp only at h
      cases hd : l.drop u with
      | nil => rw [hd] at h; simp at h
      | cons k r =>
        rw [hd] at h
        simp only at h
        cases hf : getF m (l.drop (u + 1)) with
        | none => rw [hf] at h; simp at h
        | some q =>
          obtain ⟨gs, y⟩ := q
          rw [hf] at h
          simp only [Option.some.injEq, Prod.mk.injEq] at h
          obtain ⟨rfl, rfl⟩ := h
          obtain ⟨h1, h2⟩ := getF_take m _ gs y (byteL_drop hb _) hf
          have hul : u < l.length := by
            have := congrArg List.length hd
            rw [List.length_drop, List.length_cons] at this
            omega
          rw [List.length_drop] at h2
          refine ⟨?_, by omega⟩
          have e1 : l.take (u + 1) = textL (strOfNums t) ++ [k] := take_add' (readT_take hb hg).2 (by rw [hd]; rfl)
          rw [take_add' e1 h1]
          simp [fieldsL]
theorem getRaw_put {x : SSchema} (rest : List Int) (h : mayS x = true) : getRaw (bytesS x ++ rest) = some (x, (bytesS x).length) := by
  obtain ⟨hn, h1, h2, h3, h4⟩ := mayS_iff.1 h
  obtain ⟨vn, hv⟩ := Int.eq_ofNat_of_zero_le (show 0 ≤ x.f1 by omega)
  have hF : ∀ f ∈ x.f2, f.f0.size ≤ 12 := fun f hf => by
    obtain ⟨i, hi, rfl⟩ := List.mem_iff_getElem.1 hf
    have := nameB_size (fieldOK_parts (h4 i hi)).1
    rw [show x.f2.getD i zField = x.f2[i] from by simp [List.getD, hi]] at this
    exact this.2
  have e : bytesS x ++ rest = textL x.f0 ++ (lePut vn ++ (lePut x.f2.length ++ (fieldsL x.f2 ++ rest))) := by simp [bytesS, putS, hv]
  have hlen : (bytesS x).length = (textL x.f0).length + (lePut vn).length + (lePut x.f2.length).length + (fieldsL x.f2).length := by simp [bytesS, putS, hv]; omega
  have hd1 : (bytesS x ++ rest).drop (textL x.f0).length = lePut vn ++ (lePut x.f2.length ++ (fieldsL x.f2 ++ rest)) := by rw [e, List.drop_left]
  have hd2 : (bytesS x ++ rest).drop ((textL x.f0).length + (lePut vn).length) = lePut x.f2.length ++ (fieldsL x.f2 ++ rest) := by rw [← List.drop_drop, hd1, List.drop_left]
  have hd3 : (bytesS x ++ rest).drop ((textL x.f0).length + (lePut vn).length + (lePut x.f2.length).length) = fieldsL x.f2 ++ rest := by rw [← List.drop_drop, hd2, List.drop_left]
  unfold getRaw
  rw [show readT (bytesS x ++ rest) 12 = some (bytesOf x.f0, (textL x.f0).length) from by rw [e]; exact readT_put _ (nameB_size hn).2 (by decide)]
  simp only
  rw [hd1, getM_put _ (by omega) (by decide)]
  simp only
  rw [hd2, getM_put _ h3 (by decide)]
  simp only
  unfold contF
  rw [hd3, getF_put x.f2 rest hF]
  simp only [List.nil_append, str_bytesOf, hlen, Option.some.injEq, Prod.mk.injEq]
  refine ⟨?_, trivial⟩
  cases x
  simp at hv ⊢
  exact hv.symm
/-- What is put is got, whatever stands behind. -/
theorem getS_put {x : SSchema} (rest : List Int) (h : mayS x = true) : getS (bytesS x ++ rest) = some (x, (bytesS x).length) := by
  unfold getS
  rw [getRaw_put rest h]
  simp only
  rw [if_pos h]
/-- What is got may be, and is put as the same bytes. -/
theorem getS_take {l : List Int} {x : SSchema} {n : Nat} (hb : byteL l) (h : getS l = some (x, n)) : mayS x = true ∧ n ≤ l.length ∧ l.take n = bytesS x := by
  unfold getS at h
  cases hr : getRaw l with
  | none => rw [hr] at h; simp at h
  | some p =>
    obtain ⟨s, k⟩ := p
    rw [hr] at h
    simp only at h
    by_cases hm : mayS s = true
    · rw [if_pos hm] at h
      simp only [Option.some.injEq, Prod.mk.injEq] at h
      obtain ⟨rfl, rfl⟩ := h
      refine ⟨hm, ?_⟩
      unfold getRaw at hr
      cases hg : readT l 12 with
      | none => rw [hg] at hr; simp at hr
      | some p =>
        obtain ⟨t, u⟩ := p
        rw [hg] at hr
        simp only at hr
        cases hv : getM (l.drop u) 1000 with
        | none => rw [hv] at hr; simp at hr
        | some q =>
          obtain ⟨ver, v⟩ := q
          rw [hv] at hr
          simp only at hr
          cases hmm : getM (l.drop (u + v)) 6 with
          | none => rw [hmm] at hr; simp at hr
          | some r =>
            obtain ⟨many, y⟩ := r
            rw [hmm] at hr
            simp only at hr
            unfold contF at hr
            cases hf : getF many (l.drop (u + v + y)) with
            | none => rw [hf] at hr; simp at hr
            | some s2 =>
              obtain ⟨gs, z⟩ := s2
              rw [hf] at hr
              simp only [List.nil_append, Option.some.injEq, Prod.mk.injEq] at hr
              obtain ⟨rfl, rfl⟩ := hr
              obtain ⟨h1, h2⟩ := getF_take many _ gs z (byteL_drop hb _) hf
              obtain ⟨h3, _⟩ := getF_names many _ gs z hf
              have e1 := (readT_take hb hg).2
              have e2 := (getM_take (byteL_drop hb _) hv).1
              have e3 := (getM_take (byteL_drop hb _) hmm).1
              rw [List.length_drop] at h2
              have h5 := (getM_used hmm).2.2
              rw [List.length_drop] at h5
              have h6 := (getM_used hv).2.2
              rw [List.length_drop] at h6
              have h7 := (readT_used hg).1
              refine ⟨by omega, ?_⟩
              rw [take_add' (take_add' (take_add' e1 e2) e3) h1]
              simp [bytesS, putS, h3]
    · rw [if_neg hm] at h; simp at h
/-- A beginning of a schema's bytes is none. -/
theorem getS_cut {x : SSchema} (h : mayS x = true) (hb : byteL (bytesS x)) {i : Nat} (hi : i < (bytesS x).length) : getS ((bytesS x).take i) = none := by
  cases hg : getS ((bytesS x).take i) with
  | none => rfl
  | some p =>
    obtain ⟨y, n⟩ := p
    obtain ⟨hm, hn, ht⟩ := getS_take (byteL_take hb i) hg
    rw [List.length_take] at hn
    rw [List.take_take, Nat.min_eq_left (by omega)] at ht
    have e := getS_put (x := x) [] h
    rw [List.append_nil] at e
    have e2 : bytesS x = bytesS y ++ (bytesS x).drop n := by rw [← ht, List.take_append_drop]
    rw [e2, getS_put _ hm] at e
    simp only [Option.some.injEq, Prod.mk.injEq] at e
    have h2 := congrArg List.length ht
    rw [List.length_take] at h2
    have h3 := congrArg List.length e2
    rw [List.length_append, List.length_drop] at h3
    rw [List.length_append, List.length_drop] at e
    omega
theorem bytesS_inj {x y : SSchema} (hx : mayS x = true) (hy : mayS y = true) (h : bytesS x = bytesS y) : x = y := by
  have e := getS_put (x := x) [] hx
  rw [h, getS_put _ hy] at e
  simp only [Option.some.injEq, Prod.mk.injEq] at e
  exact e.1.symm
end Go.Proofs.Ytbgdamlidohfhaa.P

namespace Go.Proofs.Ytbgdamlidohfhaa.P
open Go.RowKit Go.Proofs.YtbgdamlidohfhaaW.PrintWords Go.Proofs.YtbgdamlidohfhaaW.PrintLast Go.Proofs.YtbgdamlidohfhaaW.PrintMore
attribute [local go_sem] max2_int min2_int max_two min_two max_three min_three max_four min_four   -- for this text's walks alone
set_option linter.unusedVariables false
set_option linter.unusedSimpArgs false

/-! ### slices_Grow_byte: function 60 -/
set_option maxHeartbeats 400000 in
theorem slices_Grow_byte.told (m : Nat) (w : World) (hm : m ≤ 70368744177664) :
    Calls Try.prog 60 #[.slice none 0 0, .int .i64 (m : Int)] w (rowPost (Kd.int .u8) 5 [] w) := by
  by_cases h0 : m = 0
  · subst h0
    go_enter Try.func60, Try.ntmps60
    go_wp2
    go_ret
    exact ⟨_, rfl, Kd.R_nil _ _ _ _ _, Below.refl _ _⟩
  · have h1 : ¬ ((m : Int) < 0) := by omega
    have h2 : (m : Int) > 0 := by omega
    go_enter Try.func60, Try.ntmps60
    go_wp2_with (at_builtin; refine Kd.R_append_zeros (Kd.int .u8) (w0 := w) w.heap.size rfl (.tmp 20) (.tmp 21) 43 3 5 (.int .u8 0) 1 rfl Try.underlying43 Try.underlying3 info5 rfl (by decide) (by omega) (.slice none 0 0) [] (0 : Int) (m : Int) (fun _ => True) rfl rfl ?aZ (fun _ _ => trivial) ?aO ?aN ?aB ?aS ?aL ?_; (case aZ => exact rfl); (case aO => exact Kd.R_nil _ _ _ _ _); (case aN => omega); (case aB => exact Below.refl _ _); (case aS => exact Nat.le_refl _); (case aL => simp; omega); intro v1 w2 ho hb hg hat; rw [List.nil_append, Int.toNat_natCast] at ho; obtain ⟨A1, c1, hv, hlc, hcr⟩ := Kd.R_reads ho; subst hv; obtain ⟨i0, hi0, _, hsz0, _⟩ := info_parts info5; have hcut := (print_take_of (P := Try.prog) (Value.int .u8) 0 43 5 .i64 Try.underlying43 hi0 hsz0 A1 c1 (List.replicate m 0) 0 (by omega) (by omega) hlc).1; have HO := Aside0.mk (Kd.R_take (m := 0) ho (by omega)); clear hcr ho hg hat hi0 hsz0; simp only [Int.toNat_zero, List.take_zero, List.length_nil] at hcut)
    go_wp2
    go_ret
    exact ⟨_, rfl, HO.out, hb⟩

end Go.Proofs.Ytbgdamlidohfhaa.P

namespace Go.Proofs.Ytbgdamlidohfhaa.P
open Go.RowKit Go.Proofs.YtbgdamlidohfhaaW.PrintWords Go.Proofs.YtbgdamlidohfhaaW.PrintLast Go.Proofs.YtbgdamlidohfhaaW.PrintMore
attribute [local go_sem] max2_int min2_int max_two min_two max_three min_three max_four min_four   -- for this text's walks alone
set_option linter.unusedVariables false
set_option linter.unusedSimpArgs false

/-! ### slices_Concat_byte: function 46 -/
def concRel (ls : List (List Int)) (w : World) (k : Nat) (v : Value) (w' : World) : Prop := k ≤ ls.length ∧ Kd.R (Kd.int .u8) 5 w' w.heap.size (fun _ => True) v (ls.take k).flatten ∧ Below w.heap.size w w'
theorem flat_snoc (ls : List (List Int)) (k : Nat) (h : k < ls.length) : (ls.take (k + 1)).flatten = (ls.take k).flatten ++ ls.getD k [] := by
  rw [take_snoc [] ls k h, List.flatten_append]
  simp
theorem flat_le (ls : List (List Int)) (k : Nat) : (ls.take k).flatten.length ≤ ls.flatten.length := by
  conv => rhs; rw [← List.take_append_drop k ls, List.flatten_append, List.length_append]
  omega
set_option maxHeartbeats 1000000 in
theorem slices_Concat_byte.told (A0 : Option Addr) (c0 : Nat) (ls : List (List Int)) (w : World) (hr0 : Kd.C (Kd.slice 5 (Kd.int .u8)) w A0 ls.length ls) (hc0 : ls.length ≤ c0) (hlen : ls.flatten.length ≤ 70368744177664) :
    Calls Try.prog 46 #[.slice A0 ls.length c0] w (rowPost (Kd.int .u8) 5 ls.flatten w) := by
  have HR := Aside0.mk hr0
  have HC := Aside0.mk hc0
  have hm := hr0.2.1
  clear hr0 hc0
  go_enter Try.func46, Try.ntmps46
  go_wp2
  go_loop [3, 5, 11] (fun v3 _ v11 => ∃ k : Nat, k ≤ ls.length ∧ v11 = .int .i64 k ∧ v3 = .int .i64 ((ls.take k).flatten.length : Nat)) (fun _ _ i => ls.length - (intOf i).toNat)
  case atStart => exact ⟨0, Nat.zero_le _, rfl, rfl⟩
  case round =>
    obtain ⟨k, hk, rfl, rfl⟩ := hrel
    by_cases hlt : k < ls.length
    · obtain ⟨ad, cs, e, hl, hK, hcell⟩ := Kd.C_get HR.out [] (k : Int) (by omega) (by omega)
      cases e
      obtain ⟨Ak, ck, rfl, hck, hrk⟩ := hK
      simp only [Int.toNat_natCast] at hcell hck hrk
      have hx := hcell 0 _ rfl
      rw [show (Kd.slice 5 (Kd.int .u8)).sz = 1 from rfl, Nat.mul_one, Nat.add_zero] at hx
      have hs := congrArg List.length (flat_snoc ls k hlt)
      rw [List.length_append] at hs
      have hle := flat_le ls (k + 1)
      have hg : 0 ≤ (((ls.take k).flatten.length : Nat) : Int) + (((ls.getD k []).length : Nat) : Int) := by omega
      have HS := Aside0.mk hs
      clear hcell hl hrk hck
      generalize (ls.getD k []).length = m at *
      generalize (ls.take k).flatten.length = n at *
      have hb1 : (n : Int) + (m : Int) ≤ 70368744177664 := by omega
      clear hs
      go_wp2
      go_round
      case rel => exact ⟨k + 1, by omega, by go_num, by rw [HS.out]; go_num⟩
      case measure => simp [intOf]; omega
    · obtain rfl : k = ls.length := by omega
      rw [List.take_length]
      obtain ⟨tot, htot⟩ : ∃ tot, ls.flatten.length = tot := ⟨_, rfl⟩
      have HTOT := Aside0.mk htot
      rw [htot] at hlen ⊢
      clear htot
      go_wp2_with (go_at_call 60; refine (slices_Grow_byte.told tot _ hlen).mono ?_; rintro e w1 ⟨v6, rfl, ho, hb1⟩; have HO := Aside0.mk ho; clear ho)
      go_loopw [6, 8, 27] (fun v6 _ v27 w' => ∃ k : Nat, v27 = .int .i64 k ∧ concRel ls w k v6 w') (fun _ _ i _ => ls.length - (intOf i).toNat)
      case atStart => exact ⟨0, rfl, Nat.zero_le _, HO.out, hb1⟩
      case round =>
        obtain ⟨k, rfl, hk2, ho, hb⟩ := hrel
        have HO2 := Aside0.mk ho
        have HB := Aside0.mk hb
        clear ho hb
        by_cases hlt2 : k < ls.length
        · obtain ⟨ad, cs, e, hl, hK, hcell⟩ := Kd.C_get (Kd.C_below HR.out HB.out) [] (k : Int) (by omega) (by omega)
          cases e
          obtain ⟨Ak, ck, rfl, hck, hrk⟩ := hK
          simp only [Int.toNat_natCast] at hcell hck hrk
          have hx := hcell 0 _ rfl
          rw [show (Kd.slice 5 (Kd.int .u8)).sz = 1 from rfl, Nat.mul_one, Nat.add_zero] at hx
          have HF := Aside0.mk (flat_snoc ls k hlt2)
          have hle := flat_le ls (k + 1)
          rw [HF.out, List.length_append, HTOT.out] at hle
          have HRK := Aside0.mk hrk
          clear hcell hl hrk hck
          generalize ls.getD k [] = y at *
          go_wp2_with (at_builtin; refine Kd.R_append_rows (Kd.int .u8) (Rr := (Kd.int .u8).K wr) (w0 := w) w.heap.size rfl (.tmp 31) (.tmp 32) 43 5 (.int .u8 0) 1 rfl Try.underlying43 info5 rfl (by decide) (by omega) u6 (ls.take k).flatten y Ak y.length ck (fun _ => True) (fun _ => False) rfl rfl ?aO ?aR ?aK (fun _ h => h.elim) (fun _ _ => trivial) ?aB ?aS ?aL ?_; (case aO => exact HO2.out); (case aR => exact HRK.out); (case aB => exact HB.out); (case aK => exact (fun _ _ h => h)); (case aS => exact below_size HB.out); (case aL => omega); intro v1 w2 ho hb hg hat)
          have HO3 := Aside0.mk ho
          clear ho hg hat
          go_roundw
          case rel => exact ⟨k + 1, by go_num, by omega, by rw [HF.out]; exact HO3.out, hb⟩
          case measure => simp [intOf]; omega
        · have hk3 : k = ls.length := by omega
          have hfin := HO2.out
          rw [hk3, List.take_length] at hfin
          have HFIN := Aside0.mk hfin
          clear hfin hk3
          go_wp2
          go_ret
          exact ⟨_, rfl, HFIN.out, HB.out⟩

end Go.Proofs.Ytbgdamlidohfhaa.P

namespace Go.Proofs.Ytbgdamlidohfhaa.P
open Go.RowKit Go.Proofs.YtbgdamlidohfhaaW.PrintWords Go.Proofs.YtbgdamlidohfhaaW.PrintLast Go.Proofs.YtbgdamlidohfhaaW.PrintMore
attribute [local go_sem] max2_int min2_int max_two min_two max_three min_three max_four min_four   -- for this text's walks alone
set_option linter.unusedVariables false
set_option linter.unusedSimpArgs false

/-! ### le_Put: function 48 -/
def le_Put.f (a0 : Int) : Option (List Int) := if 0 ≤ a0 then (if a0 < 18446744073709551616 then some (lePut a0.toNat) else none) else none
theorem le_or (n : Nat) : Go.bits .or .u8 (((n : Nat) : Int) % 256) 128 = ((n % 128 + 128 : Nat) : Int) := by
  have h : ∀ b : Fin 256, Go.bits .or .u8 ((b.val : Nat) : Int) 128 = ((b.val % 128 + 128 : Nat) : Int) := by decide +kernel
  have h2 := h ⟨n % 256, Nat.mod_lt _ (by decide)⟩
  have e : ((n : Nat) : Int) % 256 = ((n % 256 : Nat) : Int) := by omega
  rw [e, h2]
  show (((n % 256) % 128 + 128 : Nat) : Int) = _
  omega
def lePutRel (a : Nat) (w : World) (n : Nat) (v : Value) (w' : World) : Prop := ∃ acc : List Int, (1 ≤ n ∨ acc = []) ∧ acc ++ lePut n = lePut a ∧ n * 128 ^ acc.length ≤ a ∧ Kd.R (Kd.int .u8) 5 w' w.heap.size (fun _ => True) v acc ∧ Below w.heap.size w w'
set_option maxHeartbeats 1000000 in
set_option maxRecDepth 100000 in
theorem le_Put.calls (a0 : Int) (r : List Int) (w : World) (h : le_Put.f a0 = some r) :
    Calls Try.prog 48 #[.int .u64 a0] w fun e w' => ∃ v0_ : Value, e = .returned v0_ ∧ Kd.R (Kd.int .u8) 5 w' w.heap.size (fun _ => True) v0_ r ∧ Below w.heap.size w w' := by
  unfold le_Put.f at h
  by_cases h0 : 0 ≤ a0
  · rw [if_pos h0] at h
    by_cases h1 : a0 < 18446744073709551616
    · rw [if_pos h1] at h
      obtain rfl := Option.some.inj h
      clear h
      obtain ⟨a, rfl⟩ := Int.eq_ofNat_of_zero_le h0
      have ha : a < 18446744073709551616 := by omega
      rw [Int.toNat_natCast]
      show Calls _ _ _ _ (rowPost (Kd.int .u8) 5 (lePut a) w)
      have HA := Aside0.mk ha
      clear h0 h1 ha
      go_enter Try.func48, Try.ntmps48
      go_wp2
      go_step3
      go_wp2
      go_step3
      go_wp2
      go_loopg [0, 3] (a + 1) (fun kq v0 v3 w' => ∃ n : Nat, v0 = .int .u64 (n : Int) ∧ lePutRel a w n v3 w' ∧ Aside0 (n < kq))
      case atStart => exact ⟨a, rfl, ⟨[], .inr rfl, rfl, by simp, Kd.R_nil _ _ _ _ _, Below.refl _ _⟩, ⟨by omega⟩⟩
      case round =>
        obtain ⟨n, rfl, HR, HK⟩ := hrel
        obtain ⟨acc, h1n, hacc, hle, ho, hb⟩ := HR
        have HACC := Aside0.mk hacc
        have HLE := Aside0.mk hle
        have HO := Aside0.mk ho
        have HB := Aside0.mk hb
        clear hacc hle ho hb
        have hlen : acc.length ≤ 64 := by
          rcases h1n with h | rfl
          · have := lePut_few HLE.out HA.out h; omega
          · simp
        clear h1n
        by_cases hn : n < 128
        · have hn' : ((n : Nat) : Int) < 128 := by omega
          go_wp2_with ((with_reducible refine gate_builtin (b := .append) (xs := #[.tmp 6, .tmp 9]) rfl ?_); at_builtin; refine Kd.R_append (Kd.int .u8) (w0 := w) w.heap.size rfl (.tmp 6) (.tmp 9) 43 5 (.int .u8 0) 1 rfl Try.underlying43 info5 rfl (by decide) (by omega) u3 acc (n : Int) [.int .u8 (n : Int)] (fun _ => True) (fun _ => False) rfl rfl ?aP (fun _ hk => hk.elim) (fun _ _ => trivial) ?aO ?aB ?aS ?aL ?_; (case aP => exact rfl); (case aO => exact HO.out); (case aB => exact HB.out); (case aS => exact below_size HB.out); (case aL => omega); intro v1 w2 ho hb hg hat)
          rw [Exit.noGoto_ret]
          go_ret
          exact ⟨v1, rfl, by have h := HACC.out; rw [lePut_small hn] at h; rw [← h]; exact ho, hb⟩
        · have hn' : ¬ ((n : Nat) : Int) < 128 := by omega
          have he := le_or n
          go_wp2_with ((with_reducible refine gate_builtin (b := .append) (xs := #[.tmp 11, .tmp 15]) rfl ?_); at_builtin; refine Kd.R_append (Kd.int .u8) (w0 := w) w.heap.size rfl (.tmp 11) (.tmp 15) 43 5 (.int .u8 0) 1 rfl Try.underlying43 info5 rfl (by decide) (by omega) u3 acc ((n % 128 + 128 : Nat) : Int) [.int .u8 ((n % 128 + 128 : Nat) : Int)] (fun _ => True) (fun _ => False) rfl rfl ?aP (fun _ hk => hk.elim) (fun _ _ => trivial) ?aO ?aB ?aS ?aL ?_; (case aP => exact rfl); (case aO => exact HO.out); (case aB => exact HB.out); (case aS => exact below_size HB.out); (case aL => omega); intro v1 w2 ho hb hg hat)
          cases gk with
          | zero => exact absurd HK.out (by omega)
          | succ k1 =>
            go_roundg k1
            case measure => omega
            case rel => exact ⟨n / 128, by simp, ⟨acc ++ [((n % 128 + 128 : Nat) : Int)], .inl (by omega), by have h := HACC.out; rw [lePut_more hn] at h; simpa using h, by have h := HLE.out; rw [List.length_append, List.length_singleton, Nat.pow_succ, Nat.mul_comm (128 ^ _) 128, ← Nat.mul_assoc]; exact Nat.le_trans (Nat.mul_le_mul_right _ (Nat.div_mul_le_self n 128)) h, ho, hb⟩, ⟨by have := HK.out; omega⟩⟩
    · rw [if_neg h1] at h
      exact absurd h (by simp)
  · rw [if_neg h0] at h
    exact absurd h (by simp)
theorem le_Put.told (a : Nat) (w : World) (h : a < 18446744073709551616) : Calls Try.prog 48 #[.int .u64 (a : Int)] w (rowPost (Kd.int .u8) 5 (lePut a) w) :=
  le_Put.calls (a : Int) (lePut a) w (by unfold le_Put.f; rw [if_pos (by omega), if_pos (by omega), Int.toNat_natCast])

end Go.Proofs.Ytbgdamlidohfhaa.P

namespace Go.Proofs.Ytbgdamlidohfhaa.P
open Go.RowKit Go.Proofs.YtbgdamlidohfhaaW.PrintWords Go.Proofs.YtbgdamlidohfhaaW.PrintLast Go.Proofs.YtbgdamlidohfhaaW.PrintMore
attribute [local go_sem] max2_int min2_int max_two min_two max_three min_three max_four min_four   -- for this text's walks alone
set_option linter.unusedVariables false
set_option linter.unusedSimpArgs false

/-! ### schema_text: function 47 -/
def schema_text.f (a0 : ByteArray) : Option (List Int) := (le_Put.f (IntKind.u64.wrap ((a0.size : Int)))).bind fun t216 => (if t216.length + a0.size < 140737488355328 then (some (t216 ++ bytesOf a0)) else (none))
set_option maxHeartbeats 8000000 in
set_option maxRecDepth 100000 in
theorem schema_text.calls (a0 : ByteArray) (r : List Int) (w : World) (h : schema_text.f a0 = some r) :
    Calls Try.prog 47 #[.string a0] w fun e w' => ∃ v0_ : Value, e = .returned (v0_) ∧ Kd.R (Kd.int .u8) 5 w' w.heap.size (fun _ => True) v0_ r ∧ Below w.heap.size w w' := by
  have HB := Aside0.mk (Below.refl w.heap.size w)
  have H : ((le_Put.f (IntKind.u64.wrap ((a0.size : Int)))).bind fun t216 => (if t216.length + a0.size < 140737488355328 then (some (t216 ++ bytesOf a0)) else (none))) = some r := h
  clear h
  replace H := Option.bind_eq_some_iff.mp H
  obtain ⟨t216, A20, H⟩ := H
  replace H : (if t216.length + a0.size < 140737488355328 then (some (t216 ++ bytesOf a0)) else (none)) = some r := H
  have A2 := Aside0.mk A20
  clear A20
  by_cases c3 : t216.length + a0.size < 140737488355328
  · rw [if_pos c3] at H
    have LMc3 := Aside0.mk c3
    clear c3
    obtain ⟨y219, hy219⟩ : ∃ y_ : List Int, y_ = (t216 ++ bytesOf a0) := ⟨_, rfl⟩
    replace H : (some y219) = some r := by first | (rw [hy219]; with_reducible exact H) | (have H2_ := (Option.bind_some _ _).symm.trans H; rw [hy219]; with_reducible exact H2_) | (have H2_ := (Option.bind_some _ _).symm.trans H; with_reducible exact H2_) | with_reducible exact H | (rw [hy219]; exact H) | exact H
    have Ny219 := Aside0.mk hy219
    clear hy219
    obtain rfl := Option.some.inj H
    go_enter Try.func47, Try.ntmps47
    go_wp2_with (first | ((with_reducible refine gate_callee (f := 48) rfl ?_); refine goesL_ (some 6) rfl rfl Try.func48 (by kernel_rfl) rfl #[.int .u64 (IntKind.u64.wrap ((a0.size : Int)))] rfl (by (try simp only [List.map_toArray, List.map_cons, List.map_nil]); first | done | rfl | (simp only [List.length_drop, List.length_take]; rfl)) ?_; (with_reducible refine (le_Put.calls (IntKind.u64.wrap ((a0.size : Int))) t216 _ A2.out).mono ?_); rintro e w4 ⟨v217, rfl, ho0, hb⟩; refine ⟨_, rfl, ?_⟩; have n0_ := Aside0.mk (Kd.R_lower ho0 (below_size (by repeat (first | (with_reducible first | exact HB.out | apply below_alloc | apply pw_below_drewN | apply below_drew1) | exact HB.out)))); have n1_ := Aside0.mk (below_step (by repeat (first | (with_reducible first | exact HB.out | apply below_alloc | apply pw_below_drewN | apply below_drew1) | exact HB.out)) hb); clear HB; have HO218 := n0_; have HB := n1_; clear n0_ n1_; (try clear hb); (try clear hb2); (try clear hk); (try clear hi); (try clear ho0)) | (at_builtin; refine print_append_str (w0 := w) w.heap.size rfl (.tmp 6) _ 43 9 5 rfl Try.underlying43 Try.underlying9 info5 v217 t216 a0 rfl rfl ?aO ?aB ?aS ?aL ?_; (case aB => exact (by repeat (first | (with_reducible first | exact HB.out | apply below_alloc | apply pw_below_drewN | apply below_drew1) | exact HB.out))); (case aO => exact (Kd.own_of_R (by (with_reducible repeat (first | apply Kd.R_alloc | apply Kd.R_drewN | apply Kd.R_drew)); exact HO218.out))); (case aS => exact (below_size (by repeat (first | (with_reducible first | exact HB.out | apply below_alloc | apply pw_below_drewN | apply below_drew1) | exact HB.out)))); (case aL => have := LMc3.out; omega); intro v220 w5 ho0 hb hg; have ho := Kd.R_of_own (h1 := fun _ => rfl) (ok := fun _ => True) ho0 (fun _ _ => trivial); clear ho0; have hat := True.intro; rw [← Ny219.out] at ho; change Kd.R (Kd.int .u8) 5 w5 w.heap.size (fun _ => True) v220 y219 at ho; have n0_ := Aside0.mk (hb); have n1_ := Aside0.mk (ho); clear HB; clear HO218; have HB := n0_; have HO221 := n1_; clear n0_ n1_; clear ho hb hg hat))
    go_ret
    exact ⟨_, by first | rfl | (simp [errW_none, errW_some] <;> rfl) | (simp [*, errW_none, errW_some] <;> rfl), by (with_reducible repeat (first | apply Kd.R_alloc | apply Kd.R_drewN | apply Kd.R_drew)); exact HO221.out, by repeat (first | (with_reducible first | exact HB.out | apply below_alloc | apply pw_below_drewN | apply below_drew1) | exact HB.out)⟩
  · rw [if_neg c3] at H
    exact absurd H (by simp)

end Go.Proofs.Ytbgdamlidohfhaa.P

namespace Go.Proofs.Ytbgdamlidohfhaa.P
open Go.RowKit Go.Proofs.YtbgdamlidohfhaaW.PrintWords Go.Proofs.YtbgdamlidohfhaaW.PrintLast Go.Proofs.YtbgdamlidohfhaaW.PrintMore
attribute [local go_sem] max2_int min2_int max_two min_two max_three min_three max_four min_four   -- for this text's walks alone
set_option linter.unusedVariables false
set_option linter.unusedSimpArgs false

/-! ### schema_Put: function 31 -/
theorem schema_May.told (nm : ByteArray) (ver : Int) (A2 : Option Addr) (c2 : Nat) (F : List SField) (w : World) {b : Bool} (hb : mayB nm ver F = b) (hr : Kd.C kField w A2 F.length F) (hc : F.length ≤ c2) :
    Calls Try.prog 28 #[.agg #[.string nm, .int .i64 ver, .slice A2 F.length c2]] w (boolPost b w) := schema_May.calls nm ver A2 c2 F b w hr hc (by rw [← hb]; rfl)
theorem schema_text.told (s : ByteArray) (w : World) (h : s.size ≤ 12) : Calls Try.prog 47 #[.string s] w (rowPost (Kd.int .u8) 5 (textL s) w) :=
  schema_text.calls s (textL s) w (by
    unfold schema_text.f le_Put.f
    have hw : IntKind.wrap .u64 ((s.size : Nat) : Int) = (s.size : Int) := by rw [u64_mod]; omega
    rw [hw, if_pos (by omega), if_pos (by omega), Int.toNat_natCast, Option.bind_some, if_pos (by have := lePut_short (n := s.size) (by omega); omega)]
    rfl)
def putRel (P0 : List Int) (F : List SField) (w : World) (k : Nat) (v : Value) (w' : World) : Prop := k ≤ F.length ∧ Kd.R (Kd.int .u8) 5 w' w.heap.size (fun _ => True) v (P0 ++ fieldsL (F.take k)) ∧ Below w.heap.size w w' ∧ (P0 ++ fieldsL (F.take k)).length ≤ 40 + 14 * k
set_option maxHeartbeats 2000000 in
set_option maxRecDepth 100000 in
theorem schema_Put.told (nm : ByteArray) (ver : Int) (A2 : Option Addr) (c2 : Nat) (F : List SField) (w : World) (hr0 : Kd.C kField w A2 F.length F) (hc0 : F.length ≤ c2) :
    Calls Try.prog 31 #[.agg #[.string nm, .int .i64 ver, .slice A2 F.length c2]] w (rowBoolPost (Kd.int .u8) 5 (if mayB nm ver F then putS nm ver F else []) (mayB nm ver F) w) := by
  have HR := Aside0.mk hr0
  have HC := Aside0.mk hc0
  clear hr0 hc0
  cases hm : mayB nm ver F with
  | false =>
    have HM := Aside0.mk hm
    clear hm
    go_enter Try.func31, Try.ntmps31
    go_wp2_with (go_at_call 28; refine (schema_May.told nm ver A2 c2 F _ HM.out (Kd.C_alloc HR.out _) HC.out).mono ?_; rintro e w1 ⟨rfl, hb1⟩)
    go_ret2
    exact ⟨_, rfl, Kd.R_nil _ _ _ _ _, below_step (below_alloc (Below.refl _ _) _) hb1⟩
  | true =>
    obtain ⟨hn, h1, h2, h3, h4⟩ := mayB_parts hm
    have hns := (nameB_size hn).2
    obtain ⟨vn, rfl⟩ := Int.eq_ofNat_of_zero_le (show 0 ≤ ver by omega)
    have HM := Aside0.mk hm
    have H4 := Aside0.mk h4
    clear hm h4 hn
    obtain ⟨ln, hln⟩ : ∃ ln, F.length = ln := ⟨_, rfl⟩
    have HLN := Aside0.mk hln
    rw [hln] at h3 ⊢
    have HC' := HC.out
    rw [hln] at HC'
    clear hln
    have hw1 := u64_small' (n := vn) (by omega)
    have hw2 := u64_small' (n := ln) (by omega)
    go_enter Try.func31, Try.ntmps31
    go_wp2_with (go_at_call 28; rw [← HLN.out]; refine (schema_May.told nm _ A2 c2 F _ HM.out (Kd.C_alloc HR.out _) HC.out).mono ?_; rw [HLN.out]; rintro e w1 ⟨rfl, hb1⟩; have HK1 := Aside0.mk (blk_below (blk_new _ _) hb1); have hd0 : w1.cell? ⟨w.heap.size, 0, none⟩ = some (.string nm) := blk_cell HK1.out 0; have hd1 : w1.cell? ⟨w.heap.size, 1, none⟩ = some (.int .i64 (vn : Int)) := blk_cell HK1.out 1; have hd2 : w1.cell? ⟨w.heap.size, 2, none⟩ = some (.slice A2 ln c2) := blk_cell HK1.out 2)
    go_region_held3 (fun w' => w'.cell? ⟨w.heap.size, 0, none⟩ = some (.string nm) ∧ w'.cell? ⟨w.heap.size, 1, none⟩ = some (.int .i64 (vn : Int)) ∧ w'.cell? ⟨w.heap.size, 2, none⟩ = some (.slice A2 ln c2))
      (first | go_keep | (go_split_ands; refine ⟨?_, ?_, ?_⟩ <;> (apply pw_cell_below; (first | exact hb5 | exact hb4 | exact hb3 | exact hb2); assumption)))
      (first
        | (go_at_call 47; refine (schema_text.told nm _ hns).mono ?_; rintro e w2 ⟨v12, rfl, ho2, hb2⟩; obtain ⟨A_2, c_2, hv2, hc2, hr2⟩ := Kd.R_reads ho2; subst hv2; have HO2 := Aside0.mk (And.intro hc2 hr2); clear ho2 hc2 hr2)
        | (go_at_call_of 48 (Value.int .u64 (vn : Int)); refine (le_Put.told vn _ (by omega)).mono ?_; rintro e w3 ⟨v16, rfl, ho3, hb3⟩; obtain ⟨A_3, c_3, hv3, hc3, hr3⟩ := Kd.R_reads ho3; subst hv3; have HO3 := Aside0.mk (And.intro hc3 hr3); clear ho3 hc3 hr3)
        | (go_at_call_of 48 (Value.int .u64 (ln : Int)); refine (le_Put.told ln _ (by omega)).mono ?_; rintro e w4 ⟨v21, rfl, ho4, hb4⟩; obtain ⟨A_4, c_4, hv4, hc4, hr4⟩ := Kd.R_reads ho4; subst hv4; have HO4 := Aside0.mk (And.intro hc4 hr4); clear ho4 hc4 hr4)
        | (go_at_call 46; refine (slices_Concat_byte.told (some ⟨w4.heap.size, 0, none⟩) 3 [textL nm, lePut vn, lePut ln] _ (C_three (blk_new _ _) (CC_below (below_alloc (below_step hb3 hb4) _) HO2.out) (CC_below (below_alloc hb4 _) HO3.out) (CC_below (below_alloc (Below.refl _ _) _) HO4.out)) (Nat.le_refl _) ?hl).mono ?_; (case hl => simp only [List.flatten_cons, List.flatten_nil, List.length_append, List.length_nil]; have := textL_small hns; have := lePut_short (n := vn) (by omega); have := lePut_short (n := ln) (by omega); omega); rintro e w5 ⟨v23, rfl, ho5, hb5⟩; have HO5 := Aside0.mk ho5; clear ho5))
    have hB4 := below_step (below_step (below_alloc (Below.refl _ _) _) hb1) (below_step (below_drew (Below.refl _ _)) (below_step hb2 (below_step hb3 hb4)))
    have hB5 := below_step (below_alloc hB4 _) hb5
    have hR5 := Kd.C_below HR.out hB5
    have hO5 := Kd.R_lower HO5.out (show w.heap.size ≤ _ by rw [World.size_alloc]; have := below_size hB4; omega)
    have HF : Aside0 (putS nm (vn : Int) F = [textL nm, lePut vn, lePut ln].flatten ++ fieldsL F) := ⟨by simp [putS, HLN.out]⟩
    have hPl : [textL nm, lePut vn, lePut ln].flatten.length ≤ 40 := by simp only [List.flatten_cons, List.flatten_nil, List.length_append, List.length_nil]; have := textL_small hns; have := lePut_short (n := vn) (by omega); have := lePut_short (n := ln) (by omega); omega
    generalize [textL nm, lePut vn, lePut ln].flatten = P0 at *
    have HR5 := Aside0.mk hR5
    have HO6 := Aside0.mk hO5
    have HB5 := Aside0.mk hB5
    clear hR5 hO5 hB4 hB5 hb1 hb2 hb3 hb4 hb5 HO2 HO3 HO4 HO5 HK1 hd0 hd1 hd2 hw1 hw2
    go_wp2
    go_loopw [4, 6, 27] (fun v4 _ v27 w' => ∃ k : Nat, v27 = .int .i64 k ∧ putRel P0 F w k v4 w') (fun _ _ i _ => ln - (intOf i).toNat)
    case atStart => exact ⟨0, rfl, by omega, by rw [show P0 ++ fieldsL (F.take 0) = P0 from by simp [fieldsL]]; exact HO6.out, HB5.out, by rw [show P0 ++ fieldsL (F.take 0) = P0 from by simp [fieldsL]]; omega⟩
    case round =>
      obtain ⟨k, rfl, hk, ho, hb, hlen⟩ := hrel
      have HO := Aside0.mk ho
      have HB := Aside0.mk hb
      have hFl := HLN.out
      clear ho hb
      by_cases hlt : k < ln
      · obtain ⟨ad, e, hx0, hx1⟩ := at_TField (Kd.C_below HR.out HB.out) (k : Int) (by omega) (by omega)
        cases e
        simp only [Int.toNat_natCast] at hx0 hx1
        rw [show rd_TField F (k : Int) = F.getD k zField from rfl] at hx0 hx1
        obtain ⟨hn0, hk0, hk1⟩ := fieldOK_parts (H4.out k (by omega))
        have hns0 := (nameB_size hn0).2
        have HSN := Aside0.mk (fieldsL_snoc F k (by omega))
        clear hn0
        generalize F.getD k zField = x at *
        obtain ⟨kn, hkn⟩ := Int.eq_ofNat_of_zero_le hk0
        rw [hkn] at hx1 HSN hk1
        clear hk0 hkn hFl
        have hw3 : IntKind.wrap .u8 (kn : Int) = (kn : Int) := by rw [show IntKind.wrap .u8 (kn : Int) = (kn : Int) % 256 from rfl]; omega
        have htl : (textL x.f0).length ≤ 13 := by rw [textL_small hns0]; omega
        have HNE : Aside0 (some wr.heap.size ≠ u4.ownBlock) := ⟨fun h => absurd (own_lt (Kd.R_own HO.out).choose_spec _ h.symm) (Nat.lt_irrefl _)⟩
        obtain ⟨pre, hpre⟩ : ∃ pre, P0 ++ fieldsL (F.take k) = pre := ⟨_, rfl⟩
        rw [hpre] at HO hlen
        have HPRE := Aside0.mk hpre
        clear hpre
        go_wp2
        go_region_held3 (fun w' => w'.cell? ⟨wr.heap.size, 0, none⟩ = some (.string x.f0) ∧ w'.cell? ⟨wr.heap.size, 1, none⟩ = some (.int .i64 (kn : Int)))
          (first | go_keep | (go_split_ands; refine ⟨?_, ?_⟩ <;> first | (refine cell_grown hg4 ?_ (ne_at HNE.out hat3 ?_); assumption; first | exact hz2 | (simp; omega)) | (refine cell_grown hg3 ?_ HNE.out; assumption) | (apply pw_cell_below; (first | exact hb2); assumption)))
          (first
            | (go_at_call 47; refine (schema_text.told x.f0 _ hns0).mono ?_; rintro e w2 ⟨v34, rfl, ho2, hb2⟩; obtain ⟨A_2, c_2, hv2, hc2, hr2⟩ := Kd.R_reads ho2; subst hv2; have HO2 := Aside0.mk (And.intro hc2 hr2); have hz2 : wr.heap.size < w2.heap.size := (by have := below_size hb2; simp at this; omega); clear ho2 hc2 hr2)
            | (refine Kd.R_append_rows_step (o := ⟨some 35, _, _, _, _, _⟩) (Kd.int .u8) (Rr := (Kd.int .u8).K w2) (w0 := w) w.heap.size ?hw (.tmp 31) (.tmp 34) 43 5 (.int .u8 0) 1 rfl Try.underlying43 info5 rfl ?h0 ?h1 u4 pre (textL x.f0) A_2 (textL x.f0).length c_2 (fun _ => True) (fun _ => False) ?hs ?hx ?aO ?aR (fun _ _ h => h) (fun _ h => h.elim) (fun _ _ => trivial) ?aB ?aS ?aL ?_; (case hw => rfl); (case h0 => decide); (case h1 => decide); (case hs => rfl); (case hx => rfl); (case aO => ((with_reducible repeat (first | exact HO.out | refine Kd.R_below ?_ hb2 | apply Kd.R_alloc | apply Kd.R_drew)))); (case aR => first | exact HO2.out.2 | exact Kd.C_alloc HO2.out.2 _); (case aB => ((with_reducible repeat (first | exact HB.out | refine below_step ?_ hb2 | apply below_alloc | apply below_drew)))); (case aS => refine below_size ?_; ((with_reducible repeat (first | exact HB.out | refine below_step ?_ hb2 | apply below_alloc | apply below_drew)))); (case aL => omega); intro v35 w3 ho3 hb3 hg3 hat3; have HO3 := Aside0.mk ho3; clear ho3)
            | (refine Kd.R_append_rows_step (o := ⟨some 40, _, _, _, _, _⟩) (Kd.int .u8) (Rr := (Kd.int .u8).K w2) (w0 := w) w.heap.size ?hw (.tmp 35) (.tmp 39) 43 5 (.int .u8 0) 1 rfl Try.underlying43 info5 rfl ?h0 ?h1 v35 (pre ++ textL x.f0) [(kn : Int)] ?_ 1 1 (fun _ => True) (fun _ => False) ?hs ?hx ?aO ?aR (fun _ _ h => h) (fun _ h => h.elim) (fun _ _ => trivial) ?aB ?aS ?aL ?_; (case hw => rfl); (case h0 => decide); (case h1 => decide); (case hs => rfl); (case hx => rfl); (case aO => (with_reducible repeat (first | exact HO3.out | apply Kd.R_alloc))); (case aR => refine C_one (T := 5) ?_; first | exact blk_new _ _ | (refine blk_grown (blk_new _ _) hg3 (ne_own2 HO.out ?_); omega) | (refine blk_grown (blk_below (blk_drew (blk_new2 _ _ _)) hb2) hg3 (ne_own2 HO.out ?_); omega)); (case aB => (with_reducible repeat (first | exact hb3 | apply below_alloc))); (case aS => refine below_size ?_; (with_reducible repeat (first | exact hb3 | apply below_alloc))); (case aL => rw [List.length_append]; simp only [Nat.mul_one]; omega); intro v40 w4 ho4 hb4 hg4 hat4; have HO4 := Aside0.mk ho4; clear ho4))
        all_goals
          have HPN : Aside0 (P0 ++ fieldsL (F.take (k + 1)) = pre ++ textL x.f0 ++ [(kn : Int)]) := ⟨by rw [HSN.out, ← List.append_assoc, ← List.append_assoc, HPRE.out]⟩
          have hk1n : k + 1 ≤ F.length := by have := HLN.out; omega
          go_wp2
          go_roundw
          case rel => exact ⟨k + 1, by go_num, hk1n, by rw [HPN.out]; exact HO4.out, hb4, by rw [HPN.out, List.length_append, List.length_append, List.length_singleton]; omega⟩
          case measure => simp [intOf]; omega
      · have hk3 : k = ln := by omega
        have hfin := HO.out
        rw [hk3, ← HLN.out, List.take_length, ← HF.out] at hfin
        have HFIN := Aside0.mk hfin
        clear hfin hk3 hFl
        go_wp2
        go_ret2
        exact ⟨_, rfl, HFIN.out, HB.out⟩

end Go.Proofs.Ytbgdamlidohfhaa.P

namespace Go.Proofs.Ytbgdamlidohfhaa.P
open Go.RowKit Go.Proofs.YtbgdamlidohfhaaW.PrintWords Go.Proofs.YtbgdamlidohfhaaW.PrintLast Go.Proofs.YtbgdamlidohfhaaW.PrintMore
attribute [local go_sem] max2_int min2_int max_two min_two max_three min_three max_four min_four   -- for this text's walks alone
set_option linter.unusedVariables false
set_option linter.unusedSimpArgs false

/-! ### le_Get: function 61 -/
def le_Get.l0 : Nat → List Int → Int → Int → Int → Option (Int × Int × Bool)
  | 0, _, _, _, _ => none
  | k + 1, x0, x5, x10, x11 => if x11 < x10 then (if 0 ≤ x11 then (if x11 < (x0.length : Int) then (if 0 ≤ (wrap64 (7 * x11)) then (if (IntKind.u64.wrap (rd x0 x11)) ≥ 128 then (le_Get.l0 k x0 (Go.bits .or .u64 x5 (shl .u64 (Go.bits .andNot .u64 (IntKind.u64.wrap (rd x0 x11)) 128) (wrap64 (7 * x11)))) x10 (wrap64 (x11 + 1))) else (if x11 > 0 then (if (IntKind.u64.wrap (rd x0 x11)) = 0 then (some (0, 0, false)) else (if x11 = 9 then (if (IntKind.u64.wrap (rd x0 x11)) > 1 then (some (0, 0, false)) else (some (Go.bits .or .u64 x5 (shl .u64 (Go.bits .andNot .u64 (IntKind.u64.wrap (rd x0 x11)) 128) (wrap64 (7 * x11))), wrap64 (x11 + 1), true))) else (some (Go.bits .or .u64 x5 (shl .u64 (Go.bits .andNot .u64 (IntKind.u64.wrap (rd x0 x11)) 128) (wrap64 (7 * x11))), wrap64 (x11 + 1), true)))) else (if x11 = 9 then (if (IntKind.u64.wrap (rd x0 x11)) > 1 then (some (0, 0, false)) else (some (Go.bits .or .u64 x5 (shl .u64 (Go.bits .andNot .u64 (IntKind.u64.wrap (rd x0 x11)) 128) (wrap64 (7 * x11))), wrap64 (x11 + 1), true))) else (some (Go.bits .or .u64 x5 (shl .u64 (Go.bits .andNot .u64 (IntKind.u64.wrap (rd x0 x11)) 128) (wrap64 (7 * x11))), wrap64 (x11 + 1), true))))) else (none)) else (none)) else (none)) else (some (0, 0, false))
def le_Get.f (k : Nat) (l0 : List Int) : Option (Int × Int × Bool) := le_Get.l0 k l0 0 (mn (l0.length : Int) 10) 0
theorem le_Get.mono_l : ∀ k, (∀ y0 y1 y2 y3, LeO (le_Get.l0 k y0 y1 y2 y3) (le_Get.l0 (k + 1) y0 y1 y2 y3))
  | 0 => fun _ _ _ _ r h => by simp [le_Get.l0] at h
  | k + 1 => by
    have ih0 := le_Get.mono_l k
    · intro y0 y1 y2 y3
      unfold le_Get.l0
      repeat' first
      | (with_reducible exact ih0 _ _ _ _)
      | (with_reducible exact LeO.refl _)
      | (with_reducible exact LeO.none _)
      | (with_reducible refine LeO.ite ?_ ?_)
      | (with_reducible refine LeO.bind ?_ (fun _ => ?_))
      | exact ih0 _ _ _ _
      | exact LeO.none _
      | refine LeO.ite ?_ ?_
      | refine LeO.bind ?_ (fun _ => ?_)
theorem le_Get.mono : ∀ a0 k, LeO (le_Get.f k a0) (le_Get.f (k + 1) a0) := by
  intro a0 k
  have ih0 := le_Get.mono_l k
  unfold le_Get.f
  repeat' first
      | (with_reducible exact ih0 _ _ _ _)
      | (with_reducible exact LeO.refl _)
      | (with_reducible exact LeO.none _)
      | (with_reducible refine LeO.ite ?_ ?_)
      | (with_reducible refine LeO.bind ?_ (fun _ => ?_))
      | exact ih0 _ _ _ _
      | exact LeO.none _
      | refine LeO.ite ?_ ?_
      | refine LeO.bind ?_ (fun _ => ?_)
set_option maxHeartbeats 8000000 in
set_option maxRecDepth 100000 in
theorem le_Get.calls (k : Nat) (A0 : Option Addr) (c0 : Nat) (l0 : List Int) (r1 : Int) (r2 : Int) (r3 : Bool) (w : World) (hr0 : Kd.C (Kd.int .u8) w A0 l0.length l0) (hc0 : l0.length ≤ c0) (h : le_Get.f k l0 = some (r1, r2, r3)) :
    Calls Try.prog 61 #[.slice A0 l0.length c0] w fun e w' => e = .returned (.tuple #[.int .u64 r1, .int .i64 r2, .bool r3]) ∧ Below w.heap.size w w' := by
  have HR0 := Aside0.mk hr0
  have HC0 := Aside0.mk hc0
  clear hr0 hc0
  have HB := Aside0.mk (Below.refl w.heap.size w)
  have H : (le_Get.l0 k l0 0 (mn (l0.length : Int) 10) 0) = some (r1, r2, r3) := h
  clear h
  obtain ⟨ji2, hji2⟩ : ∃ j_ : Int, (mn (l0.length : Int) 10) = j_ := ⟨_, rfl⟩
  replace H : (le_Get.l0 k l0 0 ji2 0) = some (r1, r2, r3) := by first | (rw [hji2] at H; exact H) | (simp only [hji2] at H ⊢; exact H)
  (try (have hji2h : ji2 ≤ 10 := by (rw [← hji2]; unfold mn; (repeat' split) <;> omega)))
  (try (have hji2g : ji2 ≤ 64 := by omega))
  (try (have hji2l : 0 ≤ ji2 := by (rw [← hji2]; unfold mn; (repeat' split) <;> omega)))
  (try (have hji2m : 0 ≤ ji2 := by omega))
  have hji2_ : (if 10 < (l0.length : Int) then 10 else (l0.length : Int)) = ji2 := hji2
  have H' := Aside0.mk H
  clear H
  go_enter Try.func61, Try.ntmps61
  go_wp2
  go_loopg [5, 11] k (fun kq v5 v11 w' => ∃ (x5_1 : Int) (x11_1 : Int), v5 = .int .u64 x5_1 ∧ v11 = .int .i64 x11_1 ∧ Aside0 (le_Get.l0 kq l0 x5_1 ji2 x11_1 = some (r1, r2, r3)) ∧ Aside0 (kq ≤ k) ∧ Aside0 (Below w.heap.size w w'))
  case atStart => exact ⟨(0), (0), (by first | rfl | (simp; done) | (simp [*]; done)), (by first | rfl | (simp; done) | (simp [*]; done)), H', ⟨Nat.le_refl _⟩, ⟨by repeat (first | (with_reducible first | exact HB.out | apply below_alloc | apply pw_below_drewN | apply below_drew1) | exact HB.out)⟩⟩
  case round =>
    clear H'
    try clear p2
    obtain ⟨x5_1, x11_1, rfl, rfl, HA, HK1, HB⟩ := hrel
    cases gk with
    | zero => exact absurd HA.out (by simp [le_Get.l0])
    | succ k1 =>
      have H := HA.out
      clear HA
      simp only [le_Get.l0] at H
      by_cases c3 : x11_1 < ji2
      · rw [if_pos c3] at H
        have c3b0 : decide (x11_1 < ji2) = true := decide_eq_true c3
        clear c3
        by_cases c4 : 0 ≤ x11_1
        · rw [if_pos c4] at H
          have c4b0 : decide (0 ≤ x11_1) = true := decide_eq_true c4
          clear c4
          by_cases c5 : x11_1 < (l0.length : Int)
          · rw [if_pos c5] at H
            have c5b0 : decide (x11_1 < (l0.length : Int)) = true := decide_eq_true c5
            clear c5
            obtain ⟨ji6, hji6⟩ : ∃ j_ : Int, (wrap64 (7 * x11_1)) = j_ := ⟨_, rfl⟩
            replace H : (if 0 ≤ (ji6) then (if (IntKind.u64.wrap (rd l0 x11_1)) ≥ 128 then (le_Get.l0 k1 l0 (Go.bits .or .u64 x5_1 (shl .u64 (Go.bits .andNot .u64 (IntKind.u64.wrap (rd l0 x11_1)) 128) (ji6))) ji2 (wrap64 (x11_1 + 1))) else (if x11_1 > 0 then (if (IntKind.u64.wrap (rd l0 x11_1)) = 0 then (some (0, 0, false)) else (if x11_1 = 9 then (if (IntKind.u64.wrap (rd l0 x11_1)) > 1 then (some (0, 0, false)) else (some (Go.bits .or .u64 x5_1 (shl .u64 (Go.bits .andNot .u64 (IntKind.u64.wrap (rd l0 x11_1)) 128) (ji6)), wrap64 (x11_1 + 1), true))) else (some (Go.bits .or .u64 x5_1 (shl .u64 (Go.bits .andNot .u64 (IntKind.u64.wrap (rd l0 x11_1)) 128) (ji6)), wrap64 (x11_1 + 1), true)))) else (if x11_1 = 9 then (if (IntKind.u64.wrap (rd l0 x11_1)) > 1 then (some (0, 0, false)) else (some (Go.bits .or .u64 x5_1 (shl .u64 (Go.bits .andNot .u64 (IntKind.u64.wrap (rd l0 x11_1)) 128) (ji6)), wrap64 (x11_1 + 1), true))) else (some (Go.bits .or .u64 x5_1 (shl .u64 (Go.bits .andNot .u64 (IntKind.u64.wrap (rd l0 x11_1)) 128) (ji6)), wrap64 (x11_1 + 1), true))))) else (none)) = some (r1, r2, r3) := by first | (rw [hji6] at H; exact H) | (simp only [hji6] at H ⊢; exact H)
            have hji6w : (IntKind.i64.wrap (7 * x11_1)) = ji6 := (i64_w _).trans hji6
            by_cases c7 : 0 ≤ (ji6)
            · rw [if_pos c7] at H
              have c7b0 := eq_true c7
              have c7b1 : decide (0 ≤ (ji6)) = true := decide_eq_true c7
              clear c7
              obtain ⟨ji8, hji8⟩ : ∃ j_ : Int, (shl .u64 (Go.bits .andNot .u64 (IntKind.u64.wrap (rd l0 x11_1)) 128) (ji6)) = j_ := ⟨_, rfl⟩
              replace H : (if (IntKind.u64.wrap (rd l0 x11_1)) ≥ 128 then (le_Get.l0 k1 l0 (Go.bits .or .u64 x5_1 (ji8)) ji2 (wrap64 (x11_1 + 1))) else (if x11_1 > 0 then (if (IntKind.u64.wrap (rd l0 x11_1)) = 0 then (some (0, 0, false)) else (if x11_1 = 9 then (if (IntKind.u64.wrap (rd l0 x11_1)) > 1 then (some (0, 0, false)) else (some (Go.bits .or .u64 x5_1 (ji8), wrap64 (x11_1 + 1), true))) else (some (Go.bits .or .u64 x5_1 (ji8), wrap64 (x11_1 + 1), true)))) else (if x11_1 = 9 then (if (IntKind.u64.wrap (rd l0 x11_1)) > 1 then (some (0, 0, false)) else (some (Go.bits .or .u64 x5_1 (ji8), wrap64 (x11_1 + 1), true))) else (some (Go.bits .or .u64 x5_1 (ji8), wrap64 (x11_1 + 1), true))))) = some (r1, r2, r3) := by first | (rw [hji8] at H; exact H) | (simp only [hji8] at H ⊢; exact H)
              have hji8_ : (IntKind.u64.wrap ((Go.bits .andNot .u64 (IntKind.u64.wrap (rd l0 x11_1)) 128) * 2 ^ min (ji6).toNat 64)) = ji8 := hji8
              have hji8z : (ji6) ≤ 64 → (IntKind.u64.wrap ((Go.bits .andNot .u64 (IntKind.u64.wrap (rd l0 x11_1)) 128) * 2 ^ (ji6).toNat)) = ji8 := shl_small hji8
              by_cases c9 : (IntKind.u64.wrap (rd l0 x11_1)) ≥ 128
              · rw [if_pos c9] at H
                have c9b0 : decide (128 ≤ (IntKind.u64.wrap (rd l0 x11_1))) = true := decide_eq_true c9
                clear c9
                have H' := Aside0.mk H
                clear H
                have p222 : 0 ≤ (x11_1 : Int) := of_decide_eq_true (by first | (with_reducible assumption) | assumption)
                have q222 : x11_1 < (l0.length : Int) := of_decide_eq_true (by first | (with_reducible assumption) | assumption)
                obtain ⟨ad222, e222, hx222_0⟩ := Kd.at_int HR0.out x11_1 p222 q222
                cases e222
                replace hx222_0 := (HB.out.cell (World.block_lt_of_cell? w _ hx222_0)).trans hx222_0
                replace p222 := eq_true p222
                replace q222 := eq_true q222
                go_wp2
                go_roundg k1
                case measure => have := HK1.out; omega
                case rel => exact ⟨(Go.bits .or .u64 x5_1 (ji8)), (wrap64 (x11_1 + 1)), (by first | rfl | (simp; done) | (simp only [← hji8] <;> (first | rfl | simp)) | (simp [*]; done)), (by first | rfl | (simp; done) | (simp [*]; done)), H', ⟨by have := HK1.out; omega⟩, ⟨by repeat (first | (with_reducible first | exact HB.out | apply below_alloc | apply pw_below_drewN | apply below_drew1) | exact HB.out)⟩⟩
              · rw [if_neg c9] at H
                have c9b0 : decide (128 ≤ (IntKind.u64.wrap (rd l0 x11_1))) = false := decide_eq_false c9
                clear c9
                by_cases c10 : x11_1 > 0
                · rw [if_pos c10] at H
                  have c10b0 : decide (0 < x11_1) = true := decide_eq_true c10
                  clear c10
                  by_cases c11 : (IntKind.u64.wrap (rd l0 x11_1)) = 0
                  · rw [if_pos c11] at H
                    have c11b0 : ((IntKind.u64.wrap (rd l0 x11_1)) == 0) = true := beq_iff_eq.mpr c11
                    have c11b1 : ((IntKind.u64.wrap (rd l0 x11_1)) != 0) = false := bne_eq_false_iff_eq.mpr c11
                    clear c11
                    simp only [Option.some.injEq, Prod.mk.injEq] at H
                    obtain ⟨rfl, rfl, rfl⟩ := H
                    have p222 : 0 ≤ (x11_1 : Int) := of_decide_eq_true (by first | (with_reducible assumption) | assumption)
                    have q222 : x11_1 < (l0.length : Int) := of_decide_eq_true (by first | (with_reducible assumption) | assumption)
                    obtain ⟨ad222, e222, hx222_0⟩ := Kd.at_int HR0.out x11_1 p222 q222
                    cases e222
                    replace hx222_0 := (HB.out.cell (World.block_lt_of_cell? w _ hx222_0)).trans hx222_0
                    replace p222 := eq_true p222
                    replace q222 := eq_true q222
                    go_wp2
                    go_ret3
                    exact ⟨by first | rfl | (simp [errW_none, errW_some] <;> rfl) | (simp only [← hji2, ← hji6, ← hji8]; first | rfl | (simp [errW_none, errW_some] <;> rfl)) | (simp [*, errW_none, errW_some] <;> rfl), by repeat (first | (with_reducible first | exact HB.out | apply below_alloc | apply pw_below_drewN | apply below_drew1) | exact HB.out)⟩
                  · rw [if_neg c11] at H
                    have c11b0 : ((IntKind.u64.wrap (rd l0 x11_1)) == 0) = false := beq_eq_false_iff_ne.mpr c11
                    have c11b1 : ((IntKind.u64.wrap (rd l0 x11_1)) != 0) = true := bne_iff_ne.mpr c11
                    by_cases c12 : x11_1 = 9
                    · rw [if_pos c12] at H
                      have c12b0 : (x11_1 == 9) = true := beq_iff_eq.mpr c12
                      have c12b1 : (x11_1 != 9) = false := bne_eq_false_iff_eq.mpr c12
                      clear c12
                      by_cases c13 : (IntKind.u64.wrap (rd l0 x11_1)) > 1
                      · rw [if_pos c13] at H
                        have c13b0 : decide (1 < (IntKind.u64.wrap (rd l0 x11_1))) = true := decide_eq_true c13
                        clear c13
                        simp only [Option.some.injEq, Prod.mk.injEq] at H
                        obtain ⟨rfl, rfl, rfl⟩ := H
                        have p222 : 0 ≤ (x11_1 : Int) := of_decide_eq_true (by first | (with_reducible assumption) | assumption)
                        have q222 : x11_1 < (l0.length : Int) := of_decide_eq_true (by first | (with_reducible assumption) | assumption)
                        obtain ⟨ad222, e222, hx222_0⟩ := Kd.at_int HR0.out x11_1 p222 q222
                        cases e222
                        replace hx222_0 := (HB.out.cell (World.block_lt_of_cell? w _ hx222_0)).trans hx222_0
                        replace p222 := eq_true p222
                        replace q222 := eq_true q222
                        go_wp2
                        go_ret3
                        exact ⟨by first | rfl | (simp [errW_none, errW_some] <;> rfl) | (simp only [← hji2, ← hji6, ← hji8]; first | rfl | (simp [errW_none, errW_some] <;> rfl)) | (simp [*, errW_none, errW_some] <;> rfl), by repeat (first | (with_reducible first | exact HB.out | apply below_alloc | apply pw_below_drewN | apply below_drew1) | exact HB.out)⟩
                      · rw [if_neg c13] at H
                        have c13b0 : decide (1 < (IntKind.u64.wrap (rd l0 x11_1))) = false := decide_eq_false c13
                        clear c13
                        simp only [Option.some.injEq, Prod.mk.injEq] at H
                        obtain ⟨rfl, rfl, rfl⟩ := H
                        have p222 : 0 ≤ (x11_1 : Int) := of_decide_eq_true (by first | (with_reducible assumption) | assumption)
                        have q222 : x11_1 < (l0.length : Int) := of_decide_eq_true (by first | (with_reducible assumption) | assumption)
                        obtain ⟨ad222, e222, hx222_0⟩ := Kd.at_int HR0.out x11_1 p222 q222
                        cases e222
                        replace hx222_0 := (HB.out.cell (World.block_lt_of_cell? w _ hx222_0)).trans hx222_0
                        replace p222 := eq_true p222
                        replace q222 := eq_true q222
                        go_wp2
                        go_ret3
                        exact ⟨by first | rfl | (simp [errW_none, errW_some] <;> rfl) | (simp only [← hji2, ← hji6, ← hji8]; first | rfl | (simp [errW_none, errW_some] <;> rfl)) | (simp [*, errW_none, errW_some] <;> rfl), by repeat (first | (with_reducible first | exact HB.out | apply below_alloc | apply pw_below_drewN | apply below_drew1) | exact HB.out)⟩
                    · rw [if_neg c12] at H
                      have c12b0 : (x11_1 == 9) = false := beq_eq_false_iff_ne.mpr c12
                      have c12b1 : (x11_1 != 9) = true := bne_iff_ne.mpr c12
                      simp only [Option.some.injEq, Prod.mk.injEq] at H
                      obtain ⟨rfl, rfl, rfl⟩ := H
                      have p222 : 0 ≤ (x11_1 : Int) := of_decide_eq_true (by first | (with_reducible assumption) | assumption)
                      have q222 : x11_1 < (l0.length : Int) := of_decide_eq_true (by first | (with_reducible assumption) | assumption)
                      obtain ⟨ad222, e222, hx222_0⟩ := Kd.at_int HR0.out x11_1 p222 q222
                      cases e222
                      replace hx222_0 := (HB.out.cell (World.block_lt_of_cell? w _ hx222_0)).trans hx222_0
                      replace p222 := eq_true p222
                      replace q222 := eq_true q222
                      go_wp2
                      go_ret3
                      exact ⟨by first | rfl | (simp [errW_none, errW_some] <;> rfl) | (simp only [← hji2, ← hji6, ← hji8]; first | rfl | (simp [errW_none, errW_some] <;> rfl)) | (simp [*, errW_none, errW_some] <;> rfl), by repeat (first | (with_reducible first | exact HB.out | apply below_alloc | apply pw_below_drewN | apply below_drew1) | exact HB.out)⟩
                · rw [if_neg c10] at H
                  have c10b0 : decide (0 < x11_1) = false := decide_eq_false c10
                  clear c10
                  by_cases c14 : x11_1 = 9
                  · rw [if_pos c14] at H
                    have c14b0 : (x11_1 == 9) = true := beq_iff_eq.mpr c14
                    have c14b1 : (x11_1 != 9) = false := bne_eq_false_iff_eq.mpr c14
                    clear c14
                    by_cases c15 : (IntKind.u64.wrap (rd l0 x11_1)) > 1
                    · rw [if_pos c15] at H
                      have c15b0 : decide (1 < (IntKind.u64.wrap (rd l0 x11_1))) = true := decide_eq_true c15
                      clear c15
                      simp only [Option.some.injEq, Prod.mk.injEq] at H
                      obtain ⟨rfl, rfl, rfl⟩ := H
                      have p222 : 0 ≤ (x11_1 : Int) := of_decide_eq_true (by first | (with_reducible assumption) | assumption)
                      have q222 : x11_1 < (l0.length : Int) := of_decide_eq_true (by first | (with_reducible assumption) | assumption)
                      obtain ⟨ad222, e222, hx222_0⟩ := Kd.at_int HR0.out x11_1 p222 q222
                      cases e222
                      replace hx222_0 := (HB.out.cell (World.block_lt_of_cell? w _ hx222_0)).trans hx222_0
                      replace p222 := eq_true p222
                      replace q222 := eq_true q222
                      go_wp2
                      go_ret3
                      exact ⟨by first | rfl | (simp [errW_none, errW_some] <;> rfl) | (simp only [← hji2, ← hji6, ← hji8]; first | rfl | (simp [errW_none, errW_some] <;> rfl)) | (simp [*, errW_none, errW_some] <;> rfl), by repeat (first | (with_reducible first | exact HB.out | apply below_alloc | apply pw_below_drewN | apply below_drew1) | exact HB.out)⟩
                    · rw [if_neg c15] at H
                      have c15b0 : decide (1 < (IntKind.u64.wrap (rd l0 x11_1))) = false := decide_eq_false c15
                      clear c15
                      simp only [Option.some.injEq, Prod.mk.injEq] at H
                      obtain ⟨rfl, rfl, rfl⟩ := H
                      have p222 : 0 ≤ (x11_1 : Int) := of_decide_eq_true (by first | (with_reducible assumption) | assumption)
                      have q222 : x11_1 < (l0.length : Int) := of_decide_eq_true (by first | (with_reducible assumption) | assumption)
                      obtain ⟨ad222, e222, hx222_0⟩ := Kd.at_int HR0.out x11_1 p222 q222
                      cases e222
                      replace hx222_0 := (HB.out.cell (World.block_lt_of_cell? w _ hx222_0)).trans hx222_0
                      replace p222 := eq_true p222
                      replace q222 := eq_true q222
                      go_wp2
                      go_ret3
                      exact ⟨by first | rfl | (simp [errW_none, errW_some] <;> rfl) | (simp only [← hji2, ← hji6, ← hji8]; first | rfl | (simp [errW_none, errW_some] <;> rfl)) | (simp [*, errW_none, errW_some] <;> rfl), by repeat (first | (with_reducible first | exact HB.out | apply below_alloc | apply pw_below_drewN | apply below_drew1) | exact HB.out)⟩
                  · rw [if_neg c14] at H
                    have c14b0 : (x11_1 == 9) = false := beq_eq_false_iff_ne.mpr c14
                    have c14b1 : (x11_1 != 9) = true := bne_iff_ne.mpr c14
                    simp only [Option.some.injEq, Prod.mk.injEq] at H
                    obtain ⟨rfl, rfl, rfl⟩ := H
                    have p222 : 0 ≤ (x11_1 : Int) := of_decide_eq_true (by first | (with_reducible assumption) | assumption)
                    have q222 : x11_1 < (l0.length : Int) := of_decide_eq_true (by first | (with_reducible assumption) | assumption)
                    obtain ⟨ad222, e222, hx222_0⟩ := Kd.at_int HR0.out x11_1 p222 q222
                    cases e222
                    replace hx222_0 := (HB.out.cell (World.block_lt_of_cell? w _ hx222_0)).trans hx222_0
                    replace p222 := eq_true p222
                    replace q222 := eq_true q222
                    go_wp2
                    go_ret3
                    exact ⟨by first | rfl | (simp [errW_none, errW_some] <;> rfl) | (simp only [← hji2, ← hji6, ← hji8]; first | rfl | (simp [errW_none, errW_some] <;> rfl)) | (simp [*, errW_none, errW_some] <;> rfl), by repeat (first | (with_reducible first | exact HB.out | apply below_alloc | apply pw_below_drewN | apply below_drew1) | exact HB.out)⟩
            · rw [if_neg c7] at H
              exact absurd H (by simp)
          · rw [if_neg c5] at H
            exact absurd H (by simp)
        · rw [if_neg c4] at H
          exact absurd H (by simp)
      · rw [if_neg c3] at H
        have c3b0 : decide (x11_1 < ji2) = false := decide_eq_false c3
        clear c3
        simp only [Option.some.injEq, Prod.mk.injEq] at H
        obtain ⟨rfl, rfl, rfl⟩ := H
        go_wp2
        go_ret3
        exact ⟨by first | rfl | (simp [errW_none, errW_some] <;> rfl) | (simp only [← hji2]; first | rfl | (simp [errW_none, errW_some] <;> rfl)) | (simp [*, errW_none, errW_some] <;> rfl), by repeat (first | (with_reducible first | exact HB.out | apply below_alloc | apply pw_below_drewN | apply below_drew1) | exact HB.out)⟩
theorem u64_small {n : Nat} (h : n < 18446744073709551616) : IntKind.wrap .u64 (n : Int) = (n : Int) := by simp [IntKind.wrap, IntKind.bits, IntKind.signed]; omega
theorem or_nat {a b : Nat} (ha : a < 18446744073709551616) (hb : b < 18446744073709551616) : Go.bits .or .u64 (a : Int) (b : Int) = ((a ||| b : Nat) : Int) := by
  have e1 : (BitVec.ofInt 64 (a : Int)).toNat = a := by rw [BitVec.ofInt_natCast, BitVec.toNat_ofNat, Nat.mod_eq_of_lt ha]
  have e2 : (BitVec.ofInt 64 (b : Int)).toNat = b := by rw [BitVec.ofInt_natCast, BitVec.toNat_ofNat, Nat.mod_eq_of_lt hb]
  show IntKind.wrap .u64 (((BitVec.ofInt 64 (a : Int) ||| BitVec.ofInt 64 (b : Int)).toNat : Nat) : Int) = _
  rw [BitVec.toNat_or, e1, e2]
  exact u64_small (Nat.or_lt_two_pow (n := 64) ha hb)
theorem or_sum {a x s : Nat} (ha : a < 2 ^ s) (hx : x * 2 ^ s < 18446744073709551616) (hs : s < 64) : Go.bits .or .u64 (a : Int) ((x * 2 ^ s : Nat) : Int) = ((a + x * 2 ^ s : Nat) : Int) := by
  have h64 : 2 ^ s < 2 ^ 64 := Nat.pow_lt_pow_right (by decide) hs
  rw [or_nat (by have : (2:Nat) ^ 64 = 18446744073709551616 := by decide
                 omega) hx]
  congr 1
  rw [Nat.or_comm, ← Nat.shiftLeft_eq, ← Nat.shiftLeft_add_eq_or_of_lt ha, Nat.add_comm]
theorem low_seven {c : Nat} (h : c < 256) : Go.bits .andNot .u64 (IntKind.wrap .u64 (c : Int)) 128 = ((c % 128 : Nat) : Int) := by
  have h0 : ∀ b : Fin 256, Go.bits .andNot .u64 (IntKind.wrap .u64 ((b.val : Nat) : Int)) 128 = ((b.val % 128 : Nat) : Int) := by decide +kernel
  exact h0 ⟨c, h⟩
theorem shl_nat {x s : Nat} (hs : s < 64) (h : x * 2 ^ s < 18446744073709551616) : shl .u64 (x : Int) (s : Int) = ((x * 2 ^ s : Nat) : Int) := by
  unfold shl
  rw [Int.toNat_natCast, Nat.min_eq_left (show s ≤ IntKind.bits .u64 from by show s ≤ 64; omega)]
  rw [show (x : Int) * 2 ^ s = ((x * 2 ^ s : Nat) : Int) from by push_cast; rfl]
  exact u64_small h
theorem le_Get_loop (l : List Int) (hl : ∀ c ∈ l, 0 ≤ c ∧ c < 256) (hlen : l.length < 4611686018427387904) : ∀ (d i k : Nat) (acc : Int) (a : Nat), i + d = 10 → d < k → i ≤ l.length → (i ≤ 9 → acc = (a : Int) ∧ a < 128 ^ i) →
    le_Get.l0 k l acc (mn (l.length : Int) 10) (i : Int) = some (tellN (getNAux i a (l.drop i))) := by
  have hmn : mn (l.length : Int) 10 = ((min l.length 10 : Nat) : Int) := by unfold mn; split <;> omega
  rw [hmn]
  intro d
  induction d with
  | zero =>
    intro i k acc a hi hk hil _
    obtain ⟨k, rfl⟩ := rounds_of hk
    simp only [le_Get.l0]
    rw [if_neg (by omega), getNAux_late _ _ (by omega)]
    rfl
  | succ d ih =>
    intro i k acc a hi hk hil hA
    obtain ⟨k, rfl⟩ := rounds_of hk
    obtain ⟨rfl, ha⟩ := hA (by omega)
    simp only [le_Get.l0]
    by_cases h : i < l.length
    · have hc := hl (l.getD i 0) (by simp [List.getD, h])
      have hd : l.drop i = l.getD i 0 :: l.drop (i + 1) := by rw [List.drop_eq_getElem_cons h]; simp [List.getD, h]
      rw [if_pos (by omega), if_pos (by omega), if_pos (by omega), show rd l (i : Int) = l.getD i 0 from by simp [rd], hd]
      have ew : wrap64 (7 * (i : Int)) = ((7 * i : Nat) : Int) := by unfold wrap64; omega
      rw [ew, if_pos (by omega), wrap_succ (by omega)]
      obtain ⟨c, hce⟩ := Int.eq_ofNat_of_zero_le hc.1
      rw [hce] at hc ⊢
      have hc2 : c < 256 := by omega
      rw [low_seven hc2, u64_small (show c < 18446744073709551616 from by omega)]
      have hp : (2 : Nat) ^ (7 * i) = 128 ^ i := by rw [Nat.pow_mul]
      have hG : getNAux i a (((c : Nat) : Int) :: l.drop (i + 1)) = if 128 ≤ ((c : Nat) : Int) then getNAux (i + 1) (a + ((c : Nat) : Int).toNat % 128 * 128 ^ i) (l.drop (i + 1)) else if (0 < i ∧ ((c : Nat) : Int) = 0) ∨ (i = 9 ∧ 1 < ((c : Nat) : Int)) then none else some (a + ((c : Nat) : Int).toNat * 128 ^ i, i + 1) := by
        rw [getNAux, if_neg (by omega)]
      rw [hG]
      have hpl : 128 ^ i ≤ 128 ^ 9 := Nat.pow_le_pow_right (by decide) (by omega)
      have h9 : (128 : Nat) ^ 9 = 9223372036854775808 := by decide
      have hsum : ∀ x : Nat, x * 128 ^ i < 18446744073709551616 → Go.bits .or .u64 (a : Int) (shl .u64 (x : Int) ((7 * i : Nat) : Int)) = ((a + x * 128 ^ i : Nat) : Int) := by
        intro x hx
        rw [shl_nat (by omega) (by rw [hp]; exact hx), or_sum (by rw [hp]; exact ha) (by rw [hp]; exact hx) (by omega), hp]
      by_cases h128 : (c : Int) ≥ 128
      · rw [if_pos h128, if_pos (show (128 : Int) ≤ ((c : Nat) : Int) from h128)]
        refine ih (i + 1) k _ (a + ((c : Nat) : Int).toNat % 128 * 128 ^ i) (by omega) (by omega) (by omega) (fun h8 => ?_)
        have hpl8 : 128 ^ i ≤ 128 ^ 8 := Nat.pow_le_pow_right (by decide) (by omega)
        have h88 : (128 : Nat) ^ 8 = 72057594037927936 := by decide
        have hx : c % 128 * 128 ^ i ≤ 127 * 128 ^ i := Nat.mul_le_mul_right _ (by omega)
        rw [hsum _ (by omega)]
        refine ⟨rfl, ?_⟩
        show a + c % 128 * 128 ^ i < 128 ^ (i + 1)
        rw [Nat.pow_succ]
        omega
      · have hcm : c % 128 = c := Nat.mod_eq_of_lt (by omega)
        rw [if_neg h128, if_neg (show ¬ (128 : Int) ≤ ((c : Nat) : Int) from h128), hcm]
        have hlow : ∀ (hx : c * 128 ^ i < 18446744073709551616), some (Go.bits .or .u64 (a : Int) (shl .u64 (c : Int) ((7 * i : Nat) : Int)), ((i + 1 : Nat) : Int), true) = some (tellN (some (a + ((c : Nat) : Int).toNat * 128 ^ i, i + 1))) := by
          intro hx
          rw [hsum _ hx]
          rfl
        have hsmall : i ≠ 9 → c * 128 ^ i < 18446744073709551616 := by
          intro h8
          have hpl8 : 128 ^ i ≤ 128 ^ 8 := Nat.pow_le_pow_right (by decide) (by omega)
          have h88 : (128 : Nat) ^ 8 = 72057594037927936 := by decide
          have hx : c * 128 ^ i ≤ 127 * 128 ^ i := Nat.mul_le_mul_right _ (by omega)
          omega
        have hone : c ≤ 1 → c * 128 ^ i < 18446744073709551616 := by
          intro h1
          have hx : c * 128 ^ i ≤ 1 * 128 ^ i := Nat.mul_le_mul_right _ h1
          omega
        by_cases h0 : (i : Int) > 0
        · rw [if_pos h0]
          by_cases hc0 : (c : Int) = 0
          · rw [if_pos hc0, if_pos (.inl ⟨by omega, hc0⟩)]
            rfl
          · rw [if_neg hc0]
            by_cases hi9 : (i : Int) = 9
            · rw [if_pos hi9]
              by_cases hc1 : (c : Int) > 1
              · rw [if_pos hc1, if_pos (.inr ⟨by omega, hc1⟩)]
                rfl
              · rw [if_neg hc1, if_neg (by omega)]
                exact hlow (hone (by omega))
            · rw [if_neg hi9, if_neg (by omega)]
              exact hlow (hsmall (by omega))
        · rw [if_neg h0, if_neg (by omega), if_neg (by omega)]
          exact hlow (hsmall (by omega))
    · rw [if_neg (by omega), List.drop_of_length_le (by omega)]
      rfl
theorem le_Get_is (l : List Int) (hl : ∀ c ∈ l, 0 ≤ c ∧ c < 256) (hlen : l.length < 4611686018427387904) {k : Nat} (hk : 10 < k) : le_Get.f k l = some (tellN (getN l)) :=
  le_Get_loop l hl hlen 10 0 k 0 0 (by omega) (by omega) (by omega) (fun _ => ⟨rfl, by decide⟩)
theorem le_Get.told (A0 : Option Addr) (c0 : Nat) (l0 : List Int) (w : World) (hb : byteL l0) (hlen : l0.length < 4611686018427387904) (hr0 : Kd.C (Kd.int .u8) w A0 l0.length l0) (hc0 : l0.length ≤ c0) :
    Calls Try.prog 61 #[.slice A0 l0.length c0] w (getPost l0 w) := by
  have h := le_Get_is l0 hb hlen (k := 11) (by decide)
  cases hg : tellN (getN l0) with
  | mk n p =>
    obtain ⟨u, b⟩ := p
    rw [hg] at h
    refine (le_Get.calls 11 A0 c0 l0 n u b w hr0 hc0 h).mono ?_
    rintro e w' ⟨rfl, h3⟩
    unfold getPost
    rw [hg]
    exact ⟨rfl, h3⟩
theorem le_Get.yes (A0 : Option Addr) (c0 : Nat) (l0 : List Int) (w : World) {n u : Nat} (hg : getN l0 = some (n, u)) (hb : byteL l0) (hlen : l0.length < 4611686018427387904) (hr0 : Kd.C (Kd.int .u8) w A0 l0.length l0) (hc0 : l0.length ≤ c0) : Calls Try.prog 61 #[.slice A0 l0.length c0] w (numYes n u w) :=
  (le_Get.told A0 c0 l0 w hb hlen hr0 hc0).mono fun e w' h => by unfold getPost at h; rw [hg] at h; exact h
theorem le_Get.no (A0 : Option Addr) (c0 : Nat) (l0 : List Int) (w : World) (hg : getN l0 = none) (hb : byteL l0) (hlen : l0.length < 4611686018427387904) (hr0 : Kd.C (Kd.int .u8) w A0 l0.length l0) (hc0 : l0.length ≤ c0) : Calls Try.prog 61 #[.slice A0 l0.length c0] w (numNo w) :=
  (le_Get.told A0 c0 l0 w hb hlen hr0 hc0).mono fun e w' h => by unfold getPost at h; rw [hg] at h; exact h

end Go.Proofs.Ytbgdamlidohfhaa.P

namespace Go.Proofs.Ytbgdamlidohfhaa.P
open Go.RowKit Go.Proofs.YtbgdamlidohfhaaW.PrintWords Go.Proofs.YtbgdamlidohfhaaW.PrintLast Go.Proofs.YtbgdamlidohfhaaW.PrintMore
attribute [local go_sem] max2_int min2_int max_two min_two max_three min_three max_four min_four   -- for this text's walks alone
set_option linter.unusedVariables false
set_option linter.unusedSimpArgs false

/-! ### schema_reader_number: function 50 -/
/-- The reader's block. -/
def rdBlk (l : List Int) (A : Option Addr) (c at_ : Nat) (bad : Bool) : Obj := .cells #[.slice A l.length c, .int .i64 (at_ : Int), .bool bad] 66 (0, 0)
/-- What stands about a reader at block B: its bytes came in ahead of it. -/
structure RdOk (l : List Int) (A : Option Addr) (c B : Nat) (w0 w : World) : Prop where
  row : Kd.C (Kd.int .u8) w0 A l.length l
  cap : l.length ≤ c
  byte : byteL l
  len : l.length < 4611686018427387904
  below : Below w0.heap.size w0 w
  blk : w0.heap.size ≤ B
theorem RdOk.only {l : List Int} {A : Option Addr} {c B : Nat} {w0 w w' : World} (h : RdOk l A c B w0 w) (ho : Only B w w') : RdOk l A c B w0 w' := ⟨h.row, h.cap, h.byte, h.len, Only.below h.below ho h.blk, h.blk⟩
theorem RdOk.grow {l : List Int} {A : Option Addr} {c B : Nat} {w0 w w' : World} (h : RdOk l A c B w0 w) (ho : Below w.heap.size w w') : RdOk l A c B w0 w' := ⟨h.row, h.cap, h.byte, h.len, below_step h.below ho, h.blk⟩
def numRd (l : List Int) (A : Option Addr) (c B : Nat) (r : Nat × Nat × Bool) (w : World) (e : Ending) (w' : World) : Prop := e = .returned (.int .i64 (r.1 : Int)) ∧ w'.heap[B]? = some (rdBlk l A c r.2.1 r.2.2) ∧ Only B w w'
set_option maxHeartbeats 1000000 in
set_option maxRecDepth 100000 in
theorem schema_number.told (w0 w : World) (B : Nat) (A : Option Addr) (c : Nat) (l : List Int) (at_ : Nat) (bad : Bool) (most : Nat) (hk : RdOk l A c B w0 w) (hblk : w.heap[B]? = some (rdBlk l A c at_ bad)) (hat : at_ ≤ l.length) (hm : most ≤ 1000000) :
    Calls Try.prog 50 #[.pointer (some ⟨B, 0, none⟩), .int .i64 (most : Int)] w (numRd l A c B (numStep l at_ bad most) w) := by
  obtain ⟨i0, hi0, _, hsz0, _⟩ := info_parts info5
  obtain ⟨A', hcut, hC', hlc⟩ := drop_row (P := Try.prog) (d := Kd.int .u8) Try.underlying43 hi0 hsz0 A c l at_ (at_ : Int) rfl hat hk.cap
  have HCUT := Aside0.mk (Kd.C_drewN (Kd.C_below (hC' _ hk.row) hk.below))
  have HLC := Aside0.mk hlc
  have hlen := hk.len
  have hB := blk_lt hblk
  have hc0 : w.cell? ⟨B, 0, none⟩ = some (.slice A l.length c) := blk_cell hblk 0
  have hc1 : w.cell? ⟨B, 1, none⟩ = some (.int .i64 (at_ : Int)) := blk_cell hblk 1
  have hw1 := u64_small' (n := most) (by omega)
  have hln : (l.drop at_).length < 4611686018427387904 := by rw [List.length_drop]; omega
  have hBYTE := Aside0.mk (byteL_drop hk.byte at_)
  have HBLK := Aside0.mk hblk
  have hcap := hk.cap
  clear hC' hlc hi0 hsz0 hk hblk
  generalize hq : numStep l at_ bad most = r at *
  unfold numStep at hq
  cases hg : getN (l.drop at_) with
  | none =>
    rw [getM_none hg] at hq
    subst hq
    have HG := Aside0.mk hg
    clear hg
    generalize l.drop at_ = ld at *
    go_enter Try.func50, Try.ntmps50
    go_wp2
    go_region_held3 (fun w' => w'.cell? ⟨B, 0, none⟩ = some (.slice A l.length c) ∧ w'.cell? ⟨B, 1, none⟩ = some (.int .i64 (at_ : Int)))
      (first | go_keep | (go_split_ands; refine ⟨?_, ?_⟩ <;> (refine pw_cell_below hb1 ?_; assumption)))
      ((go_at_call 61; refine (le_Get.no A' _ ld _ HG.out hBYTE.out hln (HCUT.out 1) HLC.out).mono ?_; rintro e w1 ⟨rfl, hb1⟩))
    have hbw := below_step (pw_below_drewN (Below.refl w.heap.size w) 1) hb1
    have hk1 := blk_below HBLK.out hbw
    have hd0 : w1.cell? ⟨B, 0, none⟩ = some (.slice A l.length c) := blk_cell hk1 0
    have hd1 : w1.cell? ⟨B, 1, none⟩ = some (.int .i64 (at_ : Int)) := blk_cell hk1 1
    have hd2 : w1.cell? ⟨B, 2, none⟩ = some (.bool bad) := blk_cell hk1 2
    have hfz : ∀ i, w1.frozen? ⟨B, i, none⟩ = false := fun i => blk_frozen hk1 i
    have HK1 := Aside0.mk hk1
    have HBW := Aside0.mk hbw
    clear hk1 hbw hb1
    go_wp2
    go_ret
    exact ⟨rfl, blk_set HK1.out 2 _, (Only.of_below HBW.out (Nat.le_of_lt hB)).set _⟩
  | some p =>
    obtain ⟨nn, u⟩ := p
    rw [getM_some hg] at hq
    have hu := (getN_used hg).2.1
    have HG := Aside0.mk hg
    have hle : at_ + (l.drop at_).length = l.length := by rw [List.length_drop]; omega
    clear hg
    generalize l.drop at_ = ld at *
    by_cases hmn : nn ≤ most
    · rw [if_pos hmn] at hq
      subst hq
      have hmi : ((nn : Nat) : Int) ≤ (most : Int) := by omega
      have hw3 : IntKind.i64.wrap ((nn : Nat) : Int) = (nn : Int) := IntWalk.i64_in _ (by omega)
      clear hmn
      go_enter Try.func50, Try.ntmps50
      go_wp2
      go_region_held3 (fun w' => w'.cell? ⟨B, 0, none⟩ = some (.slice A l.length c) ∧ w'.cell? ⟨B, 1, none⟩ = some (.int .i64 (at_ : Int)))
        (first | go_keep | (go_split_ands; refine ⟨?_, ?_⟩ <;> (refine pw_cell_below hb1 ?_; assumption)))
        ((go_at_call 61; refine (le_Get.yes A' _ ld _ HG.out hBYTE.out hln (HCUT.out 1) HLC.out).mono ?_; rintro e w1 ⟨rfl, hb1⟩))
      have hbw := below_step (pw_below_drewN (Below.refl w.heap.size w) 1) hb1
      have hk1 := blk_below HBLK.out hbw
      have hd0 : w1.cell? ⟨B, 0, none⟩ = some (.slice A l.length c) := blk_cell hk1 0
      have hd1 : w1.cell? ⟨B, 1, none⟩ = some (.int .i64 (at_ : Int)) := blk_cell hk1 1
      have hd2 : w1.cell? ⟨B, 2, none⟩ = some (.bool bad) := blk_cell hk1 2
      have hfz : ∀ i, w1.frozen? ⟨B, i, none⟩ = false := fun i => blk_frozen hk1 i
      have HK1 := Aside0.mk hk1
      have HBW := Aside0.mk hbw
      clear hk1 hbw hb1
      go_wp2
      go_ret
      exact ⟨rfl, by have h := blk_set HK1.out 1 (Value.int .i64 ((at_ + u : Nat) : Int)); rw [Int.natCast_add] at h; exact h, (Only.of_below HBW.out (Nat.le_of_lt hB)).set _⟩
    · rw [if_neg hmn] at hq
      subst hq
      have hmi : ¬ ((nn : Nat) : Int) ≤ (most : Int) := by omega
      clear hmn
      go_enter Try.func50, Try.ntmps50
      go_wp2
      go_region_held3 (fun w' => w'.cell? ⟨B, 0, none⟩ = some (.slice A l.length c) ∧ w'.cell? ⟨B, 1, none⟩ = some (.int .i64 (at_ : Int)))
        (first | go_keep | (go_split_ands; refine ⟨?_, ?_⟩ <;> (refine pw_cell_below hb1 ?_; assumption)))
        ((go_at_call 61; refine (le_Get.yes A' _ ld _ HG.out hBYTE.out hln (HCUT.out 1) HLC.out).mono ?_; rintro e w1 ⟨rfl, hb1⟩))
      have hbw := below_step (pw_below_drewN (Below.refl w.heap.size w) 1) hb1
      have hk1 := blk_below HBLK.out hbw
      have hd0 : w1.cell? ⟨B, 0, none⟩ = some (.slice A l.length c) := blk_cell hk1 0
      have hd1 : w1.cell? ⟨B, 1, none⟩ = some (.int .i64 (at_ : Int)) := blk_cell hk1 1
      have hd2 : w1.cell? ⟨B, 2, none⟩ = some (.bool bad) := blk_cell hk1 2
      have hfz : ∀ i, w1.frozen? ⟨B, i, none⟩ = false := fun i => blk_frozen hk1 i
      have HK1 := Aside0.mk hk1
      have HBW := Aside0.mk hbw
      clear hk1 hbw hb1
      go_wp2
      go_ret
      exact ⟨rfl, blk_set HK1.out 2 _, (Only.of_below HBW.out (Nat.le_of_lt hB)).set _⟩

end Go.Proofs.Ytbgdamlidohfhaa.P

namespace Go.Proofs.Ytbgdamlidohfhaa.P
open Go.RowKit Go.Proofs.YtbgdamlidohfhaaW.PrintWords Go.Proofs.YtbgdamlidohfhaaW.PrintLast Go.Proofs.YtbgdamlidohfhaaW.PrintMore
attribute [local go_sem] max2_int min2_int max_two min_two max_three min_three max_four min_four   -- for this text's walks alone
set_option linter.unusedVariables false
set_option linter.unusedSimpArgs false

/-! ### schema_reader_take: function 51 -/
def rowRd (l : List Int) (A : Option Addr) (c B : Nat) (r : List Int × Nat × Bool) (w : World) (e : Ending) (w' : World) : Prop := ∃ A' c', e = .returned (.slice A' r.1.length c') ∧ r.1.length ≤ c' ∧ Kd.C (Kd.int .u8) w' A' r.1.length r.1 ∧ w'.heap[B]? = some (rdBlk l A c r.2.1 r.2.2) ∧ Only B w w'
theorem rowRd.mk' {l : List Int} {A A' : Option Addr} {c c' B a n : Nat} {r : List Int × Nat × Bool} {t : List Int} {b : Bool} {w w' : World} {e : Ending} (hr : r = (t, a, b)) (hl : t.length = n) (he : e = .returned (.slice A' n c')) (hc : n ≤ c') (hC : Kd.C (Kd.int .u8) w' A' n t) (hb : w'.heap[B]? = some (rdBlk l A c a b)) (ho : Only B w w') : rowRd l A c B r w e w' := by
  subst hr
  subst hl
  exact ⟨A', c', he, hc, hC, hb, ho⟩
theorem made_row (W : World) (e m : Nat) (hm : m ≤ 9223372036854775807) {b : Nat} (hb : W.heap.size = b) : Kd.C (Kd.int .u8) (W.alloc (.cells (madeCells #[.int .u8 0] m) e)) (some ⟨b, 0, none⟩) m (List.replicate m 0) := by
  subst hb
  have h := own_made W W.heap.size e .u8 m (Nat.le_refl _) hm
  have h2 : Kd.R (Kd.int .u8) e (W.alloc (.cells (madeCells #[.int .u8 0] m) e)) W.heap.size (fun _ => True) (.slice (some ⟨W.heap.size, 0, none⟩) m m) (List.replicate m 0) := Kd.R_of_own (by rw [List.length_replicate]; exact h) (fun _ _ => trivial)
  have h3 := (Kd.R_reads' h2).2.2
  rwa [List.length_replicate] at h3
set_option maxHeartbeats 1000000 in
set_option maxRecDepth 100000 in
theorem schema_take.told (w0 w : World) (B : Nat) (A : Option Addr) (c : Nat) (l : List Int) (at_ : Nat) (bad : Bool) (m : Nat) (hk : RdOk l A c B w0 w) (hblk : w.heap[B]? = some (rdBlk l A c at_ bad)) (hat : at_ ≤ l.length) (hm : m ≤ 1000000) :
    Calls Try.prog 51 #[.pointer (some ⟨B, 0, none⟩), .int .i64 (m : Int)] w (rowRd l A c B (takeStep l at_ bad m) w) := by
  have hlen := hk.len
  have hB := blk_lt hblk
  have hc0 : ∀ k, (w.drewN k).cell? ⟨B, 0, none⟩ = some (.slice A l.length c) := fun k => blk_cell hblk 0
  have hc1 : ∀ k, (w.drewN k).cell? ⟨B, 1, none⟩ = some (.int .i64 (at_ : Int)) := fun k => blk_cell hblk 1
  have hc2 : ∀ k, (w.drewN k).cell? ⟨B, 2, none⟩ = some (.bool bad) := fun k => blk_cell hblk 2
  have hfz : ∀ k i, (w.drewN k).frozen? ⟨B, i, none⟩ = false := fun k i => blk_frozen hblk i
  have hs : IntKind.i64.wrap ((l.length : Int) - (at_ : Int)) = (l.length : Int) - (at_ : Int) := IntWalk.i64_in _ (by omega)
  have HBLK := Aside0.mk hblk
  have hcap := hk.cap
  have HK := Aside0.mk hk
  clear hk hblk
  by_cases h : l.length - at_ < m
  · have HT : Aside0 (takeStep l at_ bad m = (List.replicate m 0, at_, true)) := ⟨by unfold takeStep; rw [if_pos h]⟩
    have hlt : (l.length : Int) - (at_ : Int) < (m : Int) := by omega
    have hmk := print_make (P := Try.prog) 43 5 .u8 1 Try.underlying43 info5 (by decide) m (by omega)
    clear h
    go_enter Try.func51, Try.ntmps51
    go_wp2
    go_quiet (fail)
    go_wp2
    go_ret
    exact rowRd.mk' HT.out (List.length_replicate ..) rfl (Nat.le_refl _) (made_row _ _ m (by omega) (by simp [World.setCell])) (blk_alloc (blk_set (blk_drewN HBLK.out nq) 2 _) _) (((Only.refl B w).step (pw_below_drewN (Below.refl _ _) nq) (Nat.le_of_lt hB)).set _ |>.step (below_alloc (Below.refl _ _) _) (by simp [World.setCell]; omega))
  · have HT : Aside0 (takeStep l at_ bad m = ((l.drop at_).take m, at_ + m, bad)) := ⟨by unfold takeStep; rw [if_neg h]⟩
    have hlt : ¬ (l.length : Int) - (at_ : Int) < (m : Int) := by omega
    go_enter Try.func51, Try.ntmps51
    go_wp2
    go_quiet (fail)
    go_wp2
    have hk2 := blk_set (blk_drewN HBLK.out nq) 1 (Value.int .i64 ((at_ + m : Nat) : Int))
    have HO2 := Aside0.mk (((Only.refl B w).step (pw_below_drewN (Below.refl _ _) nq) (Nat.le_of_lt hB)).set (j := 1) (Value.int .i64 ((at_ + m : Nat) : Int)))
    rw [Int.natCast_add] at hk2 HO2
    generalize World.setCell _ _ _ = w2 at hk2 HO2 ⊢
    have hd0 : ∀ k, (w2.drewN k).cell? ⟨B, 0, none⟩ = some (.slice A l.length c) := fun k => blk_cell hk2 0
    have hd1 : ∀ k, (w2.drewN k).cell? ⟨B, 1, none⟩ = some (.int .i64 ((at_ : Int) + (m : Int))) := fun k => blk_cell hk2 1
    have HK2 := Aside0.mk hk2
    clear hk2 hc0 hc1 hc2 hfz
    have hs2 : IntKind.i64.wrap ((at_ : Int) + (m : Int) - (m : Int)) = (at_ : Int) := by rw [IntWalk.i64_in _ (by omega)]; omega
    obtain ⟨i0, hi0, _, hsz0, _⟩ := info_parts info5
    obtain ⟨A', hcut, hC', hlc⟩ := mid_row (P := Try.prog) (d := Kd.int .u8) Try.underlying43 hi0 hsz0 A c l at_ m (at_ : Int) ((at_ : Int) + (m : Int)) rfl rfl (by omega) hcap
    have HLC := Aside0.mk hlc
    have HCC := Aside0.mk hC'
    clear hi0 hsz0 hC' hlc
    go_quiet (fail)
    go_wp2
    go_ret
    exact rowRd.mk' HT.out HLC.out rfl (by omega) (HCC.out _ (Kd.C_below HK.out.row (below_step (Only.below HK.out.below HO2.out HK.out.blk) (pw_below_drewN (Below.refl _ _) _)))) (blk_drewN HK2.out _) (HO2.out.step (pw_below_drewN (Below.refl _ _) _) (Nat.le_trans (Nat.le_of_lt hB) HO2.out.1.size))

end Go.Proofs.Ytbgdamlidohfhaa.P

namespace Go.Proofs.Ytbgdamlidohfhaa.P
open Go.RowKit Go.Proofs.YtbgdamlidohfhaaW.PrintWords Go.Proofs.YtbgdamlidohfhaaW.PrintLast Go.Proofs.YtbgdamlidohfhaaW.PrintMore
attribute [local go_sem] max2_int min2_int max_two min_two max_three min_three max_four min_four   -- for this text's walks alone
set_option linter.unusedVariables false
set_option linter.unusedSimpArgs false

/-! ### schema_reader_text: function 49 -/
def textRd (l : List Int) (A : Option Addr) (c B : Nat) (r : List Int × Nat × Bool) (w : World) (e : Ending) (w' : World) : Prop := e = .returned (.string (strOfNums r.1)) ∧ w'.heap[B]? = some (rdBlk l A c r.2.1 r.2.2) ∧ Only B w w'
set_option maxHeartbeats 1000000 in
set_option maxRecDepth 100000 in
theorem schema_textR.told (w0 w : World) (B : Nat) (A : Option Addr) (c : Nat) (l : List Int) (at_ : Nat) (bad : Bool) (hk : RdOk l A c B w0 w) (hblk : w.heap[B]? = some (rdBlk l A c at_ bad)) (hat : at_ ≤ l.length) :
    Calls Try.prog 49 #[.pointer (some ⟨B, 0, none⟩)] w (textRd l A c B (textStep l at_ bad 12) w) := by
  have HC := Aside0.mk (schema_number.told w0 w B A c l at_ bad 12 hk hblk hat (by omega))
  obtain ⟨ha2, hm2⟩ := numStep_at (l := l) (at_ := at_) (bad := bad) (most := 12) hat
  have HK := Aside0.mk hk
  clear hk hblk
  unfold textStep
  generalize numStep l at_ bad 12 = r at *
  obtain ⟨n1, at1, b1⟩ := r
  go_enter Try.func49, Try.ntmps49
  go_wp2_with (first
    | (go_at_call 50; refine HC.out.mono ?_; rintro e w1 ⟨rfl, hk1, ho1⟩; have HK1 := Aside0.mk hk1; have HO1 := Aside0.mk ho1; clear hk1 ho1)
    | (go_at_call 51; refine (schema_take.told w0 w1 B A c l at1 b1 n1 (HK.out.only HO1.out) HK1.out ha2 (by omega)).mono ?_; rintro e w2 ⟨A', c', rfl, hc2, hC2, hk2, ho2⟩; have hcv := Kd.C_string (P := Try.prog) (c := c') Try.underlying43 Try.underlying5 Try.underlying9 hC2; have HK2 := Aside0.mk hk2; have HO2 := Aside0.mk ho2; clear hk2 ho2 hC2))
  go_ret
  exact ⟨rfl, HK2.out, HO1.out.trans HO2.out⟩

end Go.Proofs.Ytbgdamlidohfhaa.P

namespace Go.Proofs.Ytbgdamlidohfhaa.P
open Go.RowKit Go.Proofs.YtbgdamlidohfhaaW.PrintWords Go.Proofs.YtbgdamlidohfhaaW.PrintLast Go.Proofs.YtbgdamlidohfhaaW.PrintMore
attribute [local go_sem] max2_int min2_int max_two min_two max_three min_three max_four min_four   -- for this text's walks alone
set_option linter.unusedVariables false
set_option linter.unusedSimpArgs false

/-! ### schema_Get: function 32 -/
def schYes (s : SSchema) (n : Nat) (w : World) (e : Ending) (w' : World) : Prop := ∃ A c, e = .returned (.tuple #[.agg #[.string s.f0, .int .i64 s.f1, .slice A s.f2.length c], .int .i64 (n : Int), .bool true]) ∧ s.f2.length ≤ c ∧ Kd.C kField w' A s.f2.length s.f2 ∧ Below w.heap.size w w'
def schNo (w : World) (e : Ending) (w' : World) : Prop := e = .returned (.tuple #[.agg #[.string ⟨#[]⟩, .int .i64 0, .slice none 0 0], .int .i64 0, .bool false]) ∧ Below w.heap.size w w'
def getSPost (r : Option (SSchema × Nat)) (w : World) (e : Ending) (w' : World) : Prop := match r with
  | some (s, n) => schYes s n w e w'
  | none => schNo w e w'
/-- In a round: the reader's block, what is kept of the answer's and of the schema's, and the fields so far. -/
structure getRel (l : List Int) (A : Option Addr) (c : Nat) (nm : ByteArray) (ver many : Int) (w : World) (B : Nat) (k : Nat) (w' : World) : Prop where
  mk' ::
  le : (k : Int) ≤ many
  st : ∃ at_ bad fs v, fs.length = k ∧ rdInv l (many.toNat - k) at_ bad fs nm ver ∧ w'.heap[w.heap.size + 1]? = some (rdBlk l A c at_ bad) ∧ w'.heap[B]? = some (.cells #[.string nm, .int .i64 ver, v] 25 (0, 0)) ∧ Kd.R kField 39 w' w.heap.size (fun _ => True) v fs
  ans : w'.heap[w.heap.size]? = some (.cells #[.string ⟨#[]⟩, .int .i64 0, .slice none 0 0] 25 (0, 0))
  ok : RdOk l A c (w.heap.size + 1) w w'
set_option maxHeartbeats 2000000 in
set_option maxRecDepth 100000 in
theorem schema_Get.told (w : World) (A : Option Addr) (c : Nat) (l : List Int) (hr0 : Kd.C (Kd.int .u8) w A l.length l) (hc0 : l.length ≤ c) (hb : byteL l) (hlen : l.length < 4611686018427387904) :
    Calls Try.prog 32 #[.slice A l.length c] w (getSPost (getS l) w) := by
  have HOK := Aside0.mk (RdOk.mk (B := w.heap.size + 1) (w := w) hr0 hc0 hb hlen (Below.refl _ _) (by omega))
  clear hr0 hc0 hb
  obtain ⟨r1, hr1⟩ : ∃ r, textStep l 0 false 12 = r := ⟨_, rfl⟩
  obtain ⟨t, a1, b1⟩ := r1
  obtain ⟨r2, hr2⟩ : ∃ r, numStep l a1 b1 1000 = r := ⟨_, rfl⟩
  obtain ⟨ver, a2, b2⟩ := r2
  obtain ⟨r3, hr3⟩ : ∃ r, numStep l a2 b2 6 = r := ⟨_, rfl⟩
  obtain ⟨many, a3, b3⟩ := r3
  have HSTART := Aside0.mk (rdInv_start hr1 hr2 hr3)
  have ha1 : a1 ≤ l.length := by have := textStep_at (l := l) (bad := false) (m := 12) (Nat.zero_le l.length); rw [hr1] at this; exact this.1
  have ha2 : a2 ≤ l.length := by have := numStep_at (l := l) (bad := b1) (most := 1000) ha1; rw [hr2] at this; exact this.1
  have HR1 := Aside0.mk hr1
  have HR2 := Aside0.mk hr2
  have HR3 := Aside0.mk hr3
  have hm6 := HSTART.out.2.2
  clear hr1 hr2 hr3
  go_enter Try.func32, Try.ntmps32
  go_wp2_with (first
    | (go_at_call 49; refine (schema_textR.told w _ (w.heap.size + 1) A c l 0 false (HOK.out.grow (below_alloc (below_alloc (Below.refl _ _) _) _)) (blk_new2 _ _ _) (Nat.zero_le _)).mono ?_; rw [HR1.out]; rintro e w1 ⟨rfl, hk1, ho1⟩; have HK1 := Aside0.mk hk1; have HO1 := Aside0.mk ho1; clear hk1 ho1)
    | (go_at_call_of 50 (Value.int .i64 1000); refine (schema_number.told w w1 (w.heap.size + 1) A c l a1 b1 1000 ((HOK.out.grow (below_alloc (below_alloc (Below.refl _ _) _) _)).only HO1.out) HK1.out ha1 (by omega)).mono ?_; rw [HR2.out]; rintro e w2 ⟨rfl, hk2, ho2⟩; have HK2 := Aside0.mk hk2; have HO2 := Aside0.mk (HO1.out.trans ho2); clear hk2 ho2)
    | (go_at_call_of 50 (Value.int .i64 6); refine (schema_number.told w _ (w.heap.size + 1) A c l a2 b2 6 (((HOK.out.grow (below_alloc (below_alloc (Below.refl _ _) _) _)).only HO2.out).grow (below_alloc (Below.refl _ _) _)) (blk_alloc HK2.out _) ha2 (by omega)).mono ?_; rw [HR3.out]; rintro e w3 ⟨rfl, hk3, ho3⟩; have HK3 := Aside0.mk hk3; have HO3 := Aside0.mk ho3; clear hk3 ho3))
  have hz2 : w.heap.size + 2 ≤ w2.heap.size := by have := HO2.out.1.size; simp only [World.size_alloc] at this; omega
  have HANS := Aside0.mk (HO3.out.blk (blk_alloc (HO2.out.blk (blk_alloc (blk_new _ _) _) (by omega)) _) (by omega))
  have HB6 := Aside0.mk (HO3.out.blk (blk_new _ _) (show w2.heap.size ≠ w.heap.size + 1 by omega))
  have HOK3 := Aside0.mk ((((HOK.out.grow (below_alloc (below_alloc (Below.refl _ _) _) _)).only HO2.out).grow (below_alloc (Below.refl _ _) _)).only HO3.out)
  have HS3 := Aside0.mk (show w2.heap.size < w3.heap.size from blk_lt HB6.out)
  generalize w2.heap.size = b6 at *
  clear HO1 HO2 HO3 HK1 HK2 HR1 HR2 HR3 HOK
  go_loopw [17] (fun v17 w' => ∃ k : Nat, v17 = .int .i64 k ∧ getRel l A c (strOfNums t) ver many w b6 k w') (fun i _ => many - (intOf i).toNat)
  case atStart => exact ⟨0, rfl, by omega, ⟨a3, b3, [], _, rfl, by simpa using HSTART.out.1, HK3.out, HB6.out, Kd.R_nil _ _ _ _ _⟩, HANS.out, HOK3.out⟩
  case round =>
    obtain ⟨k, rfl, hkm, ⟨at_, bad, fs, v, hfl, hinv, hk5, hk6, ho⟩, hans, hok⟩ := hrel
    rw [Int.toNat_natCast] at hinv
    by_cases hlt : k < many
    · obtain ⟨q1, hq1⟩ : ∃ r, textStep l at_ bad 12 = r := ⟨_, rfl⟩
      obtain ⟨t', a', b'⟩ := q1
      obtain ⟨q2, hq2⟩ : ∃ r, takeStep l a' b' 1 = r := ⟨_, rfl⟩
      obtain ⟨x, a'', b''⟩ := q2
      have hatl := hinv.1
      have hal : a' ≤ l.length := by have := textStep_at (l := l) (bad := bad) (m := 12) hatl; rw [hq1] at this; exact this.1
      have hx1 : x.length = 1 := by have := (takeStep_at (l := l) (bad := b') (n := 1) hal).2; rw [hq2] at this; exact this
      have HINV := Aside0.mk (rdInv_step (m := many - k - 1) (by rw [show many - k - 1 + 1 = many - k from by omega]; exact hinv) hq1 hq2)
      have HQ1 := Aside0.mk hq1
      have HQ2 := Aside0.mk hq2
      have HK5 := Aside0.mk hk5
      have HK6 := Aside0.mk hk6
      have HO := Aside0.mk ho
      have HANS2 := Aside0.mk hans
      have HOK2 := Aside0.mk hok
      have HFL := Aside0.mk hfl
      have hd6 : wr.cell? ⟨b6, 2, none⟩ = some v := blk_cell hk6 2
      clear hq1 hq2 hk5 hk6 ho hans hok hfl hinv
      have hx0 : 0 ≤ x.getD 0 0 ∧ x.getD 0 0 < 256 := by have := takeStep_byte (at_ := a') (bad := b') (n := 1) HOK2.out.byte; rw [HQ2.out] at this; exact getD_byte this 0
      obtain ⟨hx01, hx02⟩ := hx0
      have hbs := HOK2.out.below
      have hws : w.heap.size ≤ wr.heap.size := hbs.size
      have hb6l := blk_lt HK6.out
      have HRD : Aside0 (rd x 0 = x.getD 0 0) := ⟨rfl⟩
      generalize x.getD 0 0 = x0 at *
      clear hbs
      have hT1 : 39 ≠ 25 := by decide
      have hT2 : 39 ≠ 66 := by decide
      have hwx : IntKind.i64.wrap x0 = x0 := IntWalk.i64_in _ (by omega)
      go_wp2
      go_region_law (first
        | (go_simp; go_at_call 49; refine (schema_textR.told w _ (w.heap.size + 1) A c l at_ bad (HOK2.out.grow (below_drew (Below.refl _ _))) (blk_drew HK5.out) hatl).mono ?_; rw [HQ1.out]; rintro e w4 ⟨rfl, hk4, ho4⟩; have hd4 : w4.cell? ⟨b6, 2, none⟩ = some v := blk_cell (ho4.blk (blk_drew HK6.out) (by omega)) 2; have HK4 := Aside0.mk hk4; have HO4 := Aside0.mk ho4; clear hk4 ho4)
        | (go_simp; go_at_call 51; refine (schema_take.told w _ (w.heap.size + 1) A c l a' b' 1 ((HOK2.out.grow (below_drew (Below.refl _ _))).only HO4.out) HK4.out hal (by omega)).mono ?_; rw [HQ2.out]; rintro e w5 ⟨Ax, cx, rfl, hcx, hCx, hk5, ho5⟩; obtain ⟨adx, hAx, hcell⟩ := Kd.at_int hCx 0 (by omega) (by rw [hx1]; omega); subst hAx; have HK5' := Aside0.mk hk5; have HO5 := Aside0.mk (HO4.out.trans ho5); have hd5 : w5.cell? ⟨b6, 2, none⟩ = some v := blk_cell (HO5.out.blk (blk_drew HK6.out) (by omega)) 2; rw [HRD.out] at hcell; have hcell1 : w5.cell? adx = some (.int .u8 x0) := hcell; have hd5a : ∀ o, (w5.alloc o).cell? ⟨b6, 2, none⟩ = some v := fun o => cell_later o hd5; have HO5' := Aside0.mk (HO5.out.row (Kd.R_drew HO.out) (blk_drew HK5.out) (by decide)); have HK6' := Aside0.mk (HO5.out.blk (blk_drew HK6.out) (show b6 ≠ w.heap.size + 1 by omega)); have HA' := Aside0.mk (HO5.out.blk (blk_drew HANS2.out) (show w.heap.size ≠ w.heap.size + 1 by omega)); have hz5 : wr.heap.size ≤ w5.heap.size := HO5.out.1.size; clear hk5 ho5 hCx)
        | (refine Kd.R_append_step (o := ⟨some 30, _, _, _, _, _⟩) kField (w0 := w5) (W := w5) w.heap.size ?hw (.tmp 20) (.tmp 29) 23 39 (.agg #[(.string ⟨#[]⟩), (.int .i64 0)]) 24 rfl Try.underlying23 infoField rfl ?h0 ?h1 v fs (⟨strOfNums t', x0⟩ : SField) [.string (strOfNums t'), .int .i64 x0] (fun _ => True) (fun _ => False) ?hs ?hx ?aP (fun _ h => h.elim) (fun _ _ => trivial) ?aO ?aB ?aS ?aL ?_; (case hw => rfl); (case h0 => decide); (case h1 => decide); (case hs => rfl); (case hx => rfl); (case aP => exact kField_mkM _ _ _ (⟨strOfNums t', x0⟩ : SField)); (case aO => exact HO5'.out); (case aB => exact Below.refl _ _); (case aS => omega); (case aL => rw [HFL.out]; omega); intro v6 w6 ho6 hb6 hg6 hat6; obtain ⟨A6, c6, hv6⟩ := Kd.R_slice ho6; rw [List.length_append, List.length_singleton] at hv6; subst hv6; have HO6 := Aside0.mk ho6; have HK6'' := Aside0.mk (blk_grown HK6'.out hg6 (Kd.R_ne HO5'.out HK6'.out hT1)); have HK5'' := Aside0.mk (blk_grown HK5'.out hg6 (Kd.R_ne HO5'.out HK5'.out hT2)); have HA6 := Aside0.mk (blk_grown HA'.out hg6 (Kd.R_ne HO5'.out HA'.out hT1)); have hd60 : w6.cell? ⟨b6, 2, none⟩ = some v := blk_cell HK6''.out 2; have hd61 : w6.frozen? ⟨b6, 2, none⟩ = false := blk_frozen HK6''.out 2; clear ho6))
      all_goals
        have hk7 := blk_set HK6''.out 2 (Value.slice A6 (fs.length + 1) c6)
        have HO7 := Aside0.mk (Kd.R_set HO6.out HK6''.out (by decide) 2 (Value.slice A6 (fs.length + 1) c6))
        have HK57 := Aside0.mk (blk_far HK5''.out (p := ⟨b6, 2, none⟩) (show w.heap.size + 1 ≠ b6 by omega) (Value.slice A6 (fs.length + 1) c6))
        have HA7 := Aside0.mk (blk_far HA6.out (p := ⟨b6, 2, none⟩) (show w.heap.size ≠ b6 by omega) (Value.slice A6 (fs.length + 1) c6))
        have HK7 := Aside0.mk hk7
        clear hk7
        have hok7 := Aside0.mk (((Only.below (below_step HOK2.out.below (below_drew (Below.refl _ _))) HO5.out (Nat.le_succ _)).trans hb6).setCell (p := ⟨b6, 2, none⟩) (show w.heap.size ≤ b6 by omega) (Value.slice A6 (fs.length + 1) c6))
        have hfl1 : Aside0 ((fs ++ [(⟨strOfNums t', x0⟩ : SField)]).length = k + 1) := ⟨by rw [List.length_append, HFL.out]; rfl⟩
        have hki : Aside0 ((many : Int).toNat - (k + 1) = many - k - 1) := ⟨by omega⟩
        go_wp2
        go_roundw
        case measure => simp [intOf]; omega
        case rel => exact ⟨k + 1, by go_num, by omega, ⟨a'', b'', _, _, hfl1.out, by rw [hki.out]; exact HINV.out, HK57.out, HK7.out, HO7.out⟩, HA7.out, ⟨HOK2.out.row, HOK2.out.cap, HOK2.out.byte, HOK2.out.len, hok7.out, Nat.le_succ _⟩⟩
    · obtain rfl : k = many := by omega
      rw [Nat.sub_self] at hinv
      have HEND := Aside0.mk (rdInv_end hinv)
      have hatl := hinv.1
      obtain ⟨Av, cv, hv, hcv, hrv⟩ := Kd.R_reads ho
      subst hv
      have HRV := Aside0.mk hrv
      have HOW := Aside0.mk ho
      have HCV := Aside0.mk hcv
      have HOK2 := Aside0.mk hok
      have HK5 := Aside0.mk hk5
      have HK6 := Aside0.mk hk6
      have HA := Aside0.mk hans
      have hq0 : wr.cell? ⟨w.heap.size + 1, 2, none⟩ = some (.bool bad) := blk_cell hk5 2
      have hs0 : wr.cell? ⟨b6, 0, none⟩ = some (.string (strOfNums t)) := blk_cell hk6 0
      have hs1 : wr.cell? ⟨b6, 1, none⟩ = some (.int .i64 (ver : Int)) := blk_cell hk6 1
      have hs2 : wr.cell? ⟨b6, 2, none⟩ = some (.slice Av fs.length cv) := blk_cell hk6 2
      have ha0 : wr.cell? ⟨w.heap.size, 0, none⟩ = some (.string ⟨#[]⟩) := blk_cell hans 0
      have ha1' : wr.cell? ⟨w.heap.size, 1, none⟩ = some (.int .i64 0) := blk_cell hans 1
      have ha2' : wr.cell? ⟨w.heap.size, 2, none⟩ = some (.slice none 0 0) := blk_cell hans 2
      have haf : ∀ i, wr.frozen? ⟨w.heap.size, i, none⟩ = false := fun i => blk_frozen hans i
      clear hinv ho hrv hcv hok hk5 hk6 hans hfl
      cases bad with
      | true =>
        have HN : Aside0 (getS l = none) := ⟨by rw [HEND.out, if_pos (.inl rfl)]⟩
        go_wp2
        have hz := blk_set (blk_set (blk_set HA.out 0 (Value.string ⟨#[]⟩)) 1 (Value.int .i64 0)) 2 (Value.slice none 0 0)
        have hbz := ((HOK2.out.below.setCell (p := ⟨w.heap.size, 0, none⟩) (Nat.le_refl _) (Value.string ⟨#[]⟩)).setCell (p := ⟨w.heap.size, 1, none⟩) (Nat.le_refl _) (Value.int .i64 0)).setCell (p := ⟨w.heap.size, 2, none⟩) (Nat.le_refl _) (Value.slice none 0 0)
        generalize World.setCell (World.setCell (World.setCell _ _ _) _ _) _ _ = W3 at hz hbz ⊢
        have hz0 : W3.cell? ⟨w.heap.size, 0, none⟩ = some (.string ⟨#[]⟩) := blk_cell hz 0
        have hz1 : W3.cell? ⟨w.heap.size, 1, none⟩ = some (.int .i64 0) := blk_cell hz 1
        have hz2 : W3.cell? ⟨w.heap.size, 2, none⟩ = some (.slice none 0 0) := blk_cell hz 2
        rw [HN.out]
        exact bodyPost_ret (v := .tuple #[.agg #[.string ⟨#[]⟩, .int .i64 0, .slice none 0 0], .int .i64 0, .bool false]) (by simp [results, Try.results32, go_sem, hz0, hz1, hz2]) rfl ⟨rfl, hbz⟩
      | false =>
        cases hmay : mayS ⟨strOfNums t, ver, fs⟩ with
        | false =>
          have HN : Aside0 (getS l = none) := ⟨by rw [HEND.out, if_pos (.inr hmay)]⟩
          have HM := Aside0.mk hmay
          clear hmay
          go_wp2_with (go_at_call 28; refine (schema_May.told (strOfNums t) ver Av cv fs _ HM.out HRV.out HCV.out).mono ?_; rintro e w8 ⟨rfl, hb8⟩; have HA8 := Aside0.mk (blk_below HA.out hb8); have ha80 : w8.cell? ⟨w.heap.size, 0, none⟩ = some (.string ⟨#[]⟩) := blk_cell HA8.out 0; have ha81 : w8.cell? ⟨w.heap.size, 1, none⟩ = some (.int .i64 0) := blk_cell HA8.out 1; have ha82 : w8.cell? ⟨w.heap.size, 2, none⟩ = some (.slice none 0 0) := blk_cell HA8.out 2; have haf8 : ∀ i, w8.frozen? ⟨w.heap.size, i, none⟩ = false := fun i => blk_frozen HA8.out i)
          have hz := blk_set (blk_set (blk_set HA8.out 0 (Value.string ⟨#[]⟩)) 1 (Value.int .i64 0)) 2 (Value.slice none 0 0)
          have hbz := (((below_step HOK2.out.below hb8).setCell (p := ⟨w.heap.size, 0, none⟩) (Nat.le_refl _) (Value.string ⟨#[]⟩)).setCell (p := ⟨w.heap.size, 1, none⟩) (Nat.le_refl _) (Value.int .i64 0)).setCell (p := ⟨w.heap.size, 2, none⟩) (Nat.le_refl _) (Value.slice none 0 0)
          generalize World.setCell (World.setCell (World.setCell _ _ _) _ _) _ _ = W3 at hz hbz ⊢
          have hz0 : W3.cell? ⟨w.heap.size, 0, none⟩ = some (.string ⟨#[]⟩) := blk_cell hz 0
          have hz1 : W3.cell? ⟨w.heap.size, 1, none⟩ = some (.int .i64 0) := blk_cell hz 1
          have hz2 : W3.cell? ⟨w.heap.size, 2, none⟩ = some (.slice none 0 0) := blk_cell hz 2
          rw [HN.out]
          exact bodyPost_ret (v := .tuple #[.agg #[.string ⟨#[]⟩, .int .i64 0, .slice none 0 0], .int .i64 0, .bool false]) (by simp [results, Try.results32, go_sem, hz0, hz1, hz2]) rfl ⟨rfl, hbz⟩
        | true =>
          have HN : Aside0 (getS l = some (⟨strOfNums t, ver, fs⟩, at_)) := ⟨by rw [HEND.out, if_neg (by simp [hmay])]⟩
          have HM := Aside0.mk hmay
          clear hmay
          go_wp2_with (go_at_call 28; refine (schema_May.told (strOfNums t) ver Av cv fs _ HM.out HRV.out HCV.out).mono ?_; rintro e w8 ⟨rfl, hb8⟩; have HA8 := Aside0.mk (blk_below HA.out hb8); have ha80 : w8.cell? ⟨w.heap.size, 0, none⟩ = some (.string ⟨#[]⟩) := blk_cell HA8.out 0; have ha81 : w8.cell? ⟨w.heap.size, 1, none⟩ = some (.int .i64 0) := blk_cell HA8.out 1; have ha82 : w8.cell? ⟨w.heap.size, 2, none⟩ = some (.slice none 0 0) := blk_cell HA8.out 2; have haf8 : ∀ i, w8.frozen? ⟨w.heap.size, i, none⟩ = false := fun i => blk_frozen HA8.out i; have HK8 := Aside0.mk (blk_below HK6.out hb8); have hs08 : w8.cell? ⟨b6, 0, none⟩ = some (.string (strOfNums t)) := blk_cell HK8.out 0; have hs18 : w8.cell? ⟨b6, 1, none⟩ = some (.int .i64 (ver : Int)) := blk_cell HK8.out 1; have hs28 : w8.cell? ⟨b6, 2, none⟩ = some (.slice Av fs.length cv) := blk_cell HK8.out 2; have HR8 := Aside0.mk (blk_below HK5.out hb8); have hq18 : w8.cell? ⟨w.heap.size + 1, 1, none⟩ = some (.int .i64 (at_ : Int)) := blk_cell HR8.out 1)
          have hbne : b6 ≠ w.heap.size := by omega
          have hbne2 : w.heap.size + 1 ≠ w.heap.size := by omega
          go_region_held3 (fun w' => w'.cell? ⟨b6, 0, none⟩ = some (.string (strOfNums t)) ∧ w'.cell? ⟨b6, 1, none⟩ = some (.int .i64 (ver : Int)) ∧ w'.cell? ⟨b6, 2, none⟩ = some (.slice Av fs.length cv) ∧ w'.cell? ⟨w.heap.size + 1, 1, none⟩ = some (.int .i64 (at_ : Int))) (first | exact ⟨hs08, hs18, hs28, hq18⟩ | exact ⟨cell_far3 (w := w8) hs08 hbne, cell_far3 (w := w8) hs18 hbne, cell_far3 (w := w8) hs28 hbne, cell_far3 (w := w8) hq18 hbne2⟩) (fail)
          have hz := blk_set (blk_set (blk_set HA8.out 0 (Value.string (strOfNums t))) 1 (Value.int .i64 (ver : Int))) 2 (Value.slice Av fs.length cv)
          have hbz := (((below_step HOK2.out.below hb8).setCell (p := ⟨w.heap.size, 0, none⟩) (Nat.le_refl _) (Value.string (strOfNums t))).setCell (p := ⟨w.heap.size, 1, none⟩) (Nat.le_refl _) (Value.int .i64 (ver : Int))).setCell (p := ⟨w.heap.size, 2, none⟩) (Nat.le_refl _) (Value.slice Av fs.length cv)
          have hrz := Kd.R_set (Kd.R_set (Kd.R_set (Kd.R_below HOW.out hb8) HA8.out (by decide) 0 (Value.string (strOfNums t))) (blk_set HA8.out 0 _) (by decide) 1 (Value.int .i64 (ver : Int))) (blk_set (blk_set HA8.out 0 _) 1 _) (by decide) 2 (Value.slice Av fs.length cv)
          rename_i hheld_
          clear hheld_ HA8 ha80 ha81 ha82 haf8 HK8 hs08 hs18 hs28 HR8 hq18 hb8
          generalize World.setCell (World.setCell (World.setCell w8 _ _) _ _) _ _ = W3 at hz hbz hrz ⊢
          have hz0 : W3.cell? ⟨w.heap.size, 0, none⟩ = some (.string (strOfNums t)) := blk_cell hz 0
          have hz1 : W3.cell? ⟨w.heap.size, 1, none⟩ = some (.int .i64 (ver : Int)) := blk_cell hz 1
          have hz2 : W3.cell? ⟨w.heap.size, 2, none⟩ = some (.slice Av fs.length cv) := blk_cell hz 2
          have HRZ := Aside0.mk (Kd.C_drew (Kd.R_reads' hrz).2.2)
          have HBZ := Aside0.mk (below_drew hbz)
          clear hrz hbz hz
          go_wp2
          rw [HN.out]
          exact bodyPost_ret (v := .tuple #[.agg #[.string (strOfNums t), .int .i64 (ver : Int), .slice Av fs.length cv], .int .i64 (at_ : Int), .bool true]) (by simp [results, Try.results32, go_sem, hz0, hz1, hz2]) rfl ⟨Av, cv, rfl, HCV.out, HRZ.out, HBZ.out⟩

end Go.Proofs.Ytbgdamlidohfhaa.P

namespace Go.Proofs.Ytbgdamlidohfhaa.P
open Go.RowKit Go.Proofs.YtbgdamlidohfhaaW.PrintWords Go.Proofs.YtbgdamlidohfhaaW.PrintLast Go.Proofs.YtbgdamlidohfhaaW.PrintMore
attribute [local go_sem] max2_int min2_int max_two min_two max_three min_three max_four min_four   -- for this text's walks alone
set_option linter.unusedVariables false
set_option linter.unusedSimpArgs false

/-! ### towncrierref01_Put: function 53 -/
def towncrierref01_Put.f (a0 : Int) : Option (List Int) := if 0 ≤ a0 then (if a0 < 18446744073709551616 then some (lePut a0.toNat) else none) else none
def ref01PutRel (a : Nat) (w : World) (n : Nat) (v : Value) (w' : World) : Prop := ∃ acc : List Int, (1 ≤ n ∨ acc = []) ∧ acc ++ lePut n = lePut a ∧ n * 128 ^ acc.length ≤ a ∧ Kd.R (Kd.int .u8) 5 w' w.heap.size (fun _ => True) v acc ∧ Below w.heap.size w w'
set_option maxHeartbeats 1000000 in
set_option maxRecDepth 100000 in
theorem towncrierref01_Put.calls (a0 : Int) (r : List Int) (w : World) (h : towncrierref01_Put.f a0 = some r) :
    Calls Try.prog 53 #[.int .u64 a0] w fun e w' => ∃ v0_ : Value, e = .returned v0_ ∧ Kd.R (Kd.int .u8) 5 w' w.heap.size (fun _ => True) v0_ r ∧ Below w.heap.size w w' := by
  unfold towncrierref01_Put.f at h
  by_cases h0 : 0 ≤ a0
  · rw [if_pos h0] at h
    by_cases h1 : a0 < 18446744073709551616
    · rw [if_pos h1] at h
      obtain rfl := Option.some.inj h
      clear h
      obtain ⟨a, rfl⟩ := Int.eq_ofNat_of_zero_le h0
      have ha : a < 18446744073709551616 := by omega
      rw [Int.toNat_natCast]
      show Calls _ _ _ _ (rowPost (Kd.int .u8) 5 (lePut a) w)
      have HA := Aside0.mk ha
      clear h0 h1 ha
      go_enter Try.func53, Try.ntmps53
      go_wp2
      go_loopg [0, 3] (a + 1) (fun kq v0 v3 w' => ∃ n : Nat, v0 = .int .u64 (n : Int) ∧ ref01PutRel a w n v3 w' ∧ Aside0 (n < kq))
      case atStart => exact ⟨a, rfl, ⟨[], .inr rfl, rfl, by simp, Kd.R_nil _ _ _ _ _, Below.refl _ _⟩, ⟨by omega⟩⟩
      case round =>
        obtain ⟨n, rfl, HR, HK⟩ := hrel
        obtain ⟨acc, h1n, hacc, hle, ho, hb⟩ := HR
        have HACC := Aside0.mk hacc
        have HLE := Aside0.mk hle
        have HO := Aside0.mk ho
        have HB := Aside0.mk hb
        clear hacc hle ho hb
        have hlen : acc.length ≤ 64 := by
          rcases h1n with h | rfl
          · have := lePut_few HLE.out HA.out h; omega
          · simp
        clear h1n
        by_cases hn : n < 128
        · have hn' : ((n : Nat) : Int) < 128 := by omega
          have hm' : ((n : Nat) : Int) % 256 = ((n : Nat) : Int) := by omega
          go_wp2_with ((with_reducible refine gate_builtin (b := .append) (xs := #[.tmp 15, .tmp 18]) rfl ?_); at_builtin; refine Kd.R_append (Kd.int .u8) (w0 := w) w.heap.size rfl (.tmp 15) (.tmp 18) 43 5 (.int .u8 0) 1 rfl Try.underlying43 info5 rfl (by decide) (by omega) u3 acc (n : Int) [.int .u8 (n : Int)] (fun _ => True) (fun _ => False) rfl rfl ?aP (fun _ hk => hk.elim) (fun _ _ => trivial) ?aO ?aB ?aS ?aL ?_; (case aP => exact rfl); (case aO => exact HO.out); (case aB => exact HB.out); (case aS => exact below_size HB.out); (case aL => omega); intro v1 w2 ho hb hg hat)
          go_ret
          exact ⟨v1, rfl, by have h := HACC.out; rw [lePut_small hn] at h; rw [← h]; exact ho, hb⟩
        · have hn' : ¬ ((n : Nat) : Int) < 128 := by omega
          obtain ⟨m, hm⟩ : ∃ m, n % 128 = m := ⟨_, rfl⟩
          obtain ⟨q, hq⟩ : ∃ q, n / 128 = q := ⟨_, rfl⟩
          have hm1 : ((n : Nat) : Int).tmod 128 = (m : Int) := by rw [Int.tmod_eq_emod_of_nonneg (by omega)]; omega
          have hq1 : ((n : Nat) : Int).tdiv 128 = (q : Int) := by rw [Int.tdiv_eq_ediv_of_nonneg (by omega)]; omega
          have hm0 : m < 128 := by omega
          have hm2 : ((m : Nat) : Int) % 256 = (m : Int) := by omega
          have hm3 : (((m : Nat) : Int) + 128) % 256 = (m : Int) + 128 := by omega
          have HM := Aside0.mk hm
          have HQ := Aside0.mk hq
          clear hm hq
          go_wp2_with ((with_reducible refine gate_builtin (b := .append) (xs := #[.tmp 6, .tmp 11]) rfl ?_); at_builtin; refine Kd.R_append (Kd.int .u8) (w0 := w) w.heap.size rfl (.tmp 6) (.tmp 11) 43 5 (.int .u8 0) 1 rfl Try.underlying43 info5 rfl (by decide) (by omega) u3 acc ((m : Int) + 128) [.int .u8 ((m : Int) + 128)] (fun _ => True) (fun _ => False) rfl rfl ?aP (fun _ hk => hk.elim) (fun _ _ => trivial) ?aO ?aB ?aS ?aL ?_; (case aP => exact rfl); (case aO => exact HO.out); (case aB => exact HB.out); (case aS => exact below_size HB.out); (case aL => omega); intro v1 w2 ho hb hg hat)
          cases gk with
          | zero => exact absurd HK.out (by omega)
          | succ k1 =>
            have hqn := HQ.out
            have hmn := HM.out
            have hn64 : n < 18446744073709551616 := by { have h1 := HLE.out; have h2 := HA.out; have h3 : n ≤ n * 128 ^ acc.length := Nat.le_mul_of_pos_right _ (Nat.pow_pos (by decide)); omega }
            go_roundg k1
            case measure => omega
            case rel => exact ⟨q, by first | go_num | (congr 1; simp [IntKind.wrap, IntKind.bits, IntKind.signed]; omega), ⟨acc ++ [(m : Int) + 128], .inl (by omega), by have h := HACC.out; rw [lePut_more hn, hmn, hqn] at h; simpa using h, by have h := HLE.out; rw [List.length_append, List.length_singleton, Nat.pow_succ, Nat.mul_comm (128 ^ _) 128, ← Nat.mul_assoc, ← hqn]; exact Nat.le_trans (Nat.mul_le_mul_right _ (Nat.div_mul_le_self n 128)) h, ho, hb⟩, ⟨by have := HK.out; omega⟩⟩
    · rw [if_neg h1] at h
      exact absurd h (by simp)
  · rw [if_neg h0] at h
    exact absurd h (by simp)
theorem towncrierref01_Put.told (a : Nat) (w : World) (h : a < 18446744073709551616) : Calls Try.prog 53 #[.int .u64 (a : Int)] w (rowPost (Kd.int .u8) 5 (lePut a) w) :=
  towncrierref01_Put.calls (a : Int) (lePut a) w (by unfold towncrierref01_Put.f; rw [if_pos (by omega), if_pos (by omega), Int.toNat_natCast])

end Go.Proofs.Ytbgdamlidohfhaa.P

namespace Go.Proofs.Ytbgdamlidohfhaa.P
open Go.RowKit Go.Proofs.YtbgdamlidohfhaaW.PrintWords Go.Proofs.YtbgdamlidohfhaaW.PrintLast Go.Proofs.YtbgdamlidohfhaaW.PrintMore
attribute [local go_sem] max2_int min2_int max_two min_two max_three min_three max_four min_four   -- for this text's walks alone
set_option linter.unusedVariables false
set_option linter.unusedSimpArgs false

/-! ### towncrierref05_Text: function 52 -/
def towncrierref05_Text.f (a0 : ByteArray) : Option (List Int) := (towncrierref01_Put.f (IntKind.u64.wrap ((a0.size : Int)))).bind fun t223 => (if t223.length + a0.size < 140737488355328 then (some (t223 ++ bytesOf a0)) else (none))
set_option maxHeartbeats 8000000 in
set_option maxRecDepth 100000 in
theorem towncrierref05_Text.calls (a0 : ByteArray) (r : List Int) (w : World) (h : towncrierref05_Text.f a0 = some r) :
    Calls Try.prog 52 #[.string a0] w fun e w' => ∃ v0_ : Value, e = .returned (v0_) ∧ Kd.R (Kd.int .u8) 5 w' w.heap.size (fun _ => True) v0_ r ∧ Below w.heap.size w w' := by
  have HB := Aside0.mk (Below.refl w.heap.size w)
  have H : ((towncrierref01_Put.f (IntKind.u64.wrap ((a0.size : Int)))).bind fun t223 => (if t223.length + a0.size < 140737488355328 then (some (t223 ++ bytesOf a0)) else (none))) = some r := h
  clear h
  replace H := Option.bind_eq_some_iff.mp H
  obtain ⟨t223, A20, H⟩ := H
  replace H : (if t223.length + a0.size < 140737488355328 then (some (t223 ++ bytesOf a0)) else (none)) = some r := H
  have A2 := Aside0.mk A20
  clear A20
  by_cases c3 : t223.length + a0.size < 140737488355328
  · rw [if_pos c3] at H
    have LMc3 := Aside0.mk c3
    clear c3
    obtain ⟨y226, hy226⟩ : ∃ y_ : List Int, y_ = (t223 ++ bytesOf a0) := ⟨_, rfl⟩
    replace H : (some y226) = some r := by first | (rw [hy226]; with_reducible exact H) | (have H2_ := (Option.bind_some _ _).symm.trans H; rw [hy226]; with_reducible exact H2_) | (have H2_ := (Option.bind_some _ _).symm.trans H; with_reducible exact H2_) | with_reducible exact H | (rw [hy226]; exact H) | exact H
    have Ny226 := Aside0.mk hy226
    clear hy226
    obtain rfl := Option.some.inj H
    go_enter Try.func52, Try.ntmps52
    go_wp2_with (first | ((with_reducible refine gate_callee (f := 53) rfl ?_); refine goesL_ (some 6) rfl rfl Try.func53 (by kernel_rfl) rfl #[.int .u64 (IntKind.u64.wrap ((a0.size : Int)))] rfl (by (try simp only [List.map_toArray, List.map_cons, List.map_nil]); first | done | rfl | (simp only [List.length_drop, List.length_take]; rfl)) ?_; (with_reducible refine (towncrierref01_Put.calls (IntKind.u64.wrap ((a0.size : Int))) t223 _ A2.out).mono ?_); rintro e w4 ⟨v224, rfl, ho0, hb⟩; refine ⟨_, rfl, ?_⟩; have n0_ := Aside0.mk (Kd.R_lower ho0 (below_size (by repeat (first | (with_reducible first | exact HB.out | apply below_alloc | apply pw_below_drewN | apply below_drew1) | exact HB.out)))); have n1_ := Aside0.mk (below_step (by repeat (first | (with_reducible first | exact HB.out | apply below_alloc | apply pw_below_drewN | apply below_drew1) | exact HB.out)) hb); clear HB; have HO225 := n0_; have HB := n1_; clear n0_ n1_; (try clear hb); (try clear hb2); (try clear hk); (try clear hi); (try clear ho0)) | (at_builtin; refine print_append_str (w0 := w) w.heap.size rfl (.tmp 6) _ 43 9 5 rfl Try.underlying43 Try.underlying9 info5 v224 t223 a0 rfl rfl ?aO ?aB ?aS ?aL ?_; (case aB => exact (by repeat (first | (with_reducible first | exact HB.out | apply below_alloc | apply pw_below_drewN | apply below_drew1) | exact HB.out))); (case aO => exact (Kd.own_of_R (by (with_reducible repeat (first | apply Kd.R_alloc | apply Kd.R_drewN | apply Kd.R_drew)); exact HO225.out))); (case aS => exact (below_size (by repeat (first | (with_reducible first | exact HB.out | apply below_alloc | apply pw_below_drewN | apply below_drew1) | exact HB.out)))); (case aL => have := LMc3.out; omega); intro v227 w5 ho0 hb hg; have ho := Kd.R_of_own (h1 := fun _ => rfl) (ok := fun _ => True) ho0 (fun _ _ => trivial); clear ho0; have hat := True.intro; rw [← Ny226.out] at ho; change Kd.R (Kd.int .u8) 5 w5 w.heap.size (fun _ => True) v227 y226 at ho; have n0_ := Aside0.mk (hb); have n1_ := Aside0.mk (ho); clear HB; clear HO225; have HB := n0_; have HO228 := n1_; clear n0_ n1_; clear ho hb hg hat))
    go_ret
    exact ⟨_, by first | rfl | (simp [errW_none, errW_some] <;> rfl) | (simp [*, errW_none, errW_some] <;> rfl), by (with_reducible repeat (first | apply Kd.R_alloc | apply Kd.R_drewN | apply Kd.R_drew)); exact HO228.out, by repeat (first | (with_reducible first | exact HB.out | apply below_alloc | apply pw_below_drewN | apply below_drew1) | exact HB.out)⟩
  · rw [if_neg c3] at H
    exact absurd H (by simp)

end Go.Proofs.Ytbgdamlidohfhaa.P
