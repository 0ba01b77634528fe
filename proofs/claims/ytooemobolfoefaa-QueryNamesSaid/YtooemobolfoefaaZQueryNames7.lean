/- What QueryNames's row stands on: words, contracts of the functions that it reaches, plain facts, its walk (part 7): no condition but those that each theorem names. -/
import Derived.Test.YtooemobolfoefaaZQueryNames6
set_option linter.unusedVariables false
set_option linter.unusedSimpArgs false
namespace Go.Proofs.Ytooemobolfoefaa.P
open Go.RowKit Go.Proofs.YtooemobolfoefaaW.PrintWords Go.Proofs.YtooemobolfoefaaW.PrintLast Go.Proofs.YtooemobolfoefaaW.PrintMore
attribute [local go_sem] max2_int min2_int max_two min_two max_three min_three max_four min_four   -- for this text's walks alone
set_option linter.unusedVariables false
set_option linter.unusedSimpArgs false
def towncrierlaw09_Few.l0 : Nat → Int → List (SStep) → Int → Int → Int → Int → Option (Bool)
  | 0, _, _, _, _, _, _ => none
  | k + 1, x3, x199000, x199001, x199002, x199003, x199004 => if x3 < (x199000.length : Int) then (if 0 ≤ x3 then ((towncrierlaw08_Few.f k ((rd_TStep x199000 x3).f1)).bind fun t201 => ((towncrierlaw08_Few.f k ((rd_TStep x199000 x3).f6)).bind fun t202 => (if t201 = true then (if t202 = true then (if (((rd_TStep x199000 x3).f0).size : Int) > 60 then (some false) else (if (((rd_TStep x199000 x3).f5).size : Int) > 60 then (some false) else (towncrierlaw09_Few.l0 k (wrap64 (x3 + 1)) x199000 x199001 x199002 x199003 x199004))) else (some false)) else (some false)))) else (none)) else (some true)
def towncrierlaw09_Few.f (k : Nat) (l0_0 : List (SStep)) (a0_1 : Int) (a0_2 : Int) (a0_3 : Int) (a0_4 : Int) : Option (Bool) := if (l0_0.length : Int) > 8 then (some false) else (towncrierlaw09_Few.l0 k 0 l0_0 a0_1 a0_2 a0_3 a0_4)
set_option maxHeartbeats 8000000 in
set_option maxRecDepth 100000 in
theorem towncrierlaw09_Few.calls (k : Nat) (A0_0 : Option Addr) (c0_0 : Nat) (l0_0 : List (SStep)) (a0_1 : Int) (a0_2 : Int) (a0_3 : Int) (a0_4 : Int) (r : Bool) (w : World) (hr0_0 : Kd.C kStep w A0_0 l0_0.length l0_0) (hc0_0 : l0_0.length ≤ c0_0) (h : towncrierlaw09_Few.f k l0_0 a0_1 a0_2 a0_3 a0_4 = some r) :
    Calls Try.prog 10 #[.agg #[.slice A0_0 l0_0.length c0_0, .int .i64 a0_1, .int .i64 a0_2, .int .i64 a0_3, .int .i64 a0_4]] w fun e w' => e = .returned (.bool r) ∧ Below w.heap.size w w' := by
  have hu24 := Try.underlying24
  have hu40 := Try.underlying40
  have HR0_0 := Aside0.mk hr0_0
  have HC0_0 := Aside0.mk hc0_0
  clear hr0_0 hc0_0
  have HB := Aside0.mk (Below.refl w.heap.size w)
  have H : (if (l0_0.length : Int) > 8 then (some false) else (towncrierlaw09_Few.l0 k 0 l0_0 a0_1 a0_2 a0_3 a0_4)) = some r := h
  clear h
  by_cases c2 : (l0_0.length : Int) > 8
  · rw [if_pos c2] at H
    have c2b0 : decide (8 < (l0_0.length : Int)) = true := decide_eq_true c2
    have c2b1 : decide (8 < l0_0.length) = true := decide_eq_true (by omega)
    clear c2
    obtain rfl := Option.some.inj H
    go_enter Try.func10, Try.ntmps10
    go_wp2_with (first | ((with_reducible refine gate_dst (N := 1) rfl ?_); (try (refine gate_guard (by rfl) ?_; dsimp only)); refine box_event ?hg (N := 1) ?hd (cs := #[.slice A0_0 l0_0.length c0_0, .int .i64 a0_1, .int .i64 a0_2, .int .i64 a0_3, .int .i64 a0_4]) (t := 24) ?hr ?_; (case hd => rfl); (case hg => rfl); (case hr => first | (go_simp; done) | (go_simp; rfl)); intro gb198 hg w3 hbox hb; have n0_ := Aside0.mk (below_step (by repeat (first | (with_reducible first | exact HB.out | apply below_alloc | apply pw_below_drewN | apply below_drew1) | exact HB.out)) hb); have n1_ := Aside0.mk (hbox); have n2_ := Aside0.mk ((by rw [hg]; exact (below_size (by repeat (first | (with_reducible first | exact HB.out | apply below_alloc | apply pw_below_drewN | apply below_drew1) | exact HB.out))) : w.heap.size ≤ gb198)); have n3_ := Aside0.mk ((by rw [hg]; exact (below_size (by repeat (first | (with_reducible first | exact HB.out | apply below_alloc | apply pw_below_drewN | apply below_drew1) | exact HB.out))) : w.heap.size ≤ gb198)); clear HB; have HB := n0_; have BK198 := n1_; have GW198 := n2_; have GE198 := n3_; clear n0_ n1_ n2_ n3_; clear hb hbox hg; have hcz4_0 : w3.cell? ⟨gb198, 0, none⟩ = some (.slice A0_0 l0_0.length c0_0) := (blk_cell BK198.out 0).trans rfl; have hcz4_1 : w3.cell? ⟨gb198, 1, none⟩ = some (.int .i64 a0_1) := (blk_cell BK198.out 1).trans rfl; have hcz4_2 : w3.cell? ⟨gb198, 2, none⟩ = some (.int .i64 a0_2) := (blk_cell BK198.out 2).trans rfl; have hcz4_3 : w3.cell? ⟨gb198, 3, none⟩ = some (.int .i64 a0_3) := (blk_cell BK198.out 3).trans rfl; have hcz4_4 : w3.cell? ⟨gb198, 4, none⟩ = some (.int .i64 a0_4) := (blk_cell BK198.out 4).trans rfl; have hfz4_0 := blk_frozen BK198.out 0; have hfz4_1 := blk_frozen BK198.out 1; have hfz4_2 := blk_frozen BK198.out 2; have hfz4_3 := blk_frozen BK198.out 3; have hfz4_4 := blk_frozen BK198.out 4))
    go_ret
    exact ⟨by first | rfl | (simp [errW_none, errW_some] <;> rfl) | (simp [*, errW_none, errW_some] <;> rfl), by repeat (first | (with_reducible first | exact HB.out | apply below_alloc | apply pw_below_drewN | apply below_drew1 | refine below_set ?_ GE198.out) | exact HB.out)⟩
  · rw [if_neg c2] at H
    have c2b0 : decide (8 < (l0_0.length : Int)) = false := decide_eq_false c2
    have c2b1 : decide (8 < l0_0.length) = false := decide_eq_false (by omega)
    clear c2
    have H' := Aside0.mk H
    clear H
    go_enter Try.func10, Try.ntmps10
    go_wp2_with (first | ((with_reducible refine gate_dst (N := 1) rfl ?_); (try (refine gate_guard (by rfl) ?_; dsimp only)); refine box_event ?hg (N := 1) ?hd (cs := #[.slice A0_0 l0_0.length c0_0, .int .i64 a0_1, .int .i64 a0_2, .int .i64 a0_3, .int .i64 a0_4]) (t := 24) ?hr ?_; (case hd => rfl); (case hg => rfl); (case hr => first | (go_simp; done) | (go_simp; rfl)); intro gb198 hg w5 hbox hb; have n0_ := Aside0.mk (below_step (by repeat (first | (with_reducible first | exact HB.out | apply below_alloc | apply pw_below_drewN | apply below_drew1) | exact HB.out)) hb); have n1_ := Aside0.mk (hbox); have n2_ := Aside0.mk ((by rw [hg]; exact (below_size (by repeat (first | (with_reducible first | exact HB.out | apply below_alloc | apply pw_below_drewN | apply below_drew1) | exact HB.out))) : w.heap.size ≤ gb198)); have n3_ := Aside0.mk ((by rw [hg]; exact (below_size (by repeat (first | (with_reducible first | exact HB.out | apply below_alloc | apply pw_below_drewN | apply below_drew1) | exact HB.out))) : w.heap.size ≤ gb198)); clear HB; have HB := n0_; have BK198 := n1_; have GW198 := n2_; have GE198 := n3_; clear n0_ n1_ n2_ n3_; clear hb hbox hg; have hcz6_0 : w5.cell? ⟨gb198, 0, none⟩ = some (.slice A0_0 l0_0.length c0_0) := (blk_cell BK198.out 0).trans rfl; have hcz6_1 : w5.cell? ⟨gb198, 1, none⟩ = some (.int .i64 a0_1) := (blk_cell BK198.out 1).trans rfl; have hcz6_2 : w5.cell? ⟨gb198, 2, none⟩ = some (.int .i64 a0_2) := (blk_cell BK198.out 2).trans rfl; have hcz6_3 : w5.cell? ⟨gb198, 3, none⟩ = some (.int .i64 a0_3) := (blk_cell BK198.out 3).trans rfl; have hcz6_4 : w5.cell? ⟨gb198, 4, none⟩ = some (.int .i64 a0_4) := (blk_cell BK198.out 4).trans rfl; have hfz6_0 := blk_frozen BK198.out 0; have hfz6_1 := blk_frozen BK198.out 1; have hfz6_2 := blk_frozen BK198.out 2; have hfz6_3 := blk_frozen BK198.out 3; have hfz6_4 := blk_frozen BK198.out 4))
    go_loopg [3] k (fun kq v3 w' => ∃ (x3_1 : Int), v3 = .int .i64 x3_1 ∧ Aside0 (towncrierlaw09_Few.l0 kq x3_1 l0_0 a0_1 a0_2 a0_3 a0_4 = some r) ∧ Aside0 (kq ≤ k) ∧ Aside0 (w'.heap[gb198]? = some (.cells #[(.slice A0_0 l0_0.length c0_0), .int .i64 a0_1, .int .i64 a0_2, .int .i64 a0_3, .int .i64 a0_4] 24 (0, 0))) ∧ Aside0 (Below w.heap.size w w'))
    case atStart => exact ⟨(0), (by first | rfl | (simp; done) | (simp [*]; done)), H', ⟨Nat.le_refl _⟩, ⟨by (with_reducible repeat (first | refine blk_drewN ?_ _ | refine blk_drew ?_ | refine blk_alloc ?_ _)); exact BK198.out⟩, ⟨by repeat (first | (with_reducible first | exact HB.out | apply below_alloc | apply pw_below_drewN | apply below_drew1 | refine below_set ?_ GE198.out) | exact HB.out)⟩⟩
    case round =>
      clear H'
      try clear c1
      try clear c2
      try clear c2b0
      try clear c2b1
      try clear p2
      try clear hcz4_0
      try clear hcz4_1
      try clear hcz4_2
      try clear hcz4_3
      try clear hcz4_4
      try clear hcz6_0
      try clear hcz6_1
      try clear hcz6_2
      try clear hcz6_3
      try clear hcz6_4
      try clear hfz4_0
      try clear hfz4_1
      try clear hfz4_2
      try clear hfz4_3
      try clear hfz4_4
      try clear hfz6_0
      try clear hfz6_1
      try clear hfz6_2
      try clear hfz6_3
      try clear hfz6_4
      obtain ⟨x3_1, rfl, HA, HK1, BK198, HB⟩ := hrel
      cases gk with
      | zero => exact absurd HA.out (by simp [towncrierlaw09_Few.l0])
      | succ k1 =>
        have H := HA.out
        clear HA
        simp only [towncrierlaw09_Few.l0] at H
        by_cases c7 : x3_1 < (l0_0.length : Int)
        · rw [if_pos c7] at H
          have c7b0 : decide (x3_1 < (l0_0.length : Int)) = true := decide_eq_true c7
          clear c7
          by_cases c8 : 0 ≤ x3_1
          · rw [if_pos c8] at H
            have c8b0 : decide (0 ≤ x3_1) = true := decide_eq_true c8
            clear c8
            replace H := Option.bind_eq_some_iff.mp H
            obtain ⟨t201, A90, H⟩ := H
            replace H : ((towncrierlaw08_Few.f k1 ((rd_TStep l0_0 x3_1).f6)).bind fun t202 => (if t201 = true then (if t202 = true then (if (((rd_TStep l0_0 x3_1).f0).size : Int) > 60 then (some false) else (if (((rd_TStep l0_0 x3_1).f5).size : Int) > 60 then (some false) else (towncrierlaw09_Few.l0 k1 (wrap64 (x3_1 + 1)) l0_0 a0_1 a0_2 a0_3 a0_4))) else (some false)) else (some false))) = some r := H
            have A9 := Aside0.mk A90
            clear A90
            replace H := Option.bind_eq_some_iff.mp H
            obtain ⟨t202, A100, H⟩ := H
            replace H : (if t201 = true then (if t202 = true then (if (((rd_TStep l0_0 x3_1).f0).size : Int) > 60 then (some false) else (if (((rd_TStep l0_0 x3_1).f5).size : Int) > 60 then (some false) else (towncrierlaw09_Few.l0 k1 (wrap64 (x3_1 + 1)) l0_0 a0_1 a0_2 a0_3 a0_4))) else (some false)) else (some false)) = some r := H
            have A10 := Aside0.mk A100
            clear A100
            by_cases c11 : t201 = true
            · subst c11
              have H1 : (if t202 = true then (if (((rd_TStep l0_0 x3_1).f0).size : Int) > 60 then (some false) else (if (((rd_TStep l0_0 x3_1).f5).size : Int) > 60 then (some false) else (towncrierlaw09_Few.l0 k1 (wrap64 (x3_1 + 1)) l0_0 a0_1 a0_2 a0_3 a0_4))) else (some false)) = some r := by rw [if_pos rfl] at H; exact H
              clear H
              have H := H1
              clear H1
              by_cases c12 : t202 = true
              · subst c12
                have H1 : (if (((rd_TStep l0_0 x3_1).f0).size : Int) > 60 then (some false) else (if (((rd_TStep l0_0 x3_1).f5).size : Int) > 60 then (some false) else (towncrierlaw09_Few.l0 k1 (wrap64 (x3_1 + 1)) l0_0 a0_1 a0_2 a0_3 a0_4))) = some r := by rw [if_pos rfl] at H; exact H
                clear H
                have H := H1
                clear H1
                by_cases c13 : (((rd_TStep l0_0 x3_1).f0).size : Int) > 60
                · rw [if_pos c13] at H
                  have c13b0 : decide (60 < (((rd_TStep l0_0 x3_1).f0).size : Int)) = true := decide_eq_true c13
                  have c13b1 : decide (60 < ((rd_TStep l0_0 x3_1).f0).size) = true := decide_eq_true (by omega)
                  clear c13
                  obtain rfl := Option.some.inj H
                  have hcz14_0 : wr.cell? ⟨gb198, 0, none⟩ = some (.slice A0_0 l0_0.length c0_0) := (blk_cell BK198.out 0).trans rfl
                  have hcz14_1 : wr.cell? ⟨gb198, 1, none⟩ = some (.int .i64 a0_1) := (blk_cell BK198.out 1).trans rfl
                  have hcz14_2 : wr.cell? ⟨gb198, 2, none⟩ = some (.int .i64 a0_2) := (blk_cell BK198.out 2).trans rfl
                  have hcz14_3 : wr.cell? ⟨gb198, 3, none⟩ = some (.int .i64 a0_3) := (blk_cell BK198.out 3).trans rfl
                  have hcz14_4 : wr.cell? ⟨gb198, 4, none⟩ = some (.int .i64 a0_4) := (blk_cell BK198.out 4).trans rfl
                  have hfz14_0 := blk_frozen BK198.out 0
                  have hfz14_1 := blk_frozen BK198.out 1
                  have hfz14_2 := blk_frozen BK198.out 2
                  have hfz14_3 := blk_frozen BK198.out 3
                  have hfz14_4 := blk_frozen BK198.out 4
                  have p199 : 0 ≤ (x3_1 : Int) := of_decide_eq_true (by first | (with_reducible assumption) | assumption)
                  have q199 : x3_1 < (l0_0.length : Int) := of_decide_eq_true (by first | (with_reducible assumption) | assumption)
                  obtain ⟨ad199, A199_1, c199_1, A199_6, c199_6, e199, hx199_0, hx199_1, hx199_2, hx199_3, hx199_4, hx199_5, hx199_6, hl199_1, hi199_1, hl199_6, hi199_6⟩ := at_TStep HR0_0.out x3_1 p199 q199
                  cases e199
                  replace hx199_0 := (HB.out.cell (World.block_lt_of_cell? w _ hx199_0)).trans hx199_0
                  replace hx199_1 := (HB.out.cell (World.block_lt_of_cell? w _ hx199_1)).trans hx199_1
                  replace hx199_2 := (HB.out.cell (World.block_lt_of_cell? w _ hx199_2)).trans hx199_2
                  replace hx199_3 := (HB.out.cell (World.block_lt_of_cell? w _ hx199_3)).trans hx199_3
                  replace hx199_4 := (HB.out.cell (World.block_lt_of_cell? w _ hx199_4)).trans hx199_4
                  replace hx199_5 := (HB.out.cell (World.block_lt_of_cell? w _ hx199_5)).trans hx199_5
                  replace hx199_6 := (HB.out.cell (World.block_lt_of_cell? w _ hx199_6)).trans hx199_6
                  have HR199_1 := Aside0.mk hi199_1
                  have HC199_1 := Aside0.mk hl199_1
                  clear hi199_1 hl199_1
                  have HR199_6 := Aside0.mk hi199_6
                  have HC199_6 := Aside0.mk hl199_6
                  clear hi199_6 hl199_6
                  replace p199 := eq_true p199
                  replace q199 := eq_true q199
                  go_wp2_with (first | ((with_reducible refine gate_dst (N := 4) rfl ?_); (try (refine gate_guard (by rfl) ?_; dsimp only)); refine box_event ?hg (N := 4) ?hd (cs := #[.string (⟨#[]⟩ : ByteArray), .slice none 0 0, .int .i64 0, .int .i64 0, .bool false, .string (⟨#[]⟩ : ByteArray), .slice none 0 0]) (t := 40) ?hr ?_; (case hd => rfl); (case hg => rfl); (case hr => first | (go_simp; done) | (go_simp; rfl)); intro gb200 hg w15 hbox hb; have n0_ := Aside0.mk (blk_below (g := gb198) (o := .cells #[.slice (some ad199) l0_0.length c0_0, .int .i64 a0_1, .int .i64 a0_2, .int .i64 a0_3, .int .i64 a0_4] 24 (0, 0)) (by (with_reducible repeat (first | refine blk_drewN ?_ _ | refine blk_drew ?_ | refine blk_alloc ?_ _)); exact BK198.out) hb); have n1_ := Aside0.mk (below_step (by repeat (first | (with_reducible first | exact HB.out | apply below_alloc | apply pw_below_drewN | apply below_drew1 | refine below_set ?_ GE198.out) | exact HB.out)) hb); have n2_ := Aside0.mk (hbox); have n3_ := Aside0.mk ((by rw [hg]; exact (below_size (by repeat (first | (with_reducible first | exact HB.out | apply below_alloc | apply pw_below_drewN | apply below_drew1 | refine below_set ?_ GE198.out) | exact HB.out))) : w.heap.size ≤ gb200)); have n4_ := Aside0.mk ((by rw [hg]; exact (below_size (by repeat (first | (with_reducible first | exact HB.out | apply below_alloc | apply pw_below_drewN | apply below_drew1 | refine below_set ?_ GE198.out) | exact HB.out))) : w.heap.size ≤ gb200)); have n5_ := Aside0.mk ((by rw [hg]; exact Nat.ne_of_lt (blk_lt (g := gb198) (o := .cells #[.slice (some ad199) l0_0.length c0_0, .int .i64 a0_1, .int .i64 a0_2, .int .i64 a0_3, .int .i64 a0_4] 24 (0, 0)) (by (with_reducible repeat (first | refine blk_drewN ?_ _ | refine blk_drew ?_ | refine blk_alloc ?_ _)); exact BK198.out)) : gb198 ≠ gb200)); have n6_ := Aside0.mk ((by rw [hg]; exact Nat.ne_of_gt (blk_lt (g := gb198) (o := .cells #[.slice (some ad199) l0_0.length c0_0, .int .i64 a0_1, .int .i64 a0_2, .int .i64 a0_3, .int .i64 a0_4] 24 (0, 0)) (by (with_reducible repeat (first | refine blk_drewN ?_ _ | refine blk_drew ?_ | refine blk_alloc ?_ _)); exact BK198.out)) : gb200 ≠ gb198)); clear BK198; clear HB; have BK198 := n0_; have HB := n1_; have BK200 := n2_; have GW200 := n3_; have GE200 := n4_; have NB198_200 := n5_; have NB200_198 := n6_; clear n0_ n1_ n2_ n3_ n4_ n5_ n6_; clear hb hbox hg; have hnb16 := NB200_198.out; have hnc16 := NB198_200.out; have hcz17_0 : w15.cell? ⟨gb200, 0, none⟩ = some (.string (⟨#[]⟩ : ByteArray)) := (blk_cell BK200.out 0).trans rfl; have hcz17_1 : w15.cell? ⟨gb200, 1, none⟩ = some (.slice none 0 0) := (blk_cell BK200.out 1).trans rfl; have hcz17_2 : w15.cell? ⟨gb200, 2, none⟩ = some (.int .i64 0) := (blk_cell BK200.out 2).trans rfl; have hcz17_3 : w15.cell? ⟨gb200, 3, none⟩ = some (.int .i64 0) := (blk_cell BK200.out 3).trans rfl; have hcz17_4 : w15.cell? ⟨gb200, 4, none⟩ = some (.bool false) := (blk_cell BK200.out 4).trans rfl; have hcz17_5 : w15.cell? ⟨gb200, 5, none⟩ = some (.string (⟨#[]⟩ : ByteArray)) := (blk_cell BK200.out 5).trans rfl; have hcz17_6 : w15.cell? ⟨gb200, 6, none⟩ = some (.slice none 0 0) := (blk_cell BK200.out 6).trans rfl; have hfz17_0 := blk_frozen BK200.out 0; have hfz17_1 := blk_frozen BK200.out 1; have hfz17_2 := blk_frozen BK200.out 2; have hfz17_3 := blk_frozen BK200.out 3; have hfz17_4 := blk_frozen BK200.out 4; have hfz17_5 := blk_frozen BK200.out 5; have hfz17_6 := blk_frozen BK200.out 6) | ((with_reducible refine gate_callee (f := 20) rfl ?_); refine goesL_ (some 25) rfl rfl Try.func20 (by kernel_rfl) rfl #[.slice A199_1 ((rd_TStep l0_0 x3_1).f1).length c199_1] rfl (by (try simp only [List.map_toArray, List.map_cons, List.map_nil]); first | done | rfl | (simp only [List.length_drop, List.length_take]; rfl)) ?_; (with_reducible refine (towncrierlaw08_Few.calls k1 _ _ ((rd_TStep l0_0 x3_1).f1) true _ ?side1 ?side2 A9.out).mono ?_); (case side1 => exact Kd.C_below HR199_1.out (by repeat (first | (with_reducible first | exact HB.out | apply below_alloc | apply pw_below_drewN | apply below_drew1 | refine below_set ?_ GE198.out | refine below_set ?_ GE200.out) | exact HB.out))); (case side2 => exact HC199_1.out); rintro e w' ⟨rfl, ⟨nd, rfl⟩⟩; refine ⟨_, rfl, ?_⟩) | ((with_reducible refine gate_callee (f := 20) rfl ?_); refine goesL_ (some 28) rfl rfl Try.func20 (by kernel_rfl) rfl #[.slice A199_6 ((rd_TStep l0_0 x3_1).f6).length c199_6] rfl (by (try simp only [List.map_toArray, List.map_cons, List.map_nil]); first | done | rfl | (simp only [List.length_drop, List.length_take]; rfl)) ?_; (with_reducible refine (towncrierlaw08_Few.calls k1 _ _ ((rd_TStep l0_0 x3_1).f6) true _ ?side1 ?side2 A10.out).mono ?_); (case side1 => exact Kd.C_below HR199_6.out (by repeat (first | (with_reducible first | exact HB.out | apply below_alloc | apply pw_below_drewN | apply below_drew1 | refine below_set ?_ GE198.out | refine below_set ?_ GE200.out) | exact HB.out))); (case side2 => exact HC199_6.out); rintro e w' ⟨rfl, ⟨nd, rfl⟩⟩; refine ⟨_, rfl, ?_⟩))
                  go_ret
                  exact ⟨by first | rfl | (simp [errW_none, errW_some] <;> rfl) | (simp [*, errW_none, errW_some] <;> rfl), by repeat (first | (with_reducible first | exact HB.out | apply below_alloc | apply pw_below_drewN | apply below_drew1 | refine below_set ?_ GE198.out | refine below_set ?_ GE200.out) | exact HB.out)⟩
                · rw [if_neg c13] at H
                  have c13b0 : decide (60 < (((rd_TStep l0_0 x3_1).f0).size : Int)) = false := decide_eq_false c13
                  have c13b1 : decide (60 < ((rd_TStep l0_0 x3_1).f0).size) = false := decide_eq_false (by omega)
                  clear c13
                  by_cases c18 : (((rd_TStep l0_0 x3_1).f5).size : Int) > 60
                  · rw [if_pos c18] at H
                    have c18b0 : decide (60 < (((rd_TStep l0_0 x3_1).f5).size : Int)) = true := decide_eq_true c18
                    have c18b1 : decide (60 < ((rd_TStep l0_0 x3_1).f5).size) = true := decide_eq_true (by omega)
                    clear c18
                    obtain rfl := Option.some.inj H
                    have hcz19_0 : wr.cell? ⟨gb198, 0, none⟩ = some (.slice A0_0 l0_0.length c0_0) := (blk_cell BK198.out 0).trans rfl
                    have hcz19_1 : wr.cell? ⟨gb198, 1, none⟩ = some (.int .i64 a0_1) := (blk_cell BK198.out 1).trans rfl
                    have hcz19_2 : wr.cell? ⟨gb198, 2, none⟩ = some (.int .i64 a0_2) := (blk_cell BK198.out 2).trans rfl
                    have hcz19_3 : wr.cell? ⟨gb198, 3, none⟩ = some (.int .i64 a0_3) := (blk_cell BK198.out 3).trans rfl
                    have hcz19_4 : wr.cell? ⟨gb198, 4, none⟩ = some (.int .i64 a0_4) := (blk_cell BK198.out 4).trans rfl
                    have hfz19_0 := blk_frozen BK198.out 0
                    have hfz19_1 := blk_frozen BK198.out 1
                    have hfz19_2 := blk_frozen BK198.out 2
                    have hfz19_3 := blk_frozen BK198.out 3
                    have hfz19_4 := blk_frozen BK198.out 4
                    have p199 : 0 ≤ (x3_1 : Int) := of_decide_eq_true (by first | (with_reducible assumption) | assumption)
                    have q199 : x3_1 < (l0_0.length : Int) := of_decide_eq_true (by first | (with_reducible assumption) | assumption)
                    obtain ⟨ad199, A199_1, c199_1, A199_6, c199_6, e199, hx199_0, hx199_1, hx199_2, hx199_3, hx199_4, hx199_5, hx199_6, hl199_1, hi199_1, hl199_6, hi199_6⟩ := at_TStep HR0_0.out x3_1 p199 q199
                    cases e199
                    replace hx199_0 := (HB.out.cell (World.block_lt_of_cell? w _ hx199_0)).trans hx199_0
                    replace hx199_1 := (HB.out.cell (World.block_lt_of_cell? w _ hx199_1)).trans hx199_1
                    replace hx199_2 := (HB.out.cell (World.block_lt_of_cell? w _ hx199_2)).trans hx199_2
                    replace hx199_3 := (HB.out.cell (World.block_lt_of_cell? w _ hx199_3)).trans hx199_3
                    replace hx199_4 := (HB.out.cell (World.block_lt_of_cell? w _ hx199_4)).trans hx199_4
                    replace hx199_5 := (HB.out.cell (World.block_lt_of_cell? w _ hx199_5)).trans hx199_5
                    replace hx199_6 := (HB.out.cell (World.block_lt_of_cell? w _ hx199_6)).trans hx199_6
                    have HR199_1 := Aside0.mk hi199_1
                    have HC199_1 := Aside0.mk hl199_1
                    clear hi199_1 hl199_1
                    have HR199_6 := Aside0.mk hi199_6
                    have HC199_6 := Aside0.mk hl199_6
                    clear hi199_6 hl199_6
                    replace p199 := eq_true p199
                    replace q199 := eq_true q199
                    go_wp2_with (first | ((with_reducible refine gate_dst (N := 4) rfl ?_); (try (refine gate_guard (by rfl) ?_; dsimp only)); refine box_event ?hg (N := 4) ?hd (cs := #[.string (⟨#[]⟩ : ByteArray), .slice none 0 0, .int .i64 0, .int .i64 0, .bool false, .string (⟨#[]⟩ : ByteArray), .slice none 0 0]) (t := 40) ?hr ?_; (case hd => rfl); (case hg => rfl); (case hr => first | (go_simp; done) | (go_simp; rfl)); intro gb200 hg w20 hbox hb; have n0_ := Aside0.mk (blk_below (g := gb198) (o := .cells #[.slice (some ad199) l0_0.length c0_0, .int .i64 a0_1, .int .i64 a0_2, .int .i64 a0_3, .int .i64 a0_4] 24 (0, 0)) (by (with_reducible repeat (first | refine blk_drewN ?_ _ | refine blk_drew ?_ | refine blk_alloc ?_ _)); exact BK198.out) hb); have n1_ := Aside0.mk (below_step (by repeat (first | (with_reducible first | exact HB.out | apply below_alloc | apply pw_below_drewN | apply below_drew1 | refine below_set ?_ GE198.out) | exact HB.out)) hb); have n2_ := Aside0.mk (hbox); have n3_ := Aside0.mk ((by rw [hg]; exact (below_size (by repeat (first | (with_reducible first | exact HB.out | apply below_alloc | apply pw_below_drewN | apply below_drew1 | refine below_set ?_ GE198.out) | exact HB.out))) : w.heap.size ≤ gb200)); have n4_ := Aside0.mk ((by rw [hg]; exact (below_size (by repeat (first | (with_reducible first | exact HB.out | apply below_alloc | apply pw_below_drewN | apply below_drew1 | refine below_set ?_ GE198.out) | exact HB.out))) : w.heap.size ≤ gb200)); have n5_ := Aside0.mk ((by rw [hg]; exact Nat.ne_of_lt (blk_lt (g := gb198) (o := .cells #[.slice (some ad199) l0_0.length c0_0, .int .i64 a0_1, .int .i64 a0_2, .int .i64 a0_3, .int .i64 a0_4] 24 (0, 0)) (by (with_reducible repeat (first | refine blk_drewN ?_ _ | refine blk_drew ?_ | refine blk_alloc ?_ _)); exact BK198.out)) : gb198 ≠ gb200)); have n6_ := Aside0.mk ((by rw [hg]; exact Nat.ne_of_gt (blk_lt (g := gb198) (o := .cells #[.slice (some ad199) l0_0.length c0_0, .int .i64 a0_1, .int .i64 a0_2, .int .i64 a0_3, .int .i64 a0_4] 24 (0, 0)) (by (with_reducible repeat (first | refine blk_drewN ?_ _ | refine blk_drew ?_ | refine blk_alloc ?_ _)); exact BK198.out)) : gb200 ≠ gb198)); clear BK198; clear HB; have BK198 := n0_; have HB := n1_; have BK200 := n2_; have GW200 := n3_; have GE200 := n4_; have NB198_200 := n5_; have NB200_198 := n6_; clear n0_ n1_ n2_ n3_ n4_ n5_ n6_; clear hb hbox hg; have hnb21 := NB200_198.out; have hnc21 := NB198_200.out; have hcz22_0 : w20.cell? ⟨gb200, 0, none⟩ = some (.string (⟨#[]⟩ : ByteArray)) := (blk_cell BK200.out 0).trans rfl; have hcz22_1 : w20.cell? ⟨gb200, 1, none⟩ = some (.slice none 0 0) := (blk_cell BK200.out 1).trans rfl; have hcz22_2 : w20.cell? ⟨gb200, 2, none⟩ = some (.int .i64 0) := (blk_cell BK200.out 2).trans rfl; have hcz22_3 : w20.cell? ⟨gb200, 3, none⟩ = some (.int .i64 0) := (blk_cell BK200.out 3).trans rfl; have hcz22_4 : w20.cell? ⟨gb200, 4, none⟩ = some (.bool false) := (blk_cell BK200.out 4).trans rfl; have hcz22_5 : w20.cell? ⟨gb200, 5, none⟩ = some (.string (⟨#[]⟩ : ByteArray)) := (blk_cell BK200.out 5).trans rfl; have hcz22_6 : w20.cell? ⟨gb200, 6, none⟩ = some (.slice none 0 0) := (blk_cell BK200.out 6).trans rfl; have hfz22_0 := blk_frozen BK200.out 0; have hfz22_1 := blk_frozen BK200.out 1; have hfz22_2 := blk_frozen BK200.out 2; have hfz22_3 := blk_frozen BK200.out 3; have hfz22_4 := blk_frozen BK200.out 4; have hfz22_5 := blk_frozen BK200.out 5; have hfz22_6 := blk_frozen BK200.out 6) | ((with_reducible refine gate_callee (f := 20) rfl ?_); refine goesL_ (some 25) rfl rfl Try.func20 (by kernel_rfl) rfl #[.slice A199_1 ((rd_TStep l0_0 x3_1).f1).length c199_1] rfl (by (try simp only [List.map_toArray, List.map_cons, List.map_nil]); first | done | rfl | (simp only [List.length_drop, List.length_take]; rfl)) ?_; (with_reducible refine (towncrierlaw08_Few.calls k1 _ _ ((rd_TStep l0_0 x3_1).f1) true _ ?side1 ?side2 A9.out).mono ?_); (case side1 => exact Kd.C_below HR199_1.out (by repeat (first | (with_reducible first | exact HB.out | apply below_alloc | apply pw_below_drewN | apply below_drew1 | refine below_set ?_ GE198.out | refine below_set ?_ GE200.out) | exact HB.out))); (case side2 => exact HC199_1.out); rintro e w' ⟨rfl, ⟨nd, rfl⟩⟩; refine ⟨_, rfl, ?_⟩) | ((with_reducible refine gate_callee (f := 20) rfl ?_); refine goesL_ (some 28) rfl rfl Try.func20 (by kernel_rfl) rfl #[.slice A199_6 ((rd_TStep l0_0 x3_1).f6).length c199_6] rfl (by (try simp only [List.map_toArray, List.map_cons, List.map_nil]); first | done | rfl | (simp only [List.length_drop, List.length_take]; rfl)) ?_; (with_reducible refine (towncrierlaw08_Few.calls k1 _ _ ((rd_TStep l0_0 x3_1).f6) true _ ?side1 ?side2 A10.out).mono ?_); (case side1 => exact Kd.C_below HR199_6.out (by repeat (first | (with_reducible first | exact HB.out | apply below_alloc | apply pw_below_drewN | apply below_drew1 | refine below_set ?_ GE198.out | refine below_set ?_ GE200.out) | exact HB.out))); (case side2 => exact HC199_6.out); rintro e w' ⟨rfl, ⟨nd, rfl⟩⟩; refine ⟨_, rfl, ?_⟩))
                    go_ret
                    exact ⟨by first | rfl | (simp [errW_none, errW_some] <;> rfl) | (simp [*, errW_none, errW_some] <;> rfl), by repeat (first | (with_reducible first | exact HB.out | apply below_alloc | apply pw_below_drewN | apply below_drew1 | refine below_set ?_ GE198.out | refine below_set ?_ GE200.out) | exact HB.out)⟩
                  · rw [if_neg c18] at H
                    have c18b0 : decide (60 < (((rd_TStep l0_0 x3_1).f5).size : Int)) = false := decide_eq_false c18
                    have c18b1 : decide (60 < ((rd_TStep l0_0 x3_1).f5).size) = false := decide_eq_false (by omega)
                    clear c18
                    have H' := Aside0.mk H
                    clear H
                    have hcz23_0 : wr.cell? ⟨gb198, 0, none⟩ = some (.slice A0_0 l0_0.length c0_0) := (blk_cell BK198.out 0).trans rfl
                    have hcz23_1 : wr.cell? ⟨gb198, 1, none⟩ = some (.int .i64 a0_1) := (blk_cell BK198.out 1).trans rfl
                    have hcz23_2 : wr.cell? ⟨gb198, 2, none⟩ = some (.int .i64 a0_2) := (blk_cell BK198.out 2).trans rfl
                    have hcz23_3 : wr.cell? ⟨gb198, 3, none⟩ = some (.int .i64 a0_3) := (blk_cell BK198.out 3).trans rfl
                    have hcz23_4 : wr.cell? ⟨gb198, 4, none⟩ = some (.int .i64 a0_4) := (blk_cell BK198.out 4).trans rfl
                    have hfz23_0 := blk_frozen BK198.out 0
                    have hfz23_1 := blk_frozen BK198.out 1
                    have hfz23_2 := blk_frozen BK198.out 2
                    have hfz23_3 := blk_frozen BK198.out 3
                    have hfz23_4 := blk_frozen BK198.out 4
                    have p199 : 0 ≤ (x3_1 : Int) := of_decide_eq_true (by first | (with_reducible assumption) | assumption)
                    have q199 : x3_1 < (l0_0.length : Int) := of_decide_eq_true (by first | (with_reducible assumption) | assumption)
                    obtain ⟨ad199, A199_1, c199_1, A199_6, c199_6, e199, hx199_0, hx199_1, hx199_2, hx199_3, hx199_4, hx199_5, hx199_6, hl199_1, hi199_1, hl199_6, hi199_6⟩ := at_TStep HR0_0.out x3_1 p199 q199
                    cases e199
                    replace hx199_0 := (HB.out.cell (World.block_lt_of_cell? w _ hx199_0)).trans hx199_0
                    replace hx199_1 := (HB.out.cell (World.block_lt_of_cell? w _ hx199_1)).trans hx199_1
                    replace hx199_2 := (HB.out.cell (World.block_lt_of_cell? w _ hx199_2)).trans hx199_2
                    replace hx199_3 := (HB.out.cell (World.block_lt_of_cell? w _ hx199_3)).trans hx199_3
                    replace hx199_4 := (HB.out.cell (World.block_lt_of_cell? w _ hx199_4)).trans hx199_4
                    replace hx199_5 := (HB.out.cell (World.block_lt_of_cell? w _ hx199_5)).trans hx199_5
                    replace hx199_6 := (HB.out.cell (World.block_lt_of_cell? w _ hx199_6)).trans hx199_6
                    have HR199_1 := Aside0.mk hi199_1
                    have HC199_1 := Aside0.mk hl199_1
                    clear hi199_1 hl199_1
                    have HR199_6 := Aside0.mk hi199_6
                    have HC199_6 := Aside0.mk hl199_6
                    clear hi199_6 hl199_6
                    replace p199 := eq_true p199
                    replace q199 := eq_true q199
                    go_wp2_with (first | ((with_reducible refine gate_dst (N := 4) rfl ?_); (try (refine gate_guard (by rfl) ?_; dsimp only)); refine box_event ?hg (N := 4) ?hd (cs := #[.string (⟨#[]⟩ : ByteArray), .slice none 0 0, .int .i64 0, .int .i64 0, .bool false, .string (⟨#[]⟩ : ByteArray), .slice none 0 0]) (t := 40) ?hr ?_; (case hd => rfl); (case hg => rfl); (case hr => first | (go_simp; done) | (go_simp; rfl)); intro gb200 hg w24 hbox hb; have n0_ := Aside0.mk (blk_below (g := gb198) (o := .cells #[.slice (some ad199) l0_0.length c0_0, .int .i64 a0_1, .int .i64 a0_2, .int .i64 a0_3, .int .i64 a0_4] 24 (0, 0)) (by (with_reducible repeat (first | refine blk_drewN ?_ _ | refine blk_drew ?_ | refine blk_alloc ?_ _)); exact BK198.out) hb); have n1_ := Aside0.mk (below_step (by repeat (first | (with_reducible first | exact HB.out | apply below_alloc | apply pw_below_drewN | apply below_drew1 | refine below_set ?_ GE198.out) | exact HB.out)) hb); have n2_ := Aside0.mk (hbox); have n3_ := Aside0.mk ((by rw [hg]; exact (below_size (by repeat (first | (with_reducible first | exact HB.out | apply below_alloc | apply pw_below_drewN | apply below_drew1 | refine below_set ?_ GE198.out) | exact HB.out))) : w.heap.size ≤ gb200)); have n4_ := Aside0.mk ((by rw [hg]; exact (below_size (by repeat (first | (with_reducible first | exact HB.out | apply below_alloc | apply pw_below_drewN | apply below_drew1 | refine below_set ?_ GE198.out) | exact HB.out))) : w.heap.size ≤ gb200)); have n5_ := Aside0.mk ((by rw [hg]; exact Nat.ne_of_lt (blk_lt (g := gb198) (o := .cells #[.slice (some ad199) l0_0.length c0_0, .int .i64 a0_1, .int .i64 a0_2, .int .i64 a0_3, .int .i64 a0_4] 24 (0, 0)) (by (with_reducible repeat (first | refine blk_drewN ?_ _ | refine blk_drew ?_ | refine blk_alloc ?_ _)); exact BK198.out)) : gb198 ≠ gb200)); have n6_ := Aside0.mk ((by rw [hg]; exact Nat.ne_of_gt (blk_lt (g := gb198) (o := .cells #[.slice (some ad199) l0_0.length c0_0, .int .i64 a0_1, .int .i64 a0_2, .int .i64 a0_3, .int .i64 a0_4] 24 (0, 0)) (by (with_reducible repeat (first | refine blk_drewN ?_ _ | refine blk_drew ?_ | refine blk_alloc ?_ _)); exact BK198.out)) : gb200 ≠ gb198)); clear BK198; clear HB; have BK198 := n0_; have HB := n1_; have BK200 := n2_; have GW200 := n3_; have GE200 := n4_; have NB198_200 := n5_; have NB200_198 := n6_; clear n0_ n1_ n2_ n3_ n4_ n5_ n6_; clear hb hbox hg; have hnb25 := NB200_198.out; have hnc25 := NB198_200.out; have hcz26_0 : w24.cell? ⟨gb200, 0, none⟩ = some (.string (⟨#[]⟩ : ByteArray)) := (blk_cell BK200.out 0).trans rfl; have hcz26_1 : w24.cell? ⟨gb200, 1, none⟩ = some (.slice none 0 0) := (blk_cell BK200.out 1).trans rfl; have hcz26_2 : w24.cell? ⟨gb200, 2, none⟩ = some (.int .i64 0) := (blk_cell BK200.out 2).trans rfl; have hcz26_3 : w24.cell? ⟨gb200, 3, none⟩ = some (.int .i64 0) := (blk_cell BK200.out 3).trans rfl; have hcz26_4 : w24.cell? ⟨gb200, 4, none⟩ = some (.bool false) := (blk_cell BK200.out 4).trans rfl; have hcz26_5 : w24.cell? ⟨gb200, 5, none⟩ = some (.string (⟨#[]⟩ : ByteArray)) := (blk_cell BK200.out 5).trans rfl; have hcz26_6 : w24.cell? ⟨gb200, 6, none⟩ = some (.slice none 0 0) := (blk_cell BK200.out 6).trans rfl; have hfz26_0 := blk_frozen BK200.out 0; have hfz26_1 := blk_frozen BK200.out 1; have hfz26_2 := blk_frozen BK200.out 2; have hfz26_3 := blk_frozen BK200.out 3; have hfz26_4 := blk_frozen BK200.out 4; have hfz26_5 := blk_frozen BK200.out 5; have hfz26_6 := blk_frozen BK200.out 6) | ((with_reducible refine gate_callee (f := 20) rfl ?_); refine goesL_ (some 25) rfl rfl Try.func20 (by kernel_rfl) rfl #[.slice A199_1 ((rd_TStep l0_0 x3_1).f1).length c199_1] rfl (by (try simp only [List.map_toArray, List.map_cons, List.map_nil]); first | done | rfl | (simp only [List.length_drop, List.length_take]; rfl)) ?_; (with_reducible refine (towncrierlaw08_Few.calls k1 _ _ ((rd_TStep l0_0 x3_1).f1) true _ ?side1 ?side2 A9.out).mono ?_); (case side1 => exact Kd.C_below HR199_1.out (by repeat (first | (with_reducible first | exact HB.out | apply below_alloc | apply pw_below_drewN | apply below_drew1 | refine below_set ?_ GE198.out | refine below_set ?_ GE200.out) | exact HB.out))); (case side2 => exact HC199_1.out); rintro e w' ⟨rfl, ⟨nd, rfl⟩⟩; refine ⟨_, rfl, ?_⟩) | ((with_reducible refine gate_callee (f := 20) rfl ?_); refine goesL_ (some 28) rfl rfl Try.func20 (by kernel_rfl) rfl #[.slice A199_6 ((rd_TStep l0_0 x3_1).f6).length c199_6] rfl (by (try simp only [List.map_toArray, List.map_cons, List.map_nil]); first | done | rfl | (simp only [List.length_drop, List.length_take]; rfl)) ?_; (with_reducible refine (towncrierlaw08_Few.calls k1 _ _ ((rd_TStep l0_0 x3_1).f6) true _ ?side1 ?side2 A10.out).mono ?_); (case side1 => exact Kd.C_below HR199_6.out (by repeat (first | (with_reducible first | exact HB.out | apply below_alloc | apply pw_below_drewN | apply below_drew1 | refine below_set ?_ GE198.out | refine below_set ?_ GE200.out) | exact HB.out))); (case side2 => exact HC199_6.out); rintro e w' ⟨rfl, ⟨nd, rfl⟩⟩; refine ⟨_, rfl, ?_⟩))
                    go_roundg k1
                    case measure => have := HK1.out; omega
                    case rel => exact ⟨(wrap64 (x3_1 + 1)), (by first | rfl | (simp; done) | (simp [*]; done)), H', ⟨by have := HK1.out; omega⟩, ⟨by (with_reducible repeat (first | refine blk_drewN ?_ _ | refine blk_drew ?_ | refine blk_alloc ?_ _)); refine blk_far ?_ NB198_200.out _; (with_reducible repeat (first | refine blk_drewN ?_ _ | refine blk_drew ?_ | refine blk_alloc ?_ _)); refine blk_far ?_ NB198_200.out _; (with_reducible repeat (first | refine blk_drewN ?_ _ | refine blk_drew ?_ | refine blk_alloc ?_ _)); refine blk_far ?_ NB198_200.out _; (with_reducible repeat (first | refine blk_drewN ?_ _ | refine blk_drew ?_ | refine blk_alloc ?_ _)); refine blk_far ?_ NB198_200.out _; (with_reducible repeat (first | refine blk_drewN ?_ _ | refine blk_drew ?_ | refine blk_alloc ?_ _)); refine blk_far ?_ NB198_200.out _; (with_reducible repeat (first | refine blk_drewN ?_ _ | refine blk_drew ?_ | refine blk_alloc ?_ _)); refine blk_far ?_ NB198_200.out _; (with_reducible repeat (first | refine blk_drewN ?_ _ | refine blk_drew ?_ | refine blk_alloc ?_ _)); refine blk_far ?_ NB198_200.out _; (with_reducible repeat (first | refine blk_drewN ?_ _ | refine blk_drew ?_ | refine blk_alloc ?_ _)); exact BK198.out⟩, ⟨by repeat (first | (with_reducible first | exact HB.out | apply below_alloc | apply pw_below_drewN | apply below_drew1 | refine below_set ?_ GE198.out | refine below_set ?_ GE200.out) | exact HB.out)⟩⟩
              · replace c12 := Bool.eq_false_iff.mpr c12
                subst c12
                have H1 : (some false) = some r := by rw [if_neg (show ¬ (false = true) by decide)] at H; exact H
                clear H
                have H := H1
                clear H1
                obtain rfl := Option.some.inj H
                have hcz27_0 : wr.cell? ⟨gb198, 0, none⟩ = some (.slice A0_0 l0_0.length c0_0) := (blk_cell BK198.out 0).trans rfl
                have hcz27_1 : wr.cell? ⟨gb198, 1, none⟩ = some (.int .i64 a0_1) := (blk_cell BK198.out 1).trans rfl
                have hcz27_2 : wr.cell? ⟨gb198, 2, none⟩ = some (.int .i64 a0_2) := (blk_cell BK198.out 2).trans rfl
                have hcz27_3 : wr.cell? ⟨gb198, 3, none⟩ = some (.int .i64 a0_3) := (blk_cell BK198.out 3).trans rfl
                have hcz27_4 : wr.cell? ⟨gb198, 4, none⟩ = some (.int .i64 a0_4) := (blk_cell BK198.out 4).trans rfl
                have hfz27_0 := blk_frozen BK198.out 0
                have hfz27_1 := blk_frozen BK198.out 1
                have hfz27_2 := blk_frozen BK198.out 2
                have hfz27_3 := blk_frozen BK198.out 3
                have hfz27_4 := blk_frozen BK198.out 4
                have p199 : 0 ≤ (x3_1 : Int) := of_decide_eq_true (by first | (with_reducible assumption) | assumption)
                have q199 : x3_1 < (l0_0.length : Int) := of_decide_eq_true (by first | (with_reducible assumption) | assumption)
                obtain ⟨ad199, A199_1, c199_1, A199_6, c199_6, e199, hx199_0, hx199_1, hx199_2, hx199_3, hx199_4, hx199_5, hx199_6, hl199_1, hi199_1, hl199_6, hi199_6⟩ := at_TStep HR0_0.out x3_1 p199 q199
                cases e199
                replace hx199_0 := (HB.out.cell (World.block_lt_of_cell? w _ hx199_0)).trans hx199_0
                replace hx199_1 := (HB.out.cell (World.block_lt_of_cell? w _ hx199_1)).trans hx199_1
                replace hx199_2 := (HB.out.cell (World.block_lt_of_cell? w _ hx199_2)).trans hx199_2
                replace hx199_3 := (HB.out.cell (World.block_lt_of_cell? w _ hx199_3)).trans hx199_3
                replace hx199_4 := (HB.out.cell (World.block_lt_of_cell? w _ hx199_4)).trans hx199_4
                replace hx199_5 := (HB.out.cell (World.block_lt_of_cell? w _ hx199_5)).trans hx199_5
                replace hx199_6 := (HB.out.cell (World.block_lt_of_cell? w _ hx199_6)).trans hx199_6
                have HR199_1 := Aside0.mk hi199_1
                have HC199_1 := Aside0.mk hl199_1
                clear hi199_1 hl199_1
                have HR199_6 := Aside0.mk hi199_6
                have HC199_6 := Aside0.mk hl199_6
                clear hi199_6 hl199_6
                replace p199 := eq_true p199
                replace q199 := eq_true q199
                go_wp2_with (first | ((with_reducible refine gate_dst (N := 4) rfl ?_); (try (refine gate_guard (by rfl) ?_; dsimp only)); refine box_event ?hg (N := 4) ?hd (cs := #[.string (⟨#[]⟩ : ByteArray), .slice none 0 0, .int .i64 0, .int .i64 0, .bool false, .string (⟨#[]⟩ : ByteArray), .slice none 0 0]) (t := 40) ?hr ?_; (case hd => rfl); (case hg => rfl); (case hr => first | (go_simp; done) | (go_simp; rfl)); intro gb200 hg w28 hbox hb; have n0_ := Aside0.mk (blk_below (g := gb198) (o := .cells #[.slice (some ad199) l0_0.length c0_0, .int .i64 a0_1, .int .i64 a0_2, .int .i64 a0_3, .int .i64 a0_4] 24 (0, 0)) (by (with_reducible repeat (first | refine blk_drewN ?_ _ | refine blk_drew ?_ | refine blk_alloc ?_ _)); exact BK198.out) hb); have n1_ := Aside0.mk (below_step (by repeat (first | (with_reducible first | exact HB.out | apply below_alloc | apply pw_below_drewN | apply below_drew1 | refine below_set ?_ GE198.out) | exact HB.out)) hb); have n2_ := Aside0.mk (hbox); have n3_ := Aside0.mk ((by rw [hg]; exact (below_size (by repeat (first | (with_reducible first | exact HB.out | apply below_alloc | apply pw_below_drewN | apply below_drew1 | refine below_set ?_ GE198.out) | exact HB.out))) : w.heap.size ≤ gb200)); have n4_ := Aside0.mk ((by rw [hg]; exact (below_size (by repeat (first | (with_reducible first | exact HB.out | apply below_alloc | apply pw_below_drewN | apply below_drew1 | refine below_set ?_ GE198.out) | exact HB.out))) : w.heap.size ≤ gb200)); have n5_ := Aside0.mk ((by rw [hg]; exact Nat.ne_of_lt (blk_lt (g := gb198) (o := .cells #[.slice (some ad199) l0_0.length c0_0, .int .i64 a0_1, .int .i64 a0_2, .int .i64 a0_3, .int .i64 a0_4] 24 (0, 0)) (by (with_reducible repeat (first | refine blk_drewN ?_ _ | refine blk_drew ?_ | refine blk_alloc ?_ _)); exact BK198.out)) : gb198 ≠ gb200)); have n6_ := Aside0.mk ((by rw [hg]; exact Nat.ne_of_gt (blk_lt (g := gb198) (o := .cells #[.slice (some ad199) l0_0.length c0_0, .int .i64 a0_1, .int .i64 a0_2, .int .i64 a0_3, .int .i64 a0_4] 24 (0, 0)) (by (with_reducible repeat (first | refine blk_drewN ?_ _ | refine blk_drew ?_ | refine blk_alloc ?_ _)); exact BK198.out)) : gb200 ≠ gb198)); clear BK198; clear HB; have BK198 := n0_; have HB := n1_; have BK200 := n2_; have GW200 := n3_; have GE200 := n4_; have NB198_200 := n5_; have NB200_198 := n6_; clear n0_ n1_ n2_ n3_ n4_ n5_ n6_; clear hb hbox hg; have hnb29 := NB200_198.out; have hnc29 := NB198_200.out; have hcz30_0 : w28.cell? ⟨gb200, 0, none⟩ = some (.string (⟨#[]⟩ : ByteArray)) := (blk_cell BK200.out 0).trans rfl; have hcz30_1 : w28.cell? ⟨gb200, 1, none⟩ = some (.slice none 0 0) := (blk_cell BK200.out 1).trans rfl; have hcz30_2 : w28.cell? ⟨gb200, 2, none⟩ = some (.int .i64 0) := (blk_cell BK200.out 2).trans rfl; have hcz30_3 : w28.cell? ⟨gb200, 3, none⟩ = some (.int .i64 0) := (blk_cell BK200.out 3).trans rfl; have hcz30_4 : w28.cell? ⟨gb200, 4, none⟩ = some (.bool false) := (blk_cell BK200.out 4).trans rfl; have hcz30_5 : w28.cell? ⟨gb200, 5, none⟩ = some (.string (⟨#[]⟩ : ByteArray)) := (blk_cell BK200.out 5).trans rfl; have hcz30_6 : w28.cell? ⟨gb200, 6, none⟩ = some (.slice none 0 0) := (blk_cell BK200.out 6).trans rfl; have hfz30_0 := blk_frozen BK200.out 0; have hfz30_1 := blk_frozen BK200.out 1; have hfz30_2 := blk_frozen BK200.out 2; have hfz30_3 := blk_frozen BK200.out 3; have hfz30_4 := blk_frozen BK200.out 4; have hfz30_5 := blk_frozen BK200.out 5; have hfz30_6 := blk_frozen BK200.out 6) | ((with_reducible refine gate_callee (f := 20) rfl ?_); refine goesL_ (some 25) rfl rfl Try.func20 (by kernel_rfl) rfl #[.slice A199_1 ((rd_TStep l0_0 x3_1).f1).length c199_1] rfl (by (try simp only [List.map_toArray, List.map_cons, List.map_nil]); first | done | rfl | (simp only [List.length_drop, List.length_take]; rfl)) ?_; (with_reducible refine (towncrierlaw08_Few.calls k1 _ _ ((rd_TStep l0_0 x3_1).f1) true _ ?side1 ?side2 A9.out).mono ?_); (case side1 => exact Kd.C_below HR199_1.out (by repeat (first | (with_reducible first | exact HB.out | apply below_alloc | apply pw_below_drewN | apply below_drew1 | refine below_set ?_ GE198.out | refine below_set ?_ GE200.out) | exact HB.out))); (case side2 => exact HC199_1.out); rintro e w' ⟨rfl, ⟨nd, rfl⟩⟩; refine ⟨_, rfl, ?_⟩) | ((with_reducible refine gate_callee (f := 20) rfl ?_); refine goesL_ (some 28) rfl rfl Try.func20 (by kernel_rfl) rfl #[.slice A199_6 ((rd_TStep l0_0 x3_1).f6).length c199_6] rfl (by (try simp only [List.map_toArray, List.map_cons, List.map_nil]); first | done | rfl | (simp only [List.length_drop, List.length_take]; rfl)) ?_; (with_reducible refine (towncrierlaw08_Few.calls k1 _ _ ((rd_TStep l0_0 x3_1).f6) false _ ?side1 ?side2 A10.out).mono ?_); (case side1 => exact Kd.C_below HR199_6.out (by repeat (first | (with_reducible first | exact HB.out | apply below_alloc | apply pw_below_drewN | apply below_drew1 | refine below_set ?_ GE198.out | refine below_set ?_ GE200.out) | exact HB.out))); (case side2 => exact HC199_6.out); rintro e w' ⟨rfl, ⟨nd, rfl⟩⟩; refine ⟨_, rfl, ?_⟩))
                go_ret
                exact ⟨by first | rfl | (simp [errW_none, errW_some] <;> rfl) | (simp [*, errW_none, errW_some] <;> rfl), by repeat (first | (with_reducible first | exact HB.out | apply below_alloc | apply pw_below_drewN | apply below_drew1 | refine below_set ?_ GE198.out | refine below_set ?_ GE200.out) | exact HB.out)⟩
            · replace c11 := Bool.eq_false_iff.mpr c11
              subst c11
              have H1 : (some false) = some r := by rw [if_neg (show ¬ (false = true) by decide)] at H; exact H
              clear H
              have H := H1
              clear H1
              obtain rfl := Option.some.inj H
              have hcz31_0 : wr.cell? ⟨gb198, 0, none⟩ = some (.slice A0_0 l0_0.length c0_0) := (blk_cell BK198.out 0).trans rfl
              have hcz31_1 : wr.cell? ⟨gb198, 1, none⟩ = some (.int .i64 a0_1) := (blk_cell BK198.out 1).trans rfl
              have hcz31_2 : wr.cell? ⟨gb198, 2, none⟩ = some (.int .i64 a0_2) := (blk_cell BK198.out 2).trans rfl
              have hcz31_3 : wr.cell? ⟨gb198, 3, none⟩ = some (.int .i64 a0_3) := (blk_cell BK198.out 3).trans rfl
              have hcz31_4 : wr.cell? ⟨gb198, 4, none⟩ = some (.int .i64 a0_4) := (blk_cell BK198.out 4).trans rfl
              have hfz31_0 := blk_frozen BK198.out 0
              have hfz31_1 := blk_frozen BK198.out 1
              have hfz31_2 := blk_frozen BK198.out 2
              have hfz31_3 := blk_frozen BK198.out 3
              have hfz31_4 := blk_frozen BK198.out 4
              have p199 : 0 ≤ (x3_1 : Int) := of_decide_eq_true (by first | (with_reducible assumption) | assumption)
              have q199 : x3_1 < (l0_0.length : Int) := of_decide_eq_true (by first | (with_reducible assumption) | assumption)
              obtain ⟨ad199, A199_1, c199_1, A199_6, c199_6, e199, hx199_0, hx199_1, hx199_2, hx199_3, hx199_4, hx199_5, hx199_6, hl199_1, hi199_1, hl199_6, hi199_6⟩ := at_TStep HR0_0.out x3_1 p199 q199
              cases e199
              replace hx199_0 := (HB.out.cell (World.block_lt_of_cell? w _ hx199_0)).trans hx199_0
              replace hx199_1 := (HB.out.cell (World.block_lt_of_cell? w _ hx199_1)).trans hx199_1
              replace hx199_2 := (HB.out.cell (World.block_lt_of_cell? w _ hx199_2)).trans hx199_2
              replace hx199_3 := (HB.out.cell (World.block_lt_of_cell? w _ hx199_3)).trans hx199_3
              replace hx199_4 := (HB.out.cell (World.block_lt_of_cell? w _ hx199_4)).trans hx199_4
              replace hx199_5 := (HB.out.cell (World.block_lt_of_cell? w _ hx199_5)).trans hx199_5
              replace hx199_6 := (HB.out.cell (World.block_lt_of_cell? w _ hx199_6)).trans hx199_6
              have HR199_1 := Aside0.mk hi199_1
              have HC199_1 := Aside0.mk hl199_1
              clear hi199_1 hl199_1
              have HR199_6 := Aside0.mk hi199_6
              have HC199_6 := Aside0.mk hl199_6
              clear hi199_6 hl199_6
              replace p199 := eq_true p199
              replace q199 := eq_true q199
              go_wp2_with (first | ((with_reducible refine gate_dst (N := 4) rfl ?_); (try (refine gate_guard (by rfl) ?_; dsimp only)); refine box_event ?hg (N := 4) ?hd (cs := #[.string (⟨#[]⟩ : ByteArray), .slice none 0 0, .int .i64 0, .int .i64 0, .bool false, .string (⟨#[]⟩ : ByteArray), .slice none 0 0]) (t := 40) ?hr ?_; (case hd => rfl); (case hg => rfl); (case hr => first | (go_simp; done) | (go_simp; rfl)); intro gb200 hg w32 hbox hb; have n0_ := Aside0.mk (blk_below (g := gb198) (o := .cells #[.slice (some ad199) l0_0.length c0_0, .int .i64 a0_1, .int .i64 a0_2, .int .i64 a0_3, .int .i64 a0_4] 24 (0, 0)) (by (with_reducible repeat (first | refine blk_drewN ?_ _ | refine blk_drew ?_ | refine blk_alloc ?_ _)); exact BK198.out) hb); have n1_ := Aside0.mk (below_step (by repeat (first | (with_reducible first | exact HB.out | apply below_alloc | apply pw_below_drewN | apply below_drew1 | refine below_set ?_ GE198.out) | exact HB.out)) hb); have n2_ := Aside0.mk (hbox); have n3_ := Aside0.mk ((by rw [hg]; exact (below_size (by repeat (first | (with_reducible first | exact HB.out | apply below_alloc | apply pw_below_drewN | apply below_drew1 | refine below_set ?_ GE198.out) | exact HB.out))) : w.heap.size ≤ gb200)); have n4_ := Aside0.mk ((by rw [hg]; exact (below_size (by repeat (first | (with_reducible first | exact HB.out | apply below_alloc | apply pw_below_drewN | apply below_drew1 | refine below_set ?_ GE198.out) | exact HB.out))) : w.heap.size ≤ gb200)); have n5_ := Aside0.mk ((by rw [hg]; exact Nat.ne_of_lt (blk_lt (g := gb198) (o := .cells #[.slice (some ad199) l0_0.length c0_0, .int .i64 a0_1, .int .i64 a0_2, .int .i64 a0_3, .int .i64 a0_4] 24 (0, 0)) (by (with_reducible repeat (first | refine blk_drewN ?_ _ | refine blk_drew ?_ | refine blk_alloc ?_ _)); exact BK198.out)) : gb198 ≠ gb200)); have n6_ := Aside0.mk ((by rw [hg]; exact Nat.ne_of_gt (blk_lt (g := gb198) (o := .cells #[.slice (some ad199) l0_0.length c0_0, .int .i64 a0_1, .int .i64 a0_2, .int .i64 a0_3, .int .i64 a0_4] 24 (0, 0)) (by (with_reducible repeat (first | refine blk_drewN ?_ _ | refine blk_drew ?_ | refine blk_alloc ?_ _)); exact BK198.out)) : gb200 ≠ gb198)); clear BK198; clear HB; have BK198 := n0_; have HB := n1_; have BK200 := n2_; have GW200 := n3_; have GE200 := n4_; have NB198_200 := n5_; have NB200_198 := n6_; clear n0_ n1_ n2_ n3_ n4_ n5_ n6_; clear hb hbox hg; have hnb33 := NB200_198.out; have hnc33 := NB198_200.out; have hcz34_0 : w32.cell? ⟨gb200, 0, none⟩ = some (.string (⟨#[]⟩ : ByteArray)) := (blk_cell BK200.out 0).trans rfl; have hcz34_1 : w32.cell? ⟨gb200, 1, none⟩ = some (.slice none 0 0) := (blk_cell BK200.out 1).trans rfl; have hcz34_2 : w32.cell? ⟨gb200, 2, none⟩ = some (.int .i64 0) := (blk_cell BK200.out 2).trans rfl; have hcz34_3 : w32.cell? ⟨gb200, 3, none⟩ = some (.int .i64 0) := (blk_cell BK200.out 3).trans rfl; have hcz34_4 : w32.cell? ⟨gb200, 4, none⟩ = some (.bool false) := (blk_cell BK200.out 4).trans rfl; have hcz34_5 : w32.cell? ⟨gb200, 5, none⟩ = some (.string (⟨#[]⟩ : ByteArray)) := (blk_cell BK200.out 5).trans rfl; have hcz34_6 : w32.cell? ⟨gb200, 6, none⟩ = some (.slice none 0 0) := (blk_cell BK200.out 6).trans rfl; have hfz34_0 := blk_frozen BK200.out 0; have hfz34_1 := blk_frozen BK200.out 1; have hfz34_2 := blk_frozen BK200.out 2; have hfz34_3 := blk_frozen BK200.out 3; have hfz34_4 := blk_frozen BK200.out 4; have hfz34_5 := blk_frozen BK200.out 5; have hfz34_6 := blk_frozen BK200.out 6) | ((with_reducible refine gate_callee (f := 20) rfl ?_); refine goesL_ (some 25) rfl rfl Try.func20 (by kernel_rfl) rfl #[.slice A199_1 ((rd_TStep l0_0 x3_1).f1).length c199_1] rfl (by (try simp only [List.map_toArray, List.map_cons, List.map_nil]); first | done | rfl | (simp only [List.length_drop, List.length_take]; rfl)) ?_; (with_reducible refine (towncrierlaw08_Few.calls k1 _ _ ((rd_TStep l0_0 x3_1).f1) false _ ?side1 ?side2 A9.out).mono ?_); (case side1 => exact Kd.C_below HR199_1.out (by repeat (first | (with_reducible first | exact HB.out | apply below_alloc | apply pw_below_drewN | apply below_drew1 | refine below_set ?_ GE198.out | refine below_set ?_ GE200.out) | exact HB.out))); (case side2 => exact HC199_1.out); rintro e w' ⟨rfl, ⟨nd, rfl⟩⟩; refine ⟨_, rfl, ?_⟩) | ((with_reducible refine gate_callee (f := 20) rfl ?_); refine goesL_ (some 28) rfl rfl Try.func20 (by kernel_rfl) rfl #[.slice A199_6 ((rd_TStep l0_0 x3_1).f6).length c199_6] rfl (by (try simp only [List.map_toArray, List.map_cons, List.map_nil]); first | done | rfl | (simp only [List.length_drop, List.length_take]; rfl)) ?_; (with_reducible refine (towncrierlaw08_Few.calls k1 _ _ ((rd_TStep l0_0 x3_1).f6) t202 _ ?side1 ?side2 A10.out).mono ?_); (case side1 => exact Kd.C_below HR199_6.out (by repeat (first | (with_reducible first | exact HB.out | apply below_alloc | apply pw_below_drewN | apply below_drew1 | refine below_set ?_ GE198.out | refine below_set ?_ GE200.out) | exact HB.out))); (case side2 => exact HC199_6.out); rintro e w' ⟨rfl, ⟨nd, rfl⟩⟩; refine ⟨_, rfl, ?_⟩))
              go_ret
              exact ⟨by first | rfl | (simp [errW_none, errW_some] <;> rfl) | (simp [*, errW_none, errW_some] <;> rfl), by repeat (first | (with_reducible first | exact HB.out | apply below_alloc | apply pw_below_drewN | apply below_drew1 | refine below_set ?_ GE198.out | refine below_set ?_ GE200.out) | exact HB.out)⟩
          · rw [if_neg c8] at H
            exact absurd H (by simp)
        · rw [if_neg c7] at H
          have c7b0 : decide (x3_1 < (l0_0.length : Int)) = false := decide_eq_false c7
          clear c7
          obtain rfl := Option.some.inj H
          have hcz35_0 : wr.cell? ⟨gb198, 0, none⟩ = some (.slice A0_0 l0_0.length c0_0) := (blk_cell BK198.out 0).trans rfl
          have hcz35_1 : wr.cell? ⟨gb198, 1, none⟩ = some (.int .i64 a0_1) := (blk_cell BK198.out 1).trans rfl
          have hcz35_2 : wr.cell? ⟨gb198, 2, none⟩ = some (.int .i64 a0_2) := (blk_cell BK198.out 2).trans rfl
          have hcz35_3 : wr.cell? ⟨gb198, 3, none⟩ = some (.int .i64 a0_3) := (blk_cell BK198.out 3).trans rfl
          have hcz35_4 : wr.cell? ⟨gb198, 4, none⟩ = some (.int .i64 a0_4) := (blk_cell BK198.out 4).trans rfl
          have hfz35_0 := blk_frozen BK198.out 0
          have hfz35_1 := blk_frozen BK198.out 1
          have hfz35_2 := blk_frozen BK198.out 2
          have hfz35_3 := blk_frozen BK198.out 3
          have hfz35_4 := blk_frozen BK198.out 4
          go_wp2
          go_ret
          exact ⟨by first | rfl | (simp [errW_none, errW_some] <;> rfl) | (simp [*, errW_none, errW_some] <;> rfl), by repeat (first | (with_reducible first | exact HB.out | apply below_alloc | apply pw_below_drewN | apply below_drew1 | refine below_set ?_ GE198.out) | exact HB.out)⟩
end Go.Proofs.Ytooemobolfoefaa.P

namespace Go.Proofs.Ytooemobolfoefaa.P
open Go.RowKit Go.Proofs.YtooemobolfoefaaW.PrintWords Go.Proofs.YtooemobolfoefaaW.PrintLast Go.Proofs.YtooemobolfoefaaW.PrintMore
set_option linter.unusedVariables false
set_option linter.unusedSimpArgs false
theorem kQuery_cells {w : World} {x : SQuery} {cs : List Value} (h : kQuery.K w x cs) : ∃ A c, cs = [.slice A x.f0.length c, .int .i64 x.f1, .int .i64 x.f2, .int .i64 x.f3, .int .i64 x.f4] ∧ x.f0.length ≤ c ∧ kStep.C w A x.f0.length x.f0 := by
  obtain ⟨A, c, rfl, h1, h2⟩ := kQuery_open h
  exact ⟨A, c, rfl, h1, h2⟩
theorem wfQ_ok {x : SQuery} (h : wfQuery x) : okQ x ∧ x.f0.length < 4611686018427387904 := by
  obtain ⟨⟨h1, h2⟩, _⟩ := h
  refine ⟨fun y hy => ?_, by omega⟩
  obtain ⟨_, ⟨_, h3⟩, _, _, _, _, ⟨_, h4⟩⟩ := h2 y hy
  exact ⟨i64B_iff.2 fun z hz => i64V_of (h3 z hz).2.2, i64B_iff.2 fun z hz => i64V_of (h4 z hz).2.2⟩
theorem few8_any (l : List SOp) {k : Nat} (hk : 20 < k) : ∃ b, towncrierlaw08_Few.f k l = some b := by
  unfold towncrierlaw08_Few.f
  by_cases h : (l.length : Int) > 20
  · rw [if_pos h]; exact ⟨false, rfl⟩
  · rw [if_neg h]
    exact few8_loop l (by omega) l.length 0 k (by omega) (by omega)
theorem few9_loop (l : List SStep) (hl : l.length ≤ 8) (a b c d : Int) : ∀ (n i k : Nat), i + n = l.length → n + 22 < k → ∃ r, towncrierlaw09_Few.l0 k i l a b c d = some r := by
  intro n
  induction n with
  | zero =>
    intro i k hi hk
    obtain ⟨k, rfl⟩ := rounds_of hk
    simp only [towncrierlaw09_Few.l0]
    rw [if_neg (by omega)]
    exact ⟨_, rfl⟩
  | succ n ih =>
    intro i k hi hk
    obtain ⟨k, rfl⟩ := rounds_of hk
    simp only [towncrierlaw09_Few.l0]
    rw [if_pos (by omega), if_pos (by omega), wrap_succ (by omega)]
    obtain ⟨x, hx⟩ := few8_any (rd_TStep l (i : Int)).f1 (k := k) (by omega)
    obtain ⟨y, hy⟩ := few8_any (rd_TStep l (i : Int)).f6 (k := k) (by omega)
    obtain ⟨z, hz⟩ := ih (i + 1) k (by omega) (by omega)
    rw [hx, hy, Option.bind_some, Option.bind_some, hz]
    repeat' split
    all_goals exact ⟨_, rfl⟩
theorem few9_told (q : SQuery) : ∃ b, (b = true → q.f0.length ≤ 8) ∧ ∀ (A : Option Addr) (c : Nat) (w : World), Kd.C kStep w A q.f0.length q.f0 → q.f0.length ≤ c → Calls Try.prog 10 #[.agg #[.slice A q.f0.length c, .int .i64 q.f1, .int .i64 q.f2, .int .i64 q.f3, .int .i64 q.f4]] w (boolPost b w) := by
  have key : ∃ b, towncrierlaw09_Few.f 40 q.f0 q.f1 q.f2 q.f3 q.f4 = some b ∧ (b = true → q.f0.length ≤ 8) := by
    unfold towncrierlaw09_Few.f
    by_cases h : (q.f0.length : Int) > 8
    · rw [if_pos h]; exact ⟨false, rfl, fun h => by cases h⟩
    · rw [if_neg h]
      obtain ⟨b, hb⟩ := few9_loop q.f0 (by omega) q.f1 q.f2 q.f3 q.f4 q.f0.length 0 40 (by omega) (by omega)
      exact ⟨b, hb, fun _ => by omega⟩
  obtain ⟨b, h1, h2⟩ := key
  exact ⟨b, h2, fun A c w hr hc => (towncrierlaw09_Few.calls 40 A c q.f0 q.f1 q.f2 q.f3 q.f4 b w hr hc h1).mono fun e w' h => by first | exact h | exact ⟨h.1, h.2.below⟩⟩
theorem C_lone {α : Type} {d : Kd α} {W : World} {B T : Nat} {x : α} {cs : List Value} (h : W.heap[B]? = some (.cells cs.toArray T (0, 0))) (hk : d.K W x cs) (hl : cs.length = d.sz) : Kd.C d W (some ⟨B, 0, none⟩) 1 [x] := by
  refine ⟨rfl, by decide, fun _ => ⟨_, rfl, fun j l hj => ?_⟩⟩
  match j with
  | j + 1 => simp at hj
  | 0 =>
    simp at hj
    subst hj
    refine ⟨cs, hl, hk, fun i u hu => ?_⟩
    rw [Nat.zero_mul, add_plain, blk_cell h]
    simpa using hu
def oneS : SStep := ⟨⟨#[97]⟩, [], 1, 1, false, ⟨#[]⟩, []⟩
def oneQ : SQuery := ⟨[oneS], 0, 0, 0, 0⟩
def oneL : List Int := [1, 1, 97, 0, 1, 1, 0, 0, 0, 0, 0]
def exS9 : SSchema := ⟨⟨#[97]⟩, 1, []⟩
theorem oneQ_may : mayQ oneQ = true := by decide +kernel
theorem oneQ_ok : okQ oneQ := fun x hx => by rw [List.mem_singleton.1 hx]; exact ⟨rfl, rfl⟩
theorem oneQ_bytes : bytesQ oneQ = oneL := by decide +kernel
theorem oneQ_get : gotQ (getQ oneL) = (oneQ, 11, true) := by
  have h := getQ_put [] oneQ_may oneQ_ok
  rw [List.append_nil, oneQ_bytes] at h
  rw [h]
  rfl
theorem oneQ_check : query_Check.f 12 [exS9] [oneS] 0 0 0 0 = some 0 := by decide +kernel
theorem oneQ_none : query_Check.f 12 [] [oneS] 0 0 0 0 = some 3 := by decide +kernel
theorem one_told (w : World) : Calls Try.prog 19 #[] w fun e w' => ∃ v, e = .returned (.agg #[v, .int .i64 0, .int .i64 0, .int .i64 0, .int .i64 0]) ∧ Kd.R kStep 40 w' w.heap.size (fun _ => True) v [oneS] ∧ Below w.heap.size w w' :=
  (towncrierlaw09_One.calls [oneS] 0 0 0 0 w rfl).mono fun e w' ⟨v, h1, h2, h3⟩ => ⟨v, h1, Kd.S_R h2, h3⟩
theorem get9_told (w : World) (A : Option Addr) (c : Nat) (hr : Kd.C (Kd.int .u8) w A 11 oneL) (hc : 11 ≤ c) : Calls Try.prog 12 #[.slice A 11 c] w fun e w' => ∃ A3 c3, e = .returned (.tuple #[.agg #[.slice A3 1 c3, .int .i64 0, .int .i64 0, .int .i64 0, .int .i64 0], .int .i64 11, .bool true]) ∧ 1 ≤ c3 ∧ Kd.C kStep w' A3 1 [oneS] ∧ Below w.heap.size w w' := by
  refine (getQ_told w A c oneL hr hc (by decide) (by decide) oneQ_get).mono ?_
  rintro e w' ⟨v, rfl, ho, _, hb⟩
  obtain ⟨A3, c3, rfl, h1, h2⟩ := Kd.R_reads ho
  exact ⟨A3, c3, rfl, h1, h2, hb⟩
theorem put9_told (w : World) (A : Option Addr) (c : Nat) (hr : Kd.C kStep w A 1 [oneS]) (hc : 1 ≤ c) : Calls Try.prog 11 #[.agg #[.slice A 1 c, .int .i64 0, .int .i64 0, .int .i64 0, .int .i64 0]] w fun e w' => ∃ A3 c3, e = .returned (.tuple #[.slice A3 11 c3, .bool true]) ∧ 11 ≤ c3 ∧ Kd.C (Kd.int .u8) w' A3 11 oneL ∧ Below w.heap.size w w' := by
  refine (putQ_told oneQ A c w hr hc oneQ_ok (by decide) oneQ_may ((if_pos rfl).trans oneQ_bytes)).mono ?_
  rintro e w' ⟨v, rfl, ho, hb⟩
  obtain ⟨A3, c3, rfl, h1, h2⟩ := Own8.reads ho
  exact ⟨A3, c3, rfl, h1, h2, hb⟩
theorem one9_told (w : World) : Calls Try.prog 19 #[] w fun e w' => ∃ A3 c3, e = .returned (.agg #[.slice A3 1 c3, .int .i64 0, .int .i64 0, .int .i64 0, .int .i64 0]) ∧ 1 ≤ c3 ∧ Kd.C kStep w' A3 1 [oneS] ∧ Below w.heap.size w w' := by
  refine (one_told w).mono ?_
  rintro e w' ⟨v, rfl, ho, hb⟩
  obtain ⟨A3, c3, rfl, h1, h2⟩ := Kd.R_reads ho
  exact ⟨A3, c3, rfl, h1, h2, hb⟩
theorem same9_told (w : World) (A B : Option Addr) (c d : Nat) (hr : Kd.C kStep w A 1 [oneS]) (hc : 1 ≤ c) (hs : Kd.C kStep w B 1 [oneS]) (hd : 1 ≤ d) : Calls Try.prog 13 #[.agg #[.slice A 1 c, .int .i64 0, .int .i64 0, .int .i64 0, .int .i64 0], .agg #[.slice B 1 d, .int .i64 0, .int .i64 0, .int .i64 0, .int .i64 0]] w (boolPost true w) := sameQ_told oneQ oneQ A c B d w hr hc hs hd (eqQ_refl _)
theorem check9_told (w : World) (A B : Option Addr) (c d : Nat) (hr : Kd.C kSchema w A 1 [exS9]) (hc : 1 ≤ c) (hs : Kd.C kStep w B 1 [oneS]) (hd : 1 ≤ d) : Calls Try.prog 15 #[.slice A 1 c, .agg #[.slice B 1 d, .int .i64 0, .int .i64 0, .int .i64 0, .int .i64 0]] w fun e w' => e = .returned (.int .i64 0) ∧ Below w.heap.size w w' := query_Check.calls 12 A c [exS9] B d [oneS] 0 0 0 0 0 w hr hc hs hd oneQ_check
theorem check90_told (w : World) (B : Option Addr) (d : Nat) (hs : Kd.C kStep w B 1 [oneS]) (hd : 1 ≤ d) : Calls Try.prog 15 #[.slice none 0 0, .agg #[.slice B 1 d, .int .i64 0, .int .i64 0, .int .i64 0, .int .i64 0]] w fun e w' => e = .returned (.int .i64 3) ∧ Below w.heap.size w w' := query_Check.calls 12 none 0 [] B d [oneS] 0 0 0 0 3 w (Kd.C_nil _ _) (Nat.le_refl _) hs hd oneQ_none
end Go.Proofs.Ytooemobolfoefaa.P

namespace Go.Proofs.Ytooemobolfoefaa.P
open Go.RowKit Go.Proofs.YtooemobolfoefaaW.PrintWords Go.Proofs.YtooemobolfoefaaW.PrintLast Go.Proofs.YtooemobolfoefaaW.PrintMore
set_option linter.unusedVariables false
set_option linter.unusedSimpArgs false
set_option maxHeartbeats 8000000 in
set_option maxRecDepth 100000 in
theorem awake9_told (w : World) : Calls Try.prog 9 #[] w (boolPost true w) := by
  go_enter Try.func9, Try.ntmps9
  go_wp2_with fail
  go_at_call 19
  refine (one9_told _).mono ?_
  rintro e w1 ⟨A1, c1, rfl, hc1, hr1, hb1⟩
  have HR1 := Aside0.mk hr1
  have HC1 := Aside0.mk hc1
  have HBY := Aside0.mk hb1
  clear hr1 hc1 hb1
  go_wp2_with fail
  go_at_call 11
  refine (put9_told _ A1 c1 HR1.out HC1.out).mono ?_
  rintro e w2 ⟨A2, c2, rfl, hc2, hr2, hb2⟩
  have HR2 := Aside0.mk hr2
  have HC2 := Aside0.mk hc2
  have HBY := Aside0.mk (below_step HBY.out hb2)
  clear hr2 hc2 hb2
  go_wp2_with fail
  go_at_call 12
  refine (get9_told _ A2 c2 HR2.out HC2.out).mono ?_
  rintro e w3 ⟨A3, c3, rfl, hc3, hr3, hb3⟩
  have HC3 := Aside0.mk hc3
  obtain ⟨B, hB⟩ : ∃ B, w3.heap.size = B := ⟨_, rfl⟩
  have HQ : Aside0 (((w3.alloc (.cells #[.slice A3 1 c3, .int .i64 0, .int .i64 0, .int .i64 0, .int .i64 0] 24)).alloc (.cells #[.string ⟨#[97]⟩, .int .i64 1, .slice none 0 0] 43)).heap[B]? = some (.cells #[.slice A3 1 c3, .int .i64 0, .int .i64 0, .int .i64 0, .int .i64 0] 24 (0, 0))) := ⟨by rw [← hB]; exact blk_alloc (blk_new w3 _) _⟩
  have HL := Aside0.mk (show Kd.C kSchema ((w3.alloc (.cells #[.slice A3 1 c3, .int .i64 0, .int .i64 0, .int .i64 0, .int .i64 0] 24)).alloc (.cells #[.string ⟨#[97]⟩, .int .i64 1, .slice none 0 0] 43)) (some ⟨w3.heap.size + 1, 0, none⟩) 1 [exS9] from C_lone (T := 43) (cs := [.string ⟨#[97]⟩, .int .i64 1, .slice none 0 0]) (blk_new2 w3 _ _) (kSchema_mk _ exS9 (A2 := none) (c2 := 0) (Nat.le_refl _) (Kd.C_nil _ _)) rfl)
  have HBW := Aside0.mk (below_alloc (below_alloc (Below.refl w3.heap.size w3) (.cells #[.slice A3 1 c3, .int .i64 0, .int .i64 0, .int .i64 0, .int .i64 0] 24)) (.cells #[.string ⟨#[97]⟩, .int .i64 1, .slice none 0 0] 43))
  have HBY := Aside0.mk (below_step (below_step HBY.out hb3) HBW.out)
  have HR2W := Aside0.mk (Kd.C_below (Kd.C_below HR2.out hb3) HBW.out)
  have HR3W := Aside0.mk (Kd.C_below hr3 HBW.out)
  clear hr3 hc3 hb3
  go_upto_region 4 with fail
  simp only [hB] at HL ⊢
  generalize (w3.alloc (.cells #[.slice A3 1 c3, .int .i64 0, .int .i64 0, .int .i64 0, .int .i64 0] 24)).alloc (.cells #[.string ⟨#[97]⟩, .int .i64 1, .slice none 0 0] 43) = W3 at HQ HL HBY HR2W HR3W HBW ⊢
  have HCV : Aside0 (∀ W, Below W3.heap.size W3 W → (Go.convert 25 9 (.slice A2 11 c2)).run Try.prog W = .ok (.string (⟨#[1, 1, 97, 0, 1, 1, 0, 0, 0, 0, 0]⟩ : ByteArray)) W) := ⟨fun W h => by
    have z := Kd.C_string (P := Try.prog) (c := c2) Try.underlying25 Try.underlying5 Try.underlying9 (Kd.C_below HR2W.out h)
    rw [show strOfNums oneL = (⟨#[1, 1, 97, 0, 1, 1, 0, 0, 0, 0, 0]⟩ : ByteArray) from toList_inj (by decide +kernel)] at z
    exact z⟩
  have he0 := blk_cell (blk_drew HQ.out) 0
  have he1 := blk_cell (blk_drew HQ.out) 1
  have he2 := blk_cell (blk_drew HQ.out) 2
  have he3 := blk_cell (blk_drew HQ.out) 3
  have he4 := blk_cell (blk_drew HQ.out) 4
  have HBD := Aside0.mk (below_drew (Below.refl W3.heap.size W3))
  have hcv := HCV.out _ HBD.out
  have HBYS := HBY
  clear hB HBW HBY HR1 HR2 HC1 HC2
  go_region_held3 (fun w' => w'.cell? ⟨B, 0, none⟩ = some (.slice A3 1 c3) ∧ w'.cell? ⟨B, 1, none⟩ = some (.int .i64 0) ∧ w'.cell? ⟨B, 2, none⟩ = some (.int .i64 0) ∧ w'.cell? ⟨B, 3, none⟩ = some (.int .i64 0) ∧ w'.cell? ⟨B, 4, none⟩ = some (.int .i64 0) ∧ (Go.convert 25 9 (.slice A2 11 c2)).run Try.prog w' = .ok (.string (⟨#[1, 1, 97, 0, 1, 1, 0, 0, 0, 0, 0]⟩ : ByteArray)) w')
    (first | go_keep | (go_split_ands; refine ⟨blk_cell (blk_below HQ.out HBD.out) 0, blk_cell (blk_below HQ.out HBD.out) 1, blk_cell (blk_below HQ.out HBD.out) 2, blk_cell (blk_below HQ.out HBD.out) 3, blk_cell (blk_below HQ.out HBD.out) 4, ?_⟩; exact HCV.out _ HBD.out))
    (first
      | (go_at_call 19; refine (one9_told _).mono ?_; rintro e w6 ⟨A6, c6, rfl, hc6, hr6, hb6⟩; have HR6 := Aside0.mk hr6; have HC6 := Aside0.mk hc6; have HBD := Aside0.mk (below_step HBD.out hb6); clear hr6 hc6)
      | (go_at_call 13; refine (same9_told _ A3 A6 c3 c6 (Kd.C_below HR3W.out HBD.out) HC3.out HR6.out HC6.out).mono ?_; rintro e w7 ⟨rfl, hb7⟩; have HBD := Aside0.mk (below_step HBD.out hb7))
      | (go_at_call_of 15 (Value.slice none 0 0); refine (check90_told _ A3 c3 (Kd.C_below HR3W.out HBD.out) HC3.out).mono ?_; rintro e w9 ⟨rfl, hb9⟩; have HBD := Aside0.mk (below_step HBD.out hb9))
      | (go_at_call 15; refine (check9_told _ (some ⟨B + 1, 0, none⟩) A3 1 c3 (Kd.C_below HL.out HBD.out) (Nat.le_refl _) (Kd.C_below HR3W.out HBD.out) HC3.out).mono ?_; rintro e w8 ⟨rfl, hb8⟩; have HBD := Aside0.mk (below_step HBD.out hb8)))
  all_goals
    go_wp2_with fail
    go_ret
    exact ⟨rfl, below_step HBYS.out HBD.out⟩
end Go.Proofs.Ytooemobolfoefaa.P

namespace Go.Proofs.Ytooemobolfoefaa.P
open Go.RowKit Go.Proofs.YtooemobolfoefaaW.PrintWords Go.Proofs.YtooemobolfoefaaW.PrintLast Go.Proofs.YtooemobolfoefaaW.PrintMore
attribute [local go_sem] max2_int min2_int max_two min_two max_three min_three max_four min_four   -- for this text's walks alone
set_option linter.unusedVariables false
set_option linter.unusedSimpArgs false
theorem openArg0_QueryNames : Opens Try.prog 34 (Kd.slice 43 kSchema) (fun x_ : List (SSchema) => x_.length * 48 ≤ 140737488351232 ∧ ∀ y_ ∈ x_, wfSchema y_) := (opens_slice Try.underlying34 openSchema (by kernel_rfl) (by kernel_rfl))
theorem openArg1_QueryNames : Opens Try.prog 24 kQuery wfQuery := openQuery
def QueryNames.Stmt : Prop := ∀ (W : World) (x0 : List (SSchema)) (A0 : Option Addr) (c0 : Nat) (hc0 : x0.length ≤ c0) (hr0 : Kd.C kSchema W A0 x0.length x0) (w0 : x0.length * 48 ≤ 140737488351232 ∧ ∀ y_ ∈ x0, wfSchema y_) (x1 : SQuery) (cs1 : List Value) (K1 : kQuery.K W x1 cs1) (w1 : wfQuery x1),
    Calls Try.prog 4 #[.slice A0 x0.length c0, .agg cs1.toArray] W fun e w' => e = .returned (.bool true) ∧ Below W.heap.size W w'
end Go.Proofs.Ytooemobolfoefaa.P

namespace Go.Proofs.Ytooemobolfoefaa.P
open Go.RowKit Go.Proofs.YtooemobolfoefaaW.PrintWords Go.Proofs.YtooemobolfoefaaW.PrintLast Go.Proofs.YtooemobolfoefaaW.PrintMore
set_option linter.unusedVariables false
set_option linter.unusedSimpArgs false
set_option maxHeartbeats 40000000 in
set_option maxRecDepth 100000 in
theorem QueryNames.walk : QueryNames.Stmt := by
  intro W x0 A0 c0 hc0 hr0 w0 x1 cs1 K1 w1
  obtain ⟨A1, c1, rfl, hc1, hr1⟩ := kQuery_cells K1
  have HR1 := Aside0.mk hr1
  have HC1 := Aside0.mk hc1
  have HOK1 := Aside0.mk (wfQ_ok w1).1
  have HLN1 := Aside0.mk (wfQ_ok w1).2
  obtain ⟨p, hp8, hpC⟩ := few9_told x1
  have HPC := Aside0.mk hpC
  have HR0 := Aside0.mk hr0
  have HC0 := Aside0.mk hc0
  have HW0 := Aside0.mk (show ∀ y ∈ x0, wfSchema y from w0.2)
  have hl0 : x0.length < 4611686018427387904 := by have := w0.1; omega
  have HL0 := Aside0.mk hl0
  obtain ⟨q, hq12, hqC⟩ := few7_told x0
  have HQC := Aside0.mk hqC
  obtain ⟨e0, he0⟩ : ∃ e, checkQ [] x1 = e := ⟨_, rfl⟩
  obtain ⟨e1, he1⟩ : ∃ e, checkQ x0 x1 = e := ⟨_, rfl⟩
  have HE0 := Aside0.mk he0
  have HE1 := Aside0.mk he1
  have hne : (e0 == 0) = false := beq_eq_false_iff_ne.2 (he0 ▸ checkQ_nil x1)
  clear hr0 hc0 w0 hr1 hc1 w1 hpC hp8 K1 hqC hq12 hl0 he0 he1
  cases p with
  | false =>
    go_enter Try.func4, Try.ntmps4
    go_wp2_with fail
    go_at_call 9
    refine (awake9_told _).mono ?_
    rintro e w1_ ⟨rfl, hb1_⟩
    have HB1_ := Aside0.mk (below_step (below_alloc (Below.refl _ _) _) hb1_)
    have HKx11_ := Aside0.mk (blk_below (blk_new _ _) hb1_)
    obtain ⟨kx11a_, kx11b_, kx11c_, kx11d_⟩ := know HKx11_.out
    clear hb1_
    go_wp2_with fail
    go_at_call_of 10 (Value.agg #[.slice A1 x1.f0.length c1, .int .i64 x1.f1, .int .i64 x1.f2, .int .i64 x1.f3, .int .i64 x1.f4])
    refine (HPC.out A1 c1 _ (Kd.C_below HR1.out (HB1_.out)) HC1.out).mono ?_
    rintro e w2_ ⟨rfl, hb2_⟩
    have HB2_ := Aside0.mk (below_step (HB1_.out) hb2_)
    have HKx12_ := Aside0.mk (blk_below (HKx11_.out) hb2_)
    obtain ⟨kx12a_, kx12b_, kx12c_, kx12d_⟩ := know HKx12_.out
    clear kx11a_ kx11b_ kx11c_ kx11d_
    clear hb2_
    go_wp2_with fail
    go_at_call 14
    refine (HQC.out A0 c0 _ (Kd.C_below HR0.out (HB2_.out)) HC0.out).mono ?_
    rintro e w3_ ⟨rfl, hb3_⟩
    have HB3_ := Aside0.mk (below_step (HB2_.out) hb3_)
    have HKx13_ := Aside0.mk (blk_below (HKx12_.out) hb3_)
    obtain ⟨kx13a_, kx13b_, kx13c_, kx13d_⟩ := know HKx13_.out
    clear kx12a_ kx12b_ kx12c_ kx12d_
    clear hb3_
    go_wp2_with fail
    go_ret
    exact ⟨rfl, HB3_.out⟩
  | true =>
    cases q with
    | false =>
      go_enter Try.func4, Try.ntmps4
      go_wp2_with fail
      go_at_call 9
      refine (awake9_told _).mono ?_
      rintro e w1_ ⟨rfl, hb1_⟩
      have HB1_ := Aside0.mk (below_step (below_alloc (Below.refl _ _) _) hb1_)
      have HKx11_ := Aside0.mk (blk_below (blk_new _ _) hb1_)
      obtain ⟨kx11a_, kx11b_, kx11c_, kx11d_⟩ := know HKx11_.out
      clear hb1_
      go_wp2_with fail
      go_at_call_of 10 (Value.agg #[.slice A1 x1.f0.length c1, .int .i64 x1.f1, .int .i64 x1.f2, .int .i64 x1.f3, .int .i64 x1.f4])
      refine (HPC.out A1 c1 _ (Kd.C_below HR1.out (HB1_.out)) HC1.out).mono ?_
      rintro e w2_ ⟨rfl, hb2_⟩
      have HB2_ := Aside0.mk (below_step (HB1_.out) hb2_)
      have HKx12_ := Aside0.mk (blk_below (HKx11_.out) hb2_)
      obtain ⟨kx12a_, kx12b_, kx12c_, kx12d_⟩ := know HKx12_.out
      clear kx11a_ kx11b_ kx11c_ kx11d_
      clear hb2_
      go_wp2_with fail
      go_at_call 14
      refine (HQC.out A0 c0 _ (Kd.C_below HR0.out (HB2_.out)) HC0.out).mono ?_
      rintro e w3_ ⟨rfl, hb3_⟩
      have HB3_ := Aside0.mk (below_step (HB2_.out) hb3_)
      have HKx13_ := Aside0.mk (blk_below (HKx12_.out) hb3_)
      obtain ⟨kx13a_, kx13b_, kx13c_, kx13d_⟩ := know HKx13_.out
      clear kx12a_ kx12b_ kx12c_ kx12d_
      clear hb3_
      go_wp2_with fail
      go_at_call 15
      refine (checkQ_told [] x1 none 0 A1 c1 _ (Kd.C_nil _ _) (Nat.le_refl _) (Kd.C_below HR1.out (HB3_.out)) HC1.out (fun _ h => by cases h) (by decide) HOK1.out HLN1.out HE0.out).mono ?_
      rintro e w4_ ⟨rfl, hb4_⟩
      have HB4_ := Aside0.mk (below_step (HB3_.out) hb4_)
      have HKx14_ := Aside0.mk (blk_below (HKx13_.out) hb4_)
      obtain ⟨kx14a_, kx14b_, kx14c_, kx14d_⟩ := know HKx14_.out
      clear kx13a_ kx13b_ kx13c_ kx13d_
      clear hb4_
      go_wp2_with fail
      go_ret
      exact ⟨rfl, HB4_.out⟩
    | true =>
      by_cases h1 : e1 = 0
      · have hz1 : (e1 != 0) = false := by rw [h1]; rfl
        have HZ := Aside0.mk (checkQ_zero (HE1.out.trans h1))
        clear h1
        go_enter Try.func4, Try.ntmps4
        go_wp2_with fail
        go_at_call 9
        refine (awake9_told _).mono ?_
        rintro e w1_ ⟨rfl, hb1_⟩
        have HB1_ := Aside0.mk (below_step (below_alloc (Below.refl _ _) _) hb1_)
        have HKx11_ := Aside0.mk (blk_below (blk_new _ _) hb1_)
        obtain ⟨kx11a_, kx11b_, kx11c_, kx11d_⟩ := know HKx11_.out
        clear hb1_
        go_wp2_with fail
        go_at_call_of 10 (Value.agg #[.slice A1 x1.f0.length c1, .int .i64 x1.f1, .int .i64 x1.f2, .int .i64 x1.f3, .int .i64 x1.f4])
        refine (HPC.out A1 c1 _ (Kd.C_below HR1.out (HB1_.out)) HC1.out).mono ?_
        rintro e w2_ ⟨rfl, hb2_⟩
        have HB2_ := Aside0.mk (below_step (HB1_.out) hb2_)
        have HKx12_ := Aside0.mk (blk_below (HKx11_.out) hb2_)
        obtain ⟨kx12a_, kx12b_, kx12c_, kx12d_⟩ := know HKx12_.out
        clear kx11a_ kx11b_ kx11c_ kx11d_
        clear hb2_
        go_wp2_with fail
        go_at_call 14
        refine (HQC.out A0 c0 _ (Kd.C_below HR0.out (HB2_.out)) HC0.out).mono ?_
        rintro e w3_ ⟨rfl, hb3_⟩
        have HB3_ := Aside0.mk (below_step (HB2_.out) hb3_)
        have HKx13_ := Aside0.mk (blk_below (HKx12_.out) hb3_)
        obtain ⟨kx13a_, kx13b_, kx13c_, kx13d_⟩ := know HKx13_.out
        clear kx12a_ kx12b_ kx12c_ kx12d_
        clear hb3_
        go_wp2_with fail
        go_at_call 15
        refine (checkQ_told [] x1 none 0 A1 c1 _ (Kd.C_nil _ _) (Nat.le_refl _) (Kd.C_below HR1.out (HB3_.out)) HC1.out (fun _ h => by cases h) (by decide) HOK1.out HLN1.out HE0.out).mono ?_
        rintro e w4_ ⟨rfl, hb4_⟩
        have HB4_ := Aside0.mk (below_step (HB3_.out) hb4_)
        have HKx14_ := Aside0.mk (blk_below (HKx13_.out) hb4_)
        obtain ⟨kx14a_, kx14b_, kx14c_, kx14d_⟩ := know HKx14_.out
        clear kx13a_ kx13b_ kx13c_ kx13d_
        clear hb4_
        go_wp2_with fail
        go_at_call 15
        refine (checkQ_told x0 x1 A0 c0 A1 c1 _ (Kd.C_below HR0.out (HB4_.out)) HC0.out (Kd.C_below HR1.out (HB4_.out)) HC1.out HW0.out HL0.out HOK1.out HLN1.out HE1.out).mono ?_
        rintro e w5_ ⟨rfl, hb5_⟩
        have HB5_ := Aside0.mk (below_step (HB4_.out) hb5_)
        have HKx15_ := Aside0.mk (blk_below (HKx14_.out) hb5_)
        obtain ⟨kx15a_, kx15b_, kx15c_, kx15d_⟩ := know HKx15_.out
        clear kx14a_ kx14b_ kx14c_ kx14d_
        clear hb5_
        go_wp2_with fail
        go_loopw [8, 9, 10, 11] (fun v8 _ _ _ w' => ∃ k : Nat, v8 = .int .i64 k ∧ k ≤ x1.f0.length ∧ Below W.heap.size W w' ∧ w'.heap[W.heap.size]? = some (.cells #[.slice A1 x1.f0.length c1, .int .i64 x1.f1, .int .i64 x1.f2, .int .i64 x1.f3, .int .i64 x1.f4] 24 (0, 0))) (fun i _ _ _ _ => x1.f0.length - (intOf i).toNat)
        case atStart => exact ⟨0, rfl, Nat.zero_le _, HB5_.out, HKx15_.out⟩
        case round =>
          obtain ⟨k, rfl, hk, hb, hx⟩ := hrel
          have HB := Aside0.mk hb
          have HX := Aside0.mk hx
          obtain ⟨kx1, kx2, kx3, kx4⟩ := know hx
          have hlq := HLN1.out
          clear kx15a_ kx15b_ kx15c_ kx15d_
          by_cases hlt : k < x1.f0.length
          · obtain ⟨ad, B1, d1, B6, d6, e, z0, z1, z2, z3, z4, z5, z6, _, _, _, _⟩ := at_TStep (Kd.C_below HR1.out hb) (k : Int) (by omega) (by omega)
            cases e
            simp only [Int.toNat_natCast] at z0 z4 z5
            rw [show rd_TStep x1.f0 (k : Int) = x1.f0.getD k zStep from rfl] at z0 z4 z5
            have her := errsQ_zero (HZ.out.2.2.1 _ (getD_in zStep hlt))
            generalize x1.f0.getD k zStep = y at *
            have HN0 := Aside0.mk (anyN_all her.1)
            have HN5 := Aside0.mk (show (!y.f4 || anyN x0 y.f5 x0.length) = true from by
              cases hg : y.f4 with
              | false => rfl
              | true => rw [anyN_all (her.2 hg)]; rfl)
            have HY0 := Aside0.mk z0
            have HY5 := Aside0.mk z5
            have hk1 : k + 1 ≤ x1.f0.length := hlt
            have hlti : (k : Int) < (x1.f0.length : Int) := by omega
            clear z1 z2 z3 z6 her hb hx hlt hk
            go_wp2_with fail
            go_loopw [9, 10, 11] (fun v9 v10 v11 w' => ∃ j : Nat, v11 = .int .i64 j ∧ j ≤ x0.length ∧ v9 = .bool (anyN x0 y.f0 j) ∧ v10 = .bool (!y.f4 || anyN x0 y.f5 j) ∧ Below wr.heap.size wr w') (fun _ _ i _ => x0.length - (intOf i).toNat)
            case atStart => exact ⟨0, rfl, Nat.zero_le _, by rw [anyN_zero], by rw [anyN_zero, Bool.or_false], Below.refl _ _⟩
            case round =>
              obtain ⟨j, rfl, hj, rfl, rfl, hb2⟩ := hrel
              have HB2 := Aside0.mk hb2
              have HX2 := Aside0.mk (blk_below HX.out hb2)
              have hl0 := HL0.out
              clear hb2
              by_cases hjl : j < x0.length
              · obtain ⟨ad0, S2, t2, e, s0, _, _, _, _⟩ := at_TSchema (Kd.C_below HR0.out (below_step HB.out HB2.out)) (j : Int) (by omega) (by omega)
                cases e
                simp only [Int.toNat_natCast] at s0
                rw [show rd_TSchema x0 (j : Int) = x0.getD j zSchema from rfl] at s0
                have HA0 := Aside0.mk (anyN_succ x0 y.f0 hjl)
                have HA5 := Aside0.mk (anyN_succ x0 y.f5 hjl)
                generalize x0.getD j zSchema = s at *
                obtain ⟨a, ha⟩ : ∃ a, anyN x0 y.f0 j = a := ⟨_, rfl⟩
                obtain ⟨b, hbb⟩ : ∃ b, (!y.f4 || anyN x0 y.f5 j) = b := ⟨_, rfl⟩
                obtain ⟨c, hc⟩ : ∃ c, (s.f0.toList == y.f0.toList) = c := ⟨_, rfl⟩
                obtain ⟨d, hd⟩ : ∃ d, (s.f0.toList == y.f5.toList) = d := ⟨_, rfl⟩
                have HR9 : Aside0 (anyN x0 y.f0 (j + 1) = (a || c)) := ⟨by rw [HA0.out, ha, hc]⟩
                have HR10 : Aside0 ((!y.f4 || anyN x0 y.f5 (j + 1)) = (b || d)) := ⟨by rw [HA5.out, hd, ← Bool.or_assoc, hbb]⟩
                rw [ha, hbb]
                have hj1 : j + 1 ≤ x0.length := hjl
                have hjli : (j : Int) < (x0.length : Int) := by omega
                have z0 := pw_cell_below HB2.out HY0.out
                have z5 := pw_cell_below HB2.out HY5.out
                have xq : ∀ m, (wr.drewN m).cell? ⟨W.heap.size, 0, none⟩ = some (.slice (some ad) x1.f0.length c1) := fun m => blk_cell (blk_drewN HX2.out m) 0
                have xz0 : ∀ m, (wr.drewN m).cell? (ad.add (k * 7)) = some (.string y.f0) := fun m => pw_cell_below (pw_below_drewN (Below.refl _ _) m) z0
                have xz5 : ∀ m, (wr.drewN m).cell? ⟨(ad.add (k * 7)).block, (ad.add (k * 7)).off + 5, none⟩ = some (.string y.f5) := fun m => pw_cell_below (pw_below_drewN (Below.refl _ _) m) z5
                have xs0 : ∀ m, (wr.drewN m).cell? (ad0.add (j * 3)) = some (.string s.f0) := fun m => pw_cell_below (pw_below_drewN (Below.refl _ _) m) s0
                clear ha hbb z0 z5 s0 hjl hj kx1 kx2 kx3 kx4
                cases a <;> cases b
                all_goals
                  go_wp2
                  go_quiet (fail)
                  go_wp2
                  go_quiet (fail)
                  go_wp2
                  go_roundw
                  case rel => exact ⟨j + 1, by go_num, hj1, by rw [HR9.out]; rfl, by rw [HR10.out]; rfl, pw_below_drewN HB2.out _⟩
                  case measure => simp [intOf]; omega
              · obtain rfl : j = x0.length := by omega
                rw [HN0.out, HN5.out]
                have HBE := Aside0.mk (below_step HB.out HB2.out)
                have hnl : ¬ (x0.length : Int) < (x0.length : Int) := by omega
                clear hj hjl kx1 kx2 kx3 kx4
                go_wp2
                go_roundw
                case rel => exact ⟨k + 1, by go_num, hk1, HBE.out, HX2.out⟩
                case measure => simp [intOf]; omega
          · obtain rfl : k = x1.f0.length := by omega
            obtain ⟨g7, g8⟩ : 1 ≤ x1.f0.length ∧ x1.f0.length ≤ 4 := by have := mayQ_iff.1 HZ.out.2.1; omega
            have hd1 : decide ((x1.f0.length : Int) ≥ 1) = true := decide_eq_true (by omega)
            have hd1b : decide ((1 : Int) ≤ (x1.f0.length : Int)) = true := decide_eq_true (by omega)
            have hd4 : decide ((x1.f0.length : Int) ≤ 4) = true := decide_eq_true (by omega)
            have hnl : ¬ (x1.f0.length : Int) < (x1.f0.length : Int) := by omega
            clear hk hlt hb hx g7 g8 hlq
            go_wp2_with fail
            go_ret
            exact ⟨by first | rfl | simp [*], HB.out⟩
      · have hz1 : (e1 != 0) = true := bne_iff_ne.2 h1
        clear h1
        go_enter Try.func4, Try.ntmps4
        go_wp2_with fail
        go_at_call 9
        refine (awake9_told _).mono ?_
        rintro e w1_ ⟨rfl, hb1_⟩
        have HB1_ := Aside0.mk (below_step (below_alloc (Below.refl _ _) _) hb1_)
        have HKx11_ := Aside0.mk (blk_below (blk_new _ _) hb1_)
        obtain ⟨kx11a_, kx11b_, kx11c_, kx11d_⟩ := know HKx11_.out
        clear hb1_
        go_wp2_with fail
        go_at_call_of 10 (Value.agg #[.slice A1 x1.f0.length c1, .int .i64 x1.f1, .int .i64 x1.f2, .int .i64 x1.f3, .int .i64 x1.f4])
        refine (HPC.out A1 c1 _ (Kd.C_below HR1.out (HB1_.out)) HC1.out).mono ?_
        rintro e w2_ ⟨rfl, hb2_⟩
        have HB2_ := Aside0.mk (below_step (HB1_.out) hb2_)
        have HKx12_ := Aside0.mk (blk_below (HKx11_.out) hb2_)
        obtain ⟨kx12a_, kx12b_, kx12c_, kx12d_⟩ := know HKx12_.out
        clear kx11a_ kx11b_ kx11c_ kx11d_
        clear hb2_
        go_wp2_with fail
        go_at_call 14
        refine (HQC.out A0 c0 _ (Kd.C_below HR0.out (HB2_.out)) HC0.out).mono ?_
        rintro e w3_ ⟨rfl, hb3_⟩
        have HB3_ := Aside0.mk (below_step (HB2_.out) hb3_)
        have HKx13_ := Aside0.mk (blk_below (HKx12_.out) hb3_)
        obtain ⟨kx13a_, kx13b_, kx13c_, kx13d_⟩ := know HKx13_.out
        clear kx12a_ kx12b_ kx12c_ kx12d_
        clear hb3_
        go_wp2_with fail
        go_at_call 15
        refine (checkQ_told [] x1 none 0 A1 c1 _ (Kd.C_nil _ _) (Nat.le_refl _) (Kd.C_below HR1.out (HB3_.out)) HC1.out (fun _ h => by cases h) (by decide) HOK1.out HLN1.out HE0.out).mono ?_
        rintro e w4_ ⟨rfl, hb4_⟩
        have HB4_ := Aside0.mk (below_step (HB3_.out) hb4_)
        have HKx14_ := Aside0.mk (blk_below (HKx13_.out) hb4_)
        obtain ⟨kx14a_, kx14b_, kx14c_, kx14d_⟩ := know HKx14_.out
        clear kx13a_ kx13b_ kx13c_ kx13d_
        clear hb4_
        go_wp2_with fail
        go_at_call 15
        refine (checkQ_told x0 x1 A0 c0 A1 c1 _ (Kd.C_below HR0.out (HB4_.out)) HC0.out (Kd.C_below HR1.out (HB4_.out)) HC1.out HW0.out HL0.out HOK1.out HLN1.out HE1.out).mono ?_
        rintro e w5_ ⟨rfl, hb5_⟩
        have HB5_ := Aside0.mk (below_step (HB4_.out) hb5_)
        have HKx15_ := Aside0.mk (blk_below (HKx14_.out) hb5_)
        obtain ⟨kx15a_, kx15b_, kx15c_, kx15d_⟩ := know HKx15_.out
        clear kx14a_ kx14b_ kx14c_ kx14d_
        clear hb5_
        go_wp2_with fail
        go_ret
        exact ⟨rfl, HB5_.out⟩
end Go.Proofs.Ytooemobolfoefaa.P
