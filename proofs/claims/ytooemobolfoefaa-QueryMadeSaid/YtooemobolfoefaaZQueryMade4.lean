/- What QueryMade's row stands on: words, contracts of the functions that it reaches, plain facts, its walk (part 4): no condition but those that each theorem names. -/
import Derived.Test.YtooemobolfoefaaZQueryMade3
set_option linter.unusedVariables false
set_option linter.unusedSimpArgs false
namespace Go.Proofs.Ytooemobolfoefaa.P
open Go.RowKit Go.Proofs.YtooemobolfoefaaW.PrintWords Go.Proofs.YtooemobolfoefaaW.PrintLast Go.Proofs.YtooemobolfoefaaW.PrintMore
attribute [local go_sem] max2_int min2_int max_two min_two max_three min_three max_four min_four   -- for this text's walks alone
set_option linter.unusedVariables false
set_option linter.unusedSimpArgs false
def query_alike.f (k : Nat) (a0_0 : ByteArray) (l0_1 : List (SOp)) (a0_2 : Int) (a0_3 : Int) (a0_4 : Bool) (a0_5 : ByteArray) (l0_6 : List (SOp)) (a1_0 : ByteArray) (l1_1 : List (SOp)) (a1_2 : Int) (a1_3 : Int) (a1_4 : Bool) (a1_5 : ByteArray) (l1_6 : List (SOp)) : Option (Bool) := if a0_0.toList = a1_0.toList then (if a0_5.toList = a1_5.toList then (if (a0_4 == a1_4) = true then (if a0_2 = a1_2 then (if a0_3 = a1_3 then ((expr_Same.f k l0_1 l1_1).bind fun t129 => (if t129 = true then ((expr_Same.f k l0_6 l1_6).bind fun t130 => (some t130)) else (some false))) else (some false)) else (some false)) else (some false)) else (some false)) else (some false)
set_option maxHeartbeats 8000000 in
set_option maxRecDepth 100000 in
theorem query_alike.calls (k : Nat) (a0_0 : ByteArray) (A0_1 : Option Addr) (c0_1 : Nat) (l0_1 : List (SOp)) (a0_2 : Int) (a0_3 : Int) (a0_4 : Bool) (a0_5 : ByteArray) (A0_6 : Option Addr) (c0_6 : Nat) (l0_6 : List (SOp)) (a1_0 : ByteArray) (A1_1 : Option Addr) (c1_1 : Nat) (l1_1 : List (SOp)) (a1_2 : Int) (a1_3 : Int) (a1_4 : Bool) (a1_5 : ByteArray) (A1_6 : Option Addr) (c1_6 : Nat) (l1_6 : List (SOp)) (r : Bool) (w : World) (hr0_1 : Kd.C kOp w A0_1 l0_1.length l0_1) (hc0_1 : l0_1.length ≤ c0_1) (hr0_6 : Kd.C kOp w A0_6 l0_6.length l0_6) (hc0_6 : l0_6.length ≤ c0_6) (hr1_1 : Kd.C kOp w A1_1 l1_1.length l1_1) (hc1_1 : l1_1.length ≤ c1_1) (hr1_6 : Kd.C kOp w A1_6 l1_6.length l1_6) (hc1_6 : l1_6.length ≤ c1_6) (h : query_alike.f k a0_0 l0_1 a0_2 a0_3 a0_4 a0_5 l0_6 a1_0 l1_1 a1_2 a1_3 a1_4 a1_5 l1_6 = some r) :
    Calls Try.prog 28 #[.agg #[.string a0_0, .slice A0_1 l0_1.length c0_1, .int .i64 a0_2, .int .i64 a0_3, .bool a0_4, .string a0_5, .slice A0_6 l0_6.length c0_6], .agg #[.string a1_0, .slice A1_1 l1_1.length c1_1, .int .i64 a1_2, .int .i64 a1_3, .bool a1_4, .string a1_5, .slice A1_6 l1_6.length c1_6]] w fun e w' => e = .returned (.bool r) ∧ Below w.heap.size w w' := by
  have hu40 := Try.underlying40
  have HR0_1 := Aside0.mk hr0_1
  have HC0_1 := Aside0.mk hc0_1
  clear hr0_1 hc0_1
  have HR0_6 := Aside0.mk hr0_6
  have HC0_6 := Aside0.mk hc0_6
  clear hr0_6 hc0_6
  have HR1_1 := Aside0.mk hr1_1
  have HC1_1 := Aside0.mk hc1_1
  clear hr1_1 hc1_1
  have HR1_6 := Aside0.mk hr1_6
  have HC1_6 := Aside0.mk hc1_6
  clear hr1_6 hc1_6
  have HB := Aside0.mk (Below.refl w.heap.size w)
  have H : (if a0_0.toList = a1_0.toList then (if a0_5.toList = a1_5.toList then (if (a0_4 == a1_4) = true then (if a0_2 = a1_2 then (if a0_3 = a1_3 then ((expr_Same.f k l0_1 l1_1).bind fun t129 => (if t129 = true then ((expr_Same.f k l0_6 l1_6).bind fun t130 => (some t130)) else (some false))) else (some false)) else (some false)) else (some false)) else (some false)) else (some false)) = some r := h
  clear h
  by_cases c3 : a0_0.toList = a1_0.toList
  · rw [if_pos c3] at H
    have c3b0 : (a0_0.toList == a1_0.toList) = true := beq_iff_eq.mpr c3
    have c3b1 : (a0_0.toList != a1_0.toList) = false := bne_eq_false_iff_eq.mpr c3
    clear c3
    by_cases c4 : a0_5.toList = a1_5.toList
    · rw [if_pos c4] at H
      have c4b0 : (a0_5.toList == a1_5.toList) = true := beq_iff_eq.mpr c4
      have c4b1 : (a0_5.toList != a1_5.toList) = false := bne_eq_false_iff_eq.mpr c4
      clear c4
      by_cases c5 : (a0_4 == a1_4) = true
      · rw [if_pos c5] at H
        have c5b0 : (a0_4 == a1_4) = true := c5
        (try (have c5b1 : decide (a0_4 = a1_4) = true := by simpa using c5))
        (try (have c5b2 : (a0_4 == a1_4) = true := by simpa using c5))
        clear c5
        by_cases c6 : a0_2 = a1_2
        · rw [if_pos c6] at H
          have c6b0 : (a0_2 == a1_2) = true := beq_iff_eq.mpr c6
          have c6b1 : (a0_2 != a1_2) = false := bne_eq_false_iff_eq.mpr c6
          clear c6
          by_cases c7 : a0_3 = a1_3
          · rw [if_pos c7] at H
            have c7b0 : (a0_3 == a1_3) = true := beq_iff_eq.mpr c7
            have c7b1 : (a0_3 != a1_3) = false := bne_eq_false_iff_eq.mpr c7
            clear c7
            replace H := Option.bind_eq_some_iff.mp H
            obtain ⟨t129, A80, H⟩ := H
            replace H : (if t129 = true then ((expr_Same.f k l0_6 l1_6).bind fun t130 => (some t130)) else (some false)) = some r := H
            have A8 := Aside0.mk A80
            clear A80
            by_cases c9 : t129 = true
            · subst c9
              have H1 : ((expr_Same.f k l0_6 l1_6).bind fun t130 => (some t130)) = some r := by rw [if_pos rfl] at H; exact H
              clear H
              have H := H1
              clear H1
              replace H := Option.bind_eq_some_iff.mp H
              obtain ⟨t130, A100, H⟩ := H
              replace H : (some t130) = some r := H
              have A10 := Aside0.mk A100
              clear A100
              obtain rfl := Option.some.inj H
              go_enter Try.func28, Try.ntmps28
              go_wp2_with (first | ((with_reducible refine gate_dst (N := 2) rfl ?_); refine box_event ?hg (N := 2) ?hd (cs := #[.string a0_0, .slice A0_1 l0_1.length c0_1, .int .i64 a0_2, .int .i64 a0_3, .bool a0_4, .string a0_5, .slice A0_6 l0_6.length c0_6]) (t := 40) ?hr ?_; (case hd => rfl); (case hg => rfl); (case hr => first | (go_simp; done) | (go_simp; rfl)); intro gb127 hg w11 hbox hb; have n0_ := Aside0.mk (below_step (by repeat (first | (with_reducible first | exact HB.out | apply below_alloc | apply pw_below_drewN | apply below_drew1) | exact HB.out)) hb); have n1_ := Aside0.mk (hbox); have n2_ := Aside0.mk ((by rw [hg]; exact (below_size (by repeat (first | (with_reducible first | exact HB.out | apply below_alloc | apply pw_below_drewN | apply below_drew1) | exact HB.out))) : w.heap.size ≤ gb127)); have n3_ := Aside0.mk ((by rw [hg]; exact (below_size (by repeat (first | (with_reducible first | exact HB.out | apply below_alloc | apply pw_below_drewN | apply below_drew1) | exact HB.out))) : w.heap.size ≤ gb127)); clear HB; have HB := n0_; have BK127 := n1_; have GW127 := n2_; have GE127 := n3_; clear n0_ n1_ n2_ n3_; clear hb hbox hg) | ((with_reducible refine gate_dst (N := 3) rfl ?_); refine box_event ?hg (N := 3) ?hd (cs := #[.string a1_0, .slice A1_1 l1_1.length c1_1, .int .i64 a1_2, .int .i64 a1_3, .bool a1_4, .string a1_5, .slice A1_6 l1_6.length c1_6]) (t := 40) ?hr ?_; (case hd => rfl); (case hg => rfl); (case hr => first | (go_simp; done) | (go_simp; rfl)); intro gb128 hg w12 hbox hb; have n0_ := Aside0.mk (blk_below (g := gb127) (o := .cells #[.string a0_0, .slice A0_1 l0_1.length c0_1, .int .i64 a0_2, .int .i64 a0_3, .bool a0_4, .string a0_5, .slice A0_6 l0_6.length c0_6] 40 (0, 0)) (by (with_reducible repeat (first | refine blk_drewN ?_ _ | refine blk_drew ?_ | refine blk_alloc ?_ _)); exact BK127.out) hb); have n1_ := Aside0.mk (below_step (by repeat (first | (with_reducible first | exact HB.out | apply below_alloc | apply pw_below_drewN | apply below_drew1 | refine below_set ?_ GE127.out) | exact HB.out)) hb); have n2_ := Aside0.mk (hbox); have n3_ := Aside0.mk ((by rw [hg]; exact (below_size (by repeat (first | (with_reducible first | exact HB.out | apply below_alloc | apply pw_below_drewN | apply below_drew1 | refine below_set ?_ GE127.out) | exact HB.out))) : w.heap.size ≤ gb128)); have n4_ := Aside0.mk ((by rw [hg]; exact (below_size (by repeat (first | (with_reducible first | exact HB.out | apply below_alloc | apply pw_below_drewN | apply below_drew1 | refine below_set ?_ GE127.out) | exact HB.out))) : w.heap.size ≤ gb128)); have n5_ := Aside0.mk ((by rw [hg]; exact Nat.ne_of_lt (blk_lt (g := gb127) (o := .cells #[.string a0_0, .slice A0_1 l0_1.length c0_1, .int .i64 a0_2, .int .i64 a0_3, .bool a0_4, .string a0_5, .slice A0_6 l0_6.length c0_6] 40 (0, 0)) (by (with_reducible repeat (first | refine blk_drewN ?_ _ | refine blk_drew ?_ | refine blk_alloc ?_ _)); exact BK127.out)) : gb127 ≠ gb128)); have n6_ := Aside0.mk ((by rw [hg]; exact Nat.ne_of_gt (blk_lt (g := gb127) (o := .cells #[.string a0_0, .slice A0_1 l0_1.length c0_1, .int .i64 a0_2, .int .i64 a0_3, .bool a0_4, .string a0_5, .slice A0_6 l0_6.length c0_6] 40 (0, 0)) (by (with_reducible repeat (first | refine blk_drewN ?_ _ | refine blk_drew ?_ | refine blk_alloc ?_ _)); exact BK127.out)) : gb128 ≠ gb127)); clear BK127; clear HB; have BK127 := n0_; have HB := n1_; have BK128 := n2_; have GW128 := n3_; have GE128 := n4_; have NB127_128 := n5_; have NB128_127 := n6_; clear n0_ n1_ n2_ n3_ n4_ n5_ n6_; clear hb hbox hg; have hnb13 := NB127_128.out; have hnc13 := NB128_127.out; have hcz14_0 : w12.cell? ⟨gb127, 0, none⟩ = some (.string a0_0) := (blk_cell BK127.out 0).trans rfl; have hcz14_1 : w12.cell? ⟨gb127, 1, none⟩ = some (.slice A0_1 l0_1.length c0_1) := (blk_cell BK127.out 1).trans rfl; have hcz14_2 : w12.cell? ⟨gb127, 2, none⟩ = some (.int .i64 a0_2) := (blk_cell BK127.out 2).trans rfl; have hcz14_3 : w12.cell? ⟨gb127, 3, none⟩ = some (.int .i64 a0_3) := (blk_cell BK127.out 3).trans rfl; have hcz14_4 : w12.cell? ⟨gb127, 4, none⟩ = some (.bool a0_4) := (blk_cell BK127.out 4).trans rfl; have hcz14_5 : w12.cell? ⟨gb127, 5, none⟩ = some (.string a0_5) := (blk_cell BK127.out 5).trans rfl; have hcz14_6 : w12.cell? ⟨gb127, 6, none⟩ = some (.slice A0_6 l0_6.length c0_6) := (blk_cell BK127.out 6).trans rfl; have hfz14_0 := blk_frozen BK127.out 0; have hfz14_1 := blk_frozen BK127.out 1; have hfz14_2 := blk_frozen BK127.out 2; have hfz14_3 := blk_frozen BK127.out 3; have hfz14_4 := blk_frozen BK127.out 4; have hfz14_5 := blk_frozen BK127.out 5; have hfz14_6 := blk_frozen BK127.out 6; have hcz15_0 : w12.cell? ⟨gb128, 0, none⟩ = some (.string a1_0) := (blk_cell BK128.out 0).trans rfl; have hcz15_1 : w12.cell? ⟨gb128, 1, none⟩ = some (.slice A1_1 l1_1.length c1_1) := (blk_cell BK128.out 1).trans rfl; have hcz15_2 : w12.cell? ⟨gb128, 2, none⟩ = some (.int .i64 a1_2) := (blk_cell BK128.out 2).trans rfl; have hcz15_3 : w12.cell? ⟨gb128, 3, none⟩ = some (.int .i64 a1_3) := (blk_cell BK128.out 3).trans rfl; have hcz15_4 : w12.cell? ⟨gb128, 4, none⟩ = some (.bool a1_4) := (blk_cell BK128.out 4).trans rfl; have hcz15_5 : w12.cell? ⟨gb128, 5, none⟩ = some (.string a1_5) := (blk_cell BK128.out 5).trans rfl; have hcz15_6 : w12.cell? ⟨gb128, 6, none⟩ = some (.slice A1_6 l1_6.length c1_6) := (blk_cell BK128.out 6).trans rfl; have hfz15_0 := blk_frozen BK128.out 0; have hfz15_1 := blk_frozen BK128.out 1; have hfz15_2 := blk_frozen BK128.out 2; have hfz15_3 := blk_frozen BK128.out 3; have hfz15_4 := blk_frozen BK128.out 4; have hfz15_5 := blk_frozen BK128.out 5; have hfz15_6 := blk_frozen BK128.out 6) | (go_at_call 46; (with_reducible refine (expr_Same.calls k _ _ l0_1 _ _ l1_1 true _ ?side1 ?side2 ?side3 ?side4 A8.out).mono ?_); (case side1 => repeat (first | exact (Kd.C_below HR0_1.out HB.out) | (with_reducible refine Kd.C_alloc ?_ _) | (with_reducible refine Kd.C_drewN ?_ _) | (with_reducible refine Kd.C_drew ?_))); (case side2 => exact HC0_1.out); (case side3 => repeat (first | exact (Kd.C_below HR1_1.out HB.out) | (with_reducible refine Kd.C_alloc ?_ _) | (with_reducible refine Kd.C_drewN ?_ _) | (with_reducible refine Kd.C_drew ?_))); (case side4 => exact HC1_1.out); rintro e w' ⟨rfl, ⟨nd, rfl⟩⟩) | (go_at_call 46; (with_reducible refine (expr_Same.calls k _ _ l0_6 _ _ l1_6 t130 _ ?side1 ?side2 ?side3 ?side4 A10.out).mono ?_); (case side1 => repeat (first | exact (Kd.C_below HR0_6.out (by repeat (first | (with_reducible first | exact HB.out | apply below_alloc | apply pw_below_drewN | apply below_drew1 | refine below_set ?_ GE127.out | refine below_set ?_ GE128.out) | exact HB.out))) | (with_reducible refine Kd.C_alloc ?_ _) | (with_reducible refine Kd.C_drewN ?_ _) | (with_reducible refine Kd.C_drew ?_))); (case side2 => exact HC0_6.out); (case side3 => repeat (first | exact (Kd.C_below HR1_6.out (by repeat (first | (with_reducible first | exact HB.out | apply below_alloc | apply pw_below_drewN | apply below_drew1 | refine below_set ?_ GE127.out | refine below_set ?_ GE128.out) | exact HB.out))) | (with_reducible refine Kd.C_alloc ?_ _) | (with_reducible refine Kd.C_drewN ?_ _) | (with_reducible refine Kd.C_drew ?_))); (case side4 => exact HC1_6.out); rintro e w' ⟨rfl, ⟨nd, rfl⟩⟩))
              go_ret
              exact ⟨by first | rfl | (simp [errW_none, errW_some] <;> rfl) | (simp [*, errW_none, errW_some] <;> rfl), by repeat (first | (with_reducible first | exact HB.out | apply below_alloc | apply pw_below_drewN | apply below_drew1 | refine below_set ?_ GE127.out | refine below_set ?_ GE128.out) | exact HB.out)⟩
            · replace c9 := Bool.eq_false_iff.mpr c9
              subst c9
              have H1 : (some false) = some r := by rw [if_neg (show ¬ (false = true) by decide)] at H; exact H
              clear H
              have H := H1
              clear H1
              obtain rfl := Option.some.inj H
              go_enter Try.func28, Try.ntmps28
              go_wp2_with (first | ((with_reducible refine gate_dst (N := 2) rfl ?_); refine box_event ?hg (N := 2) ?hd (cs := #[.string a0_0, .slice A0_1 l0_1.length c0_1, .int .i64 a0_2, .int .i64 a0_3, .bool a0_4, .string a0_5, .slice A0_6 l0_6.length c0_6]) (t := 40) ?hr ?_; (case hd => rfl); (case hg => rfl); (case hr => first | (go_simp; done) | (go_simp; rfl)); intro gb127 hg w16 hbox hb; have n0_ := Aside0.mk (below_step (by repeat (first | (with_reducible first | exact HB.out | apply below_alloc | apply pw_below_drewN | apply below_drew1) | exact HB.out)) hb); have n1_ := Aside0.mk (hbox); have n2_ := Aside0.mk ((by rw [hg]; exact (below_size (by repeat (first | (with_reducible first | exact HB.out | apply below_alloc | apply pw_below_drewN | apply below_drew1) | exact HB.out))) : w.heap.size ≤ gb127)); have n3_ := Aside0.mk ((by rw [hg]; exact (below_size (by repeat (first | (with_reducible first | exact HB.out | apply below_alloc | apply pw_below_drewN | apply below_drew1) | exact HB.out))) : w.heap.size ≤ gb127)); clear HB; have HB := n0_; have BK127 := n1_; have GW127 := n2_; have GE127 := n3_; clear n0_ n1_ n2_ n3_; clear hb hbox hg) | ((with_reducible refine gate_dst (N := 3) rfl ?_); refine box_event ?hg (N := 3) ?hd (cs := #[.string a1_0, .slice A1_1 l1_1.length c1_1, .int .i64 a1_2, .int .i64 a1_3, .bool a1_4, .string a1_5, .slice A1_6 l1_6.length c1_6]) (t := 40) ?hr ?_; (case hd => rfl); (case hg => rfl); (case hr => first | (go_simp; done) | (go_simp; rfl)); intro gb128 hg w17 hbox hb; have n0_ := Aside0.mk (blk_below (g := gb127) (o := .cells #[.string a0_0, .slice A0_1 l0_1.length c0_1, .int .i64 a0_2, .int .i64 a0_3, .bool a0_4, .string a0_5, .slice A0_6 l0_6.length c0_6] 40 (0, 0)) (by (with_reducible repeat (first | refine blk_drewN ?_ _ | refine blk_drew ?_ | refine blk_alloc ?_ _)); exact BK127.out) hb); have n1_ := Aside0.mk (below_step (by repeat (first | (with_reducible first | exact HB.out | apply below_alloc | apply pw_below_drewN | apply below_drew1 | refine below_set ?_ GE127.out) | exact HB.out)) hb); have n2_ := Aside0.mk (hbox); have n3_ := Aside0.mk ((by rw [hg]; exact (below_size (by repeat (first | (with_reducible first | exact HB.out | apply below_alloc | apply pw_below_drewN | apply below_drew1 | refine below_set ?_ GE127.out) | exact HB.out))) : w.heap.size ≤ gb128)); have n4_ := Aside0.mk ((by rw [hg]; exact (below_size (by repeat (first | (with_reducible first | exact HB.out | apply below_alloc | apply pw_below_drewN | apply below_drew1 | refine below_set ?_ GE127.out) | exact HB.out))) : w.heap.size ≤ gb128)); have n5_ := Aside0.mk ((by rw [hg]; exact Nat.ne_of_lt (blk_lt (g := gb127) (o := .cells #[.string a0_0, .slice A0_1 l0_1.length c0_1, .int .i64 a0_2, .int .i64 a0_3, .bool a0_4, .string a0_5, .slice A0_6 l0_6.length c0_6] 40 (0, 0)) (by (with_reducible repeat (first | refine blk_drewN ?_ _ | refine blk_drew ?_ | refine blk_alloc ?_ _)); exact BK127.out)) : gb127 ≠ gb128)); have n6_ := Aside0.mk ((by rw [hg]; exact Nat.ne_of_gt (blk_lt (g := gb127) (o := .cells #[.string a0_0, .slice A0_1 l0_1.length c0_1, .int .i64 a0_2, .int .i64 a0_3, .bool a0_4, .string a0_5, .slice A0_6 l0_6.length c0_6] 40 (0, 0)) (by (with_reducible repeat (first | refine blk_drewN ?_ _ | refine blk_drew ?_ | refine blk_alloc ?_ _)); exact BK127.out)) : gb128 ≠ gb127)); clear BK127; clear HB; have BK127 := n0_; have HB := n1_; have BK128 := n2_; have GW128 := n3_; have GE128 := n4_; have NB127_128 := n5_; have NB128_127 := n6_; clear n0_ n1_ n2_ n3_ n4_ n5_ n6_; clear hb hbox hg; have hnb18 := NB127_128.out; have hnc18 := NB128_127.out; have hcz19_0 : w17.cell? ⟨gb127, 0, none⟩ = some (.string a0_0) := (blk_cell BK127.out 0).trans rfl; have hcz19_1 : w17.cell? ⟨gb127, 1, none⟩ = some (.slice A0_1 l0_1.length c0_1) := (blk_cell BK127.out 1).trans rfl; have hcz19_2 : w17.cell? ⟨gb127, 2, none⟩ = some (.int .i64 a0_2) := (blk_cell BK127.out 2).trans rfl; have hcz19_3 : w17.cell? ⟨gb127, 3, none⟩ = some (.int .i64 a0_3) := (blk_cell BK127.out 3).trans rfl; have hcz19_4 : w17.cell? ⟨gb127, 4, none⟩ = some (.bool a0_4) := (blk_cell BK127.out 4).trans rfl; have hcz19_5 : w17.cell? ⟨gb127, 5, none⟩ = some (.string a0_5) := (blk_cell BK127.out 5).trans rfl; have hcz19_6 : w17.cell? ⟨gb127, 6, none⟩ = some (.slice A0_6 l0_6.length c0_6) := (blk_cell BK127.out 6).trans rfl; have hfz19_0 := blk_frozen BK127.out 0; have hfz19_1 := blk_frozen BK127.out 1; have hfz19_2 := blk_frozen BK127.out 2; have hfz19_3 := blk_frozen BK127.out 3; have hfz19_4 := blk_frozen BK127.out 4; have hfz19_5 := blk_frozen BK127.out 5; have hfz19_6 := blk_frozen BK127.out 6; have hcz20_0 : w17.cell? ⟨gb128, 0, none⟩ = some (.string a1_0) := (blk_cell BK128.out 0).trans rfl; have hcz20_1 : w17.cell? ⟨gb128, 1, none⟩ = some (.slice A1_1 l1_1.length c1_1) := (blk_cell BK128.out 1).trans rfl; have hcz20_2 : w17.cell? ⟨gb128, 2, none⟩ = some (.int .i64 a1_2) := (blk_cell BK128.out 2).trans rfl; have hcz20_3 : w17.cell? ⟨gb128, 3, none⟩ = some (.int .i64 a1_3) := (blk_cell BK128.out 3).trans rfl; have hcz20_4 : w17.cell? ⟨gb128, 4, none⟩ = some (.bool a1_4) := (blk_cell BK128.out 4).trans rfl; have hcz20_5 : w17.cell? ⟨gb128, 5, none⟩ = some (.string a1_5) := (blk_cell BK128.out 5).trans rfl; have hcz20_6 : w17.cell? ⟨gb128, 6, none⟩ = some (.slice A1_6 l1_6.length c1_6) := (blk_cell BK128.out 6).trans rfl; have hfz20_0 := blk_frozen BK128.out 0; have hfz20_1 := blk_frozen BK128.out 1; have hfz20_2 := blk_frozen BK128.out 2; have hfz20_3 := blk_frozen BK128.out 3; have hfz20_4 := blk_frozen BK128.out 4; have hfz20_5 := blk_frozen BK128.out 5; have hfz20_6 := blk_frozen BK128.out 6) | (go_at_call 46; (with_reducible refine (expr_Same.calls k _ _ l0_1 _ _ l1_1 false _ ?side1 ?side2 ?side3 ?side4 A8.out).mono ?_); (case side1 => repeat (first | exact (Kd.C_below HR0_1.out HB.out) | (with_reducible refine Kd.C_alloc ?_ _) | (with_reducible refine Kd.C_drewN ?_ _) | (with_reducible refine Kd.C_drew ?_))); (case side2 => exact HC0_1.out); (case side3 => repeat (first | exact (Kd.C_below HR1_1.out HB.out) | (with_reducible refine Kd.C_alloc ?_ _) | (with_reducible refine Kd.C_drewN ?_ _) | (with_reducible refine Kd.C_drew ?_))); (case side4 => exact HC1_1.out); rintro e w' ⟨rfl, ⟨nd, rfl⟩⟩))
              go_ret
              exact ⟨by first | rfl | (simp [errW_none, errW_some] <;> rfl) | (simp [*, errW_none, errW_some] <;> rfl), by repeat (first | (with_reducible first | exact HB.out | apply below_alloc | apply pw_below_drewN | apply below_drew1 | refine below_set ?_ GE127.out | refine below_set ?_ GE128.out) | exact HB.out)⟩
          · rw [if_neg c7] at H
            have c7b0 : (a0_3 == a1_3) = false := beq_eq_false_iff_ne.mpr c7
            have c7b1 : (a0_3 != a1_3) = true := bne_iff_ne.mpr c7
            obtain rfl := Option.some.inj H
            go_enter Try.func28, Try.ntmps28
            go_wp2_with (first | ((with_reducible refine gate_dst (N := 2) rfl ?_); refine box_event ?hg (N := 2) ?hd (cs := #[.string a0_0, .slice A0_1 l0_1.length c0_1, .int .i64 a0_2, .int .i64 a0_3, .bool a0_4, .string a0_5, .slice A0_6 l0_6.length c0_6]) (t := 40) ?hr ?_; (case hd => rfl); (case hg => rfl); (case hr => first | (go_simp; done) | (go_simp; rfl)); intro gb127 hg w21 hbox hb; have n0_ := Aside0.mk (below_step (by repeat (first | (with_reducible first | exact HB.out | apply below_alloc | apply pw_below_drewN | apply below_drew1) | exact HB.out)) hb); have n1_ := Aside0.mk (hbox); have n2_ := Aside0.mk ((by rw [hg]; exact (below_size (by repeat (first | (with_reducible first | exact HB.out | apply below_alloc | apply pw_below_drewN | apply below_drew1) | exact HB.out))) : w.heap.size ≤ gb127)); have n3_ := Aside0.mk ((by rw [hg]; exact (below_size (by repeat (first | (with_reducible first | exact HB.out | apply below_alloc | apply pw_below_drewN | apply below_drew1) | exact HB.out))) : w.heap.size ≤ gb127)); clear HB; have HB := n0_; have BK127 := n1_; have GW127 := n2_; have GE127 := n3_; clear n0_ n1_ n2_ n3_; clear hb hbox hg) | ((with_reducible refine gate_dst (N := 3) rfl ?_); refine box_event ?hg (N := 3) ?hd (cs := #[.string a1_0, .slice A1_1 l1_1.length c1_1, .int .i64 a1_2, .int .i64 a1_3, .bool a1_4, .string a1_5, .slice A1_6 l1_6.length c1_6]) (t := 40) ?hr ?_; (case hd => rfl); (case hg => rfl); (case hr => first | (go_simp; done) | (go_simp; rfl)); intro gb128 hg w22 hbox hb; have n0_ := Aside0.mk (blk_below (g := gb127) (o := .cells #[.string a0_0, .slice A0_1 l0_1.length c0_1, .int .i64 a0_2, .int .i64 a0_3, .bool a0_4, .string a0_5, .slice A0_6 l0_6.length c0_6] 40 (0, 0)) (by (with_reducible repeat (first | refine blk_drewN ?_ _ | refine blk_drew ?_ | refine blk_alloc ?_ _)); exact BK127.out) hb); have n1_ := Aside0.mk (below_step (by repeat (first | (with_reducible first | exact HB.out | apply below_alloc | apply pw_below_drewN | apply below_drew1 | refine below_set ?_ GE127.out) | exact HB.out)) hb); have n2_ := Aside0.mk (hbox); have n3_ := Aside0.mk ((by rw [hg]; exact (below_size (by repeat (first | (with_reducible first | exact HB.out | apply below_alloc | apply pw_below_drewN | apply below_drew1 | refine below_set ?_ GE127.out) | exact HB.out))) : w.heap.size ≤ gb128)); have n4_ := Aside0.mk ((by rw [hg]; exact (below_size (by repeat (first | (with_reducible first | exact HB.out | apply below_alloc | apply pw_below_drewN | apply below_drew1 | refine below_set ?_ GE127.out) | exact HB.out))) : w.heap.size ≤ gb128)); have n5_ := Aside0.mk ((by rw [hg]; exact Nat.ne_of_lt (blk_lt (g := gb127) (o := .cells #[.string a0_0, .slice A0_1 l0_1.length c0_1, .int .i64 a0_2, .int .i64 a0_3, .bool a0_4, .string a0_5, .slice A0_6 l0_6.length c0_6] 40 (0, 0)) (by (with_reducible repeat (first | refine blk_drewN ?_ _ | refine blk_drew ?_ | refine blk_alloc ?_ _)); exact BK127.out)) : gb127 ≠ gb128)); have n6_ := Aside0.mk ((by rw [hg]; exact Nat.ne_of_gt (blk_lt (g := gb127) (o := .cells #[.string a0_0, .slice A0_1 l0_1.length c0_1, .int .i64 a0_2, .int .i64 a0_3, .bool a0_4, .string a0_5, .slice A0_6 l0_6.length c0_6] 40 (0, 0)) (by (with_reducible repeat (first | refine blk_drewN ?_ _ | refine blk_drew ?_ | refine blk_alloc ?_ _)); exact BK127.out)) : gb128 ≠ gb127)); clear BK127; clear HB; have BK127 := n0_; have HB := n1_; have BK128 := n2_; have GW128 := n3_; have GE128 := n4_; have NB127_128 := n5_; have NB128_127 := n6_; clear n0_ n1_ n2_ n3_ n4_ n5_ n6_; clear hb hbox hg; have hnb23 := NB127_128.out; have hnc23 := NB128_127.out; have hcz24_0 : w22.cell? ⟨gb127, 0, none⟩ = some (.string a0_0) := (blk_cell BK127.out 0).trans rfl; have hcz24_1 : w22.cell? ⟨gb127, 1, none⟩ = some (.slice A0_1 l0_1.length c0_1) := (blk_cell BK127.out 1).trans rfl; have hcz24_2 : w22.cell? ⟨gb127, 2, none⟩ = some (.int .i64 a0_2) := (blk_cell BK127.out 2).trans rfl; have hcz24_3 : w22.cell? ⟨gb127, 3, none⟩ = some (.int .i64 a0_3) := (blk_cell BK127.out 3).trans rfl; have hcz24_4 : w22.cell? ⟨gb127, 4, none⟩ = some (.bool a0_4) := (blk_cell BK127.out 4).trans rfl; have hcz24_5 : w22.cell? ⟨gb127, 5, none⟩ = some (.string a0_5) := (blk_cell BK127.out 5).trans rfl; have hcz24_6 : w22.cell? ⟨gb127, 6, none⟩ = some (.slice A0_6 l0_6.length c0_6) := (blk_cell BK127.out 6).trans rfl; have hfz24_0 := blk_frozen BK127.out 0; have hfz24_1 := blk_frozen BK127.out 1; have hfz24_2 := blk_frozen BK127.out 2; have hfz24_3 := blk_frozen BK127.out 3; have hfz24_4 := blk_frozen BK127.out 4; have hfz24_5 := blk_frozen BK127.out 5; have hfz24_6 := blk_frozen BK127.out 6; have hcz25_0 : w22.cell? ⟨gb128, 0, none⟩ = some (.string a1_0) := (blk_cell BK128.out 0).trans rfl; have hcz25_1 : w22.cell? ⟨gb128, 1, none⟩ = some (.slice A1_1 l1_1.length c1_1) := (blk_cell BK128.out 1).trans rfl; have hcz25_2 : w22.cell? ⟨gb128, 2, none⟩ = some (.int .i64 a1_2) := (blk_cell BK128.out 2).trans rfl; have hcz25_3 : w22.cell? ⟨gb128, 3, none⟩ = some (.int .i64 a1_3) := (blk_cell BK128.out 3).trans rfl; have hcz25_4 : w22.cell? ⟨gb128, 4, none⟩ = some (.bool a1_4) := (blk_cell BK128.out 4).trans rfl; have hcz25_5 : w22.cell? ⟨gb128, 5, none⟩ = some (.string a1_5) := (blk_cell BK128.out 5).trans rfl; have hcz25_6 : w22.cell? ⟨gb128, 6, none⟩ = some (.slice A1_6 l1_6.length c1_6) := (blk_cell BK128.out 6).trans rfl; have hfz25_0 := blk_frozen BK128.out 0; have hfz25_1 := blk_frozen BK128.out 1; have hfz25_2 := blk_frozen BK128.out 2; have hfz25_3 := blk_frozen BK128.out 3; have hfz25_4 := blk_frozen BK128.out 4; have hfz25_5 := blk_frozen BK128.out 5; have hfz25_6 := blk_frozen BK128.out 6))
            go_ret
            exact ⟨by first | rfl | (simp [errW_none, errW_some] <;> rfl) | (simp [*, errW_none, errW_some] <;> rfl), by repeat (first | (with_reducible first | exact HB.out | apply below_alloc | apply pw_below_drewN | apply below_drew1 | refine below_set ?_ GE127.out | refine below_set ?_ GE128.out) | exact HB.out)⟩
        · rw [if_neg c6] at H
          have c6b0 : (a0_2 == a1_2) = false := beq_eq_false_iff_ne.mpr c6
          have c6b1 : (a0_2 != a1_2) = true := bne_iff_ne.mpr c6
          obtain rfl := Option.some.inj H
          go_enter Try.func28, Try.ntmps28
          go_wp2_with (first | ((with_reducible refine gate_dst (N := 2) rfl ?_); refine box_event ?hg (N := 2) ?hd (cs := #[.string a0_0, .slice A0_1 l0_1.length c0_1, .int .i64 a0_2, .int .i64 a0_3, .bool a0_4, .string a0_5, .slice A0_6 l0_6.length c0_6]) (t := 40) ?hr ?_; (case hd => rfl); (case hg => rfl); (case hr => first | (go_simp; done) | (go_simp; rfl)); intro gb127 hg w26 hbox hb; have n0_ := Aside0.mk (below_step (by repeat (first | (with_reducible first | exact HB.out | apply below_alloc | apply pw_below_drewN | apply below_drew1) | exact HB.out)) hb); have n1_ := Aside0.mk (hbox); have n2_ := Aside0.mk ((by rw [hg]; exact (below_size (by repeat (first | (with_reducible first | exact HB.out | apply below_alloc | apply pw_below_drewN | apply below_drew1) | exact HB.out))) : w.heap.size ≤ gb127)); have n3_ := Aside0.mk ((by rw [hg]; exact (below_size (by repeat (first | (with_reducible first | exact HB.out | apply below_alloc | apply pw_below_drewN | apply below_drew1) | exact HB.out))) : w.heap.size ≤ gb127)); clear HB; have HB := n0_; have BK127 := n1_; have GW127 := n2_; have GE127 := n3_; clear n0_ n1_ n2_ n3_; clear hb hbox hg) | ((with_reducible refine gate_dst (N := 3) rfl ?_); refine box_event ?hg (N := 3) ?hd (cs := #[.string a1_0, .slice A1_1 l1_1.length c1_1, .int .i64 a1_2, .int .i64 a1_3, .bool a1_4, .string a1_5, .slice A1_6 l1_6.length c1_6]) (t := 40) ?hr ?_; (case hd => rfl); (case hg => rfl); (case hr => first | (go_simp; done) | (go_simp; rfl)); intro gb128 hg w27 hbox hb; have n0_ := Aside0.mk (blk_below (g := gb127) (o := .cells #[.string a0_0, .slice A0_1 l0_1.length c0_1, .int .i64 a0_2, .int .i64 a0_3, .bool a0_4, .string a0_5, .slice A0_6 l0_6.length c0_6] 40 (0, 0)) (by (with_reducible repeat (first | refine blk_drewN ?_ _ | refine blk_drew ?_ | refine blk_alloc ?_ _)); exact BK127.out) hb); have n1_ := Aside0.mk (below_step (by repeat (first | (with_reducible first | exact HB.out | apply below_alloc | apply pw_below_drewN | apply below_drew1 | refine below_set ?_ GE127.out) | exact HB.out)) hb); have n2_ := Aside0.mk (hbox); have n3_ := Aside0.mk ((by rw [hg]; exact (below_size (by repeat (first | (with_reducible first | exact HB.out | apply below_alloc | apply pw_below_drewN | apply below_drew1 | refine below_set ?_ GE127.out) | exact HB.out))) : w.heap.size ≤ gb128)); have n4_ := Aside0.mk ((by rw [hg]; exact (below_size (by repeat (first | (with_reducible first | exact HB.out | apply below_alloc | apply pw_below_drewN | apply below_drew1 | refine below_set ?_ GE127.out) | exact HB.out))) : w.heap.size ≤ gb128)); have n5_ := Aside0.mk ((by rw [hg]; exact Nat.ne_of_lt (blk_lt (g := gb127) (o := .cells #[.string a0_0, .slice A0_1 l0_1.length c0_1, .int .i64 a0_2, .int .i64 a0_3, .bool a0_4, .string a0_5, .slice A0_6 l0_6.length c0_6] 40 (0, 0)) (by (with_reducible repeat (first | refine blk_drewN ?_ _ | refine blk_drew ?_ | refine blk_alloc ?_ _)); exact BK127.out)) : gb127 ≠ gb128)); have n6_ := Aside0.mk ((by rw [hg]; exact Nat.ne_of_gt (blk_lt (g := gb127) (o := .cells #[.string a0_0, .slice A0_1 l0_1.length c0_1, .int .i64 a0_2, .int .i64 a0_3, .bool a0_4, .string a0_5, .slice A0_6 l0_6.length c0_6] 40 (0, 0)) (by (with_reducible repeat (first | refine blk_drewN ?_ _ | refine blk_drew ?_ | refine blk_alloc ?_ _)); exact BK127.out)) : gb128 ≠ gb127)); clear BK127; clear HB; have BK127 := n0_; have HB := n1_; have BK128 := n2_; have GW128 := n3_; have GE128 := n4_; have NB127_128 := n5_; have NB128_127 := n6_; clear n0_ n1_ n2_ n3_ n4_ n5_ n6_; clear hb hbox hg; have hnb28 := NB127_128.out; have hnc28 := NB128_127.out; have hcz29_0 : w27.cell? ⟨gb127, 0, none⟩ = some (.string a0_0) := (blk_cell BK127.out 0).trans rfl; have hcz29_1 : w27.cell? ⟨gb127, 1, none⟩ = some (.slice A0_1 l0_1.length c0_1) := (blk_cell BK127.out 1).trans rfl; have hcz29_2 : w27.cell? ⟨gb127, 2, none⟩ = some (.int .i64 a0_2) := (blk_cell BK127.out 2).trans rfl; have hcz29_3 : w27.cell? ⟨gb127, 3, none⟩ = some (.int .i64 a0_3) := (blk_cell BK127.out 3).trans rfl; have hcz29_4 : w27.cell? ⟨gb127, 4, none⟩ = some (.bool a0_4) := (blk_cell BK127.out 4).trans rfl; have hcz29_5 : w27.cell? ⟨gb127, 5, none⟩ = some (.string a0_5) := (blk_cell BK127.out 5).trans rfl; have hcz29_6 : w27.cell? ⟨gb127, 6, none⟩ = some (.slice A0_6 l0_6.length c0_6) := (blk_cell BK127.out 6).trans rfl; have hfz29_0 := blk_frozen BK127.out 0; have hfz29_1 := blk_frozen BK127.out 1; have hfz29_2 := blk_frozen BK127.out 2; have hfz29_3 := blk_frozen BK127.out 3; have hfz29_4 := blk_frozen BK127.out 4; have hfz29_5 := blk_frozen BK127.out 5; have hfz29_6 := blk_frozen BK127.out 6; have hcz30_0 : w27.cell? ⟨gb128, 0, none⟩ = some (.string a1_0) := (blk_cell BK128.out 0).trans rfl; have hcz30_1 : w27.cell? ⟨gb128, 1, none⟩ = some (.slice A1_1 l1_1.length c1_1) := (blk_cell BK128.out 1).trans rfl; have hcz30_2 : w27.cell? ⟨gb128, 2, none⟩ = some (.int .i64 a1_2) := (blk_cell BK128.out 2).trans rfl; have hcz30_3 : w27.cell? ⟨gb128, 3, none⟩ = some (.int .i64 a1_3) := (blk_cell BK128.out 3).trans rfl; have hcz30_4 : w27.cell? ⟨gb128, 4, none⟩ = some (.bool a1_4) := (blk_cell BK128.out 4).trans rfl; have hcz30_5 : w27.cell? ⟨gb128, 5, none⟩ = some (.string a1_5) := (blk_cell BK128.out 5).trans rfl; have hcz30_6 : w27.cell? ⟨gb128, 6, none⟩ = some (.slice A1_6 l1_6.length c1_6) := (blk_cell BK128.out 6).trans rfl; have hfz30_0 := blk_frozen BK128.out 0; have hfz30_1 := blk_frozen BK128.out 1; have hfz30_2 := blk_frozen BK128.out 2; have hfz30_3 := blk_frozen BK128.out 3; have hfz30_4 := blk_frozen BK128.out 4; have hfz30_5 := blk_frozen BK128.out 5; have hfz30_6 := blk_frozen BK128.out 6))
          go_ret
          exact ⟨by first | rfl | (simp [errW_none, errW_some] <;> rfl) | (simp [*, errW_none, errW_some] <;> rfl), by repeat (first | (with_reducible first | exact HB.out | apply below_alloc | apply pw_below_drewN | apply below_drew1 | refine below_set ?_ GE127.out | refine below_set ?_ GE128.out) | exact HB.out)⟩
      · rw [if_neg c5] at H
        have c5b0 : (a0_4 == a1_4) = false := by simpa using c5
        (try (have c5b1 : decide (a0_4 = a1_4) = false := by simpa using c5))
        (try (have c5b2 : (a0_4 == a1_4) = false := by simpa using c5))
        (try (have c5b3 : ¬ (a0_4 = a1_4) := by simpa using c5))
        clear c5
        obtain rfl := Option.some.inj H
        go_enter Try.func28, Try.ntmps28
        go_wp2_with (first | ((with_reducible refine gate_dst (N := 2) rfl ?_); refine box_event ?hg (N := 2) ?hd (cs := #[.string a0_0, .slice A0_1 l0_1.length c0_1, .int .i64 a0_2, .int .i64 a0_3, .bool a0_4, .string a0_5, .slice A0_6 l0_6.length c0_6]) (t := 40) ?hr ?_; (case hd => rfl); (case hg => rfl); (case hr => first | (go_simp; done) | (go_simp; rfl)); intro gb127 hg w31 hbox hb; have n0_ := Aside0.mk (below_step (by repeat (first | (with_reducible first | exact HB.out | apply below_alloc | apply pw_below_drewN | apply below_drew1) | exact HB.out)) hb); have n1_ := Aside0.mk (hbox); have n2_ := Aside0.mk ((by rw [hg]; exact (below_size (by repeat (first | (with_reducible first | exact HB.out | apply below_alloc | apply pw_below_drewN | apply below_drew1) | exact HB.out))) : w.heap.size ≤ gb127)); have n3_ := Aside0.mk ((by rw [hg]; exact (below_size (by repeat (first | (with_reducible first | exact HB.out | apply below_alloc | apply pw_below_drewN | apply below_drew1) | exact HB.out))) : w.heap.size ≤ gb127)); clear HB; have HB := n0_; have BK127 := n1_; have GW127 := n2_; have GE127 := n3_; clear n0_ n1_ n2_ n3_; clear hb hbox hg) | ((with_reducible refine gate_dst (N := 3) rfl ?_); refine box_event ?hg (N := 3) ?hd (cs := #[.string a1_0, .slice A1_1 l1_1.length c1_1, .int .i64 a1_2, .int .i64 a1_3, .bool a1_4, .string a1_5, .slice A1_6 l1_6.length c1_6]) (t := 40) ?hr ?_; (case hd => rfl); (case hg => rfl); (case hr => first | (go_simp; done) | (go_simp; rfl)); intro gb128 hg w32 hbox hb; have n0_ := Aside0.mk (blk_below (g := gb127) (o := .cells #[.string a0_0, .slice A0_1 l0_1.length c0_1, .int .i64 a0_2, .int .i64 a0_3, .bool a0_4, .string a0_5, .slice A0_6 l0_6.length c0_6] 40 (0, 0)) (by (with_reducible repeat (first | refine blk_drewN ?_ _ | refine blk_drew ?_ | refine blk_alloc ?_ _)); exact BK127.out) hb); have n1_ := Aside0.mk (below_step (by repeat (first | (with_reducible first | exact HB.out | apply below_alloc | apply pw_below_drewN | apply below_drew1 | refine below_set ?_ GE127.out) | exact HB.out)) hb); have n2_ := Aside0.mk (hbox); have n3_ := Aside0.mk ((by rw [hg]; exact (below_size (by repeat (first | (with_reducible first | exact HB.out | apply below_alloc | apply pw_below_drewN | apply below_drew1 | refine below_set ?_ GE127.out) | exact HB.out))) : w.heap.size ≤ gb128)); have n4_ := Aside0.mk ((by rw [hg]; exact (below_size (by repeat (first | (with_reducible first | exact HB.out | apply below_alloc | apply pw_below_drewN | apply below_drew1 | refine below_set ?_ GE127.out) | exact HB.out))) : w.heap.size ≤ gb128)); have n5_ := Aside0.mk ((by rw [hg]; exact Nat.ne_of_lt (blk_lt (g := gb127) (o := .cells #[.string a0_0, .slice A0_1 l0_1.length c0_1, .int .i64 a0_2, .int .i64 a0_3, .bool a0_4, .string a0_5, .slice A0_6 l0_6.length c0_6] 40 (0, 0)) (by (with_reducible repeat (first | refine blk_drewN ?_ _ | refine blk_drew ?_ | refine blk_alloc ?_ _)); exact BK127.out)) : gb127 ≠ gb128)); have n6_ := Aside0.mk ((by rw [hg]; exact Nat.ne_of_gt (blk_lt (g := gb127) (o := .cells #[.string a0_0, .slice A0_1 l0_1.length c0_1, .int .i64 a0_2, .int .i64 a0_3, .bool a0_4, .string a0_5, .slice A0_6 l0_6.length c0_6] 40 (0, 0)) (by (with_reducible repeat (first | refine blk_drewN ?_ _ | refine blk_drew ?_ | refine blk_alloc ?_ _)); exact BK127.out)) : gb128 ≠ gb127)); clear BK127; clear HB; have BK127 := n0_; have HB := n1_; have BK128 := n2_; have GW128 := n3_; have GE128 := n4_; have NB127_128 := n5_; have NB128_127 := n6_; clear n0_ n1_ n2_ n3_ n4_ n5_ n6_; clear hb hbox hg; have hnb33 := NB127_128.out; have hnc33 := NB128_127.out; have hcz34_0 : w32.cell? ⟨gb127, 0, none⟩ = some (.string a0_0) := (blk_cell BK127.out 0).trans rfl; have hcz34_1 : w32.cell? ⟨gb127, 1, none⟩ = some (.slice A0_1 l0_1.length c0_1) := (blk_cell BK127.out 1).trans rfl; have hcz34_2 : w32.cell? ⟨gb127, 2, none⟩ = some (.int .i64 a0_2) := (blk_cell BK127.out 2).trans rfl; have hcz34_3 : w32.cell? ⟨gb127, 3, none⟩ = some (.int .i64 a0_3) := (blk_cell BK127.out 3).trans rfl; have hcz34_4 : w32.cell? ⟨gb127, 4, none⟩ = some (.bool a0_4) := (blk_cell BK127.out 4).trans rfl; have hcz34_5 : w32.cell? ⟨gb127, 5, none⟩ = some (.string a0_5) := (blk_cell BK127.out 5).trans rfl; have hcz34_6 : w32.cell? ⟨gb127, 6, none⟩ = some (.slice A0_6 l0_6.length c0_6) := (blk_cell BK127.out 6).trans rfl; have hfz34_0 := blk_frozen BK127.out 0; have hfz34_1 := blk_frozen BK127.out 1; have hfz34_2 := blk_frozen BK127.out 2; have hfz34_3 := blk_frozen BK127.out 3; have hfz34_4 := blk_frozen BK127.out 4; have hfz34_5 := blk_frozen BK127.out 5; have hfz34_6 := blk_frozen BK127.out 6; have hcz35_0 : w32.cell? ⟨gb128, 0, none⟩ = some (.string a1_0) := (blk_cell BK128.out 0).trans rfl; have hcz35_1 : w32.cell? ⟨gb128, 1, none⟩ = some (.slice A1_1 l1_1.length c1_1) := (blk_cell BK128.out 1).trans rfl; have hcz35_2 : w32.cell? ⟨gb128, 2, none⟩ = some (.int .i64 a1_2) := (blk_cell BK128.out 2).trans rfl; have hcz35_3 : w32.cell? ⟨gb128, 3, none⟩ = some (.int .i64 a1_3) := (blk_cell BK128.out 3).trans rfl; have hcz35_4 : w32.cell? ⟨gb128, 4, none⟩ = some (.bool a1_4) := (blk_cell BK128.out 4).trans rfl; have hcz35_5 : w32.cell? ⟨gb128, 5, none⟩ = some (.string a1_5) := (blk_cell BK128.out 5).trans rfl; have hcz35_6 : w32.cell? ⟨gb128, 6, none⟩ = some (.slice A1_6 l1_6.length c1_6) := (blk_cell BK128.out 6).trans rfl; have hfz35_0 := blk_frozen BK128.out 0; have hfz35_1 := blk_frozen BK128.out 1; have hfz35_2 := blk_frozen BK128.out 2; have hfz35_3 := blk_frozen BK128.out 3; have hfz35_4 := blk_frozen BK128.out 4; have hfz35_5 := blk_frozen BK128.out 5; have hfz35_6 := blk_frozen BK128.out 6))
        go_ret
        exact ⟨by first | rfl | (simp [errW_none, errW_some] <;> rfl) | (simp [*, errW_none, errW_some] <;> rfl), by repeat (first | (with_reducible first | exact HB.out | apply below_alloc | apply pw_below_drewN | apply below_drew1 | refine below_set ?_ GE127.out | refine below_set ?_ GE128.out) | exact HB.out)⟩
    · rw [if_neg c4] at H
      have c4b0 : (a0_5.toList == a1_5.toList) = false := beq_eq_false_iff_ne.mpr c4
      have c4b1 : (a0_5.toList != a1_5.toList) = true := bne_iff_ne.mpr c4
      obtain rfl := Option.some.inj H
      go_enter Try.func28, Try.ntmps28
      go_wp2_with (first | ((with_reducible refine gate_dst (N := 2) rfl ?_); refine box_event ?hg (N := 2) ?hd (cs := #[.string a0_0, .slice A0_1 l0_1.length c0_1, .int .i64 a0_2, .int .i64 a0_3, .bool a0_4, .string a0_5, .slice A0_6 l0_6.length c0_6]) (t := 40) ?hr ?_; (case hd => rfl); (case hg => rfl); (case hr => first | (go_simp; done) | (go_simp; rfl)); intro gb127 hg w36 hbox hb; have n0_ := Aside0.mk (below_step (by repeat (first | (with_reducible first | exact HB.out | apply below_alloc | apply pw_below_drewN | apply below_drew1) | exact HB.out)) hb); have n1_ := Aside0.mk (hbox); have n2_ := Aside0.mk ((by rw [hg]; exact (below_size (by repeat (first | (with_reducible first | exact HB.out | apply below_alloc | apply pw_below_drewN | apply below_drew1) | exact HB.out))) : w.heap.size ≤ gb127)); have n3_ := Aside0.mk ((by rw [hg]; exact (below_size (by repeat (first | (with_reducible first | exact HB.out | apply below_alloc | apply pw_below_drewN | apply below_drew1) | exact HB.out))) : w.heap.size ≤ gb127)); clear HB; have HB := n0_; have BK127 := n1_; have GW127 := n2_; have GE127 := n3_; clear n0_ n1_ n2_ n3_; clear hb hbox hg) | ((with_reducible refine gate_dst (N := 3) rfl ?_); refine box_event ?hg (N := 3) ?hd (cs := #[.string a1_0, .slice A1_1 l1_1.length c1_1, .int .i64 a1_2, .int .i64 a1_3, .bool a1_4, .string a1_5, .slice A1_6 l1_6.length c1_6]) (t := 40) ?hr ?_; (case hd => rfl); (case hg => rfl); (case hr => first | (go_simp; done) | (go_simp; rfl)); intro gb128 hg w37 hbox hb; have n0_ := Aside0.mk (blk_below (g := gb127) (o := .cells #[.string a0_0, .slice A0_1 l0_1.length c0_1, .int .i64 a0_2, .int .i64 a0_3, .bool a0_4, .string a0_5, .slice A0_6 l0_6.length c0_6] 40 (0, 0)) (by (with_reducible repeat (first | refine blk_drewN ?_ _ | refine blk_drew ?_ | refine blk_alloc ?_ _)); exact BK127.out) hb); have n1_ := Aside0.mk (below_step (by repeat (first | (with_reducible first | exact HB.out | apply below_alloc | apply pw_below_drewN | apply below_drew1 | refine below_set ?_ GE127.out) | exact HB.out)) hb); have n2_ := Aside0.mk (hbox); have n3_ := Aside0.mk ((by rw [hg]; exact (below_size (by repeat (first | (with_reducible first | exact HB.out | apply below_alloc | apply pw_below_drewN | apply below_drew1 | refine below_set ?_ GE127.out) | exact HB.out))) : w.heap.size ≤ gb128)); have n4_ := Aside0.mk ((by rw [hg]; exact (below_size (by repeat (first | (with_reducible first | exact HB.out | apply below_alloc | apply pw_below_drewN | apply below_drew1 | refine below_set ?_ GE127.out) | exact HB.out))) : w.heap.size ≤ gb128)); have n5_ := Aside0.mk ((by rw [hg]; exact Nat.ne_of_lt (blk_lt (g := gb127) (o := .cells #[.string a0_0, .slice A0_1 l0_1.length c0_1, .int .i64 a0_2, .int .i64 a0_3, .bool a0_4, .string a0_5, .slice A0_6 l0_6.length c0_6] 40 (0, 0)) (by (with_reducible repeat (first | refine blk_drewN ?_ _ | refine blk_drew ?_ | refine blk_alloc ?_ _)); exact BK127.out)) : gb127 ≠ gb128)); have n6_ := Aside0.mk ((by rw [hg]; exact Nat.ne_of_gt (blk_lt (g := gb127) (o := .cells #[.string a0_0, .slice A0_1 l0_1.length c0_1, .int .i64 a0_2, .int .i64 a0_3, .bool a0_4, .string a0_5, .slice A0_6 l0_6.length c0_6] 40 (0, 0)) (by (with_reducible repeat (first | refine blk_drewN ?_ _ | refine blk_drew ?_ | refine blk_alloc ?_ _)); exact BK127.out)) : gb128 ≠ gb127)); clear BK127; clear HB; have BK127 := n0_; have HB := n1_; have BK128 := n2_; have GW128 := n3_; have GE128 := n4_; have NB127_128 := n5_; have NB128_127 := n6_; clear n0_ n1_ n2_ n3_ n4_ n5_ n6_; clear hb hbox hg; have hnb38 := NB127_128.out; have hnc38 := NB128_127.out; have hcz39_0 : w37.cell? ⟨gb127, 0, none⟩ = some (.string a0_0) := (blk_cell BK127.out 0).trans rfl; have hcz39_1 : w37.cell? ⟨gb127, 1, none⟩ = some (.slice A0_1 l0_1.length c0_1) := (blk_cell BK127.out 1).trans rfl; have hcz39_2 : w37.cell? ⟨gb127, 2, none⟩ = some (.int .i64 a0_2) := (blk_cell BK127.out 2).trans rfl; have hcz39_3 : w37.cell? ⟨gb127, 3, none⟩ = some (.int .i64 a0_3) := (blk_cell BK127.out 3).trans rfl; have hcz39_4 : w37.cell? ⟨gb127, 4, none⟩ = some (.bool a0_4) := (blk_cell BK127.out 4).trans rfl; have hcz39_5 : w37.cell? ⟨gb127, 5, none⟩ = some (.string a0_5) := (blk_cell BK127.out 5).trans rfl; have hcz39_6 : w37.cell? ⟨gb127, 6, none⟩ = some (.slice A0_6 l0_6.length c0_6) := (blk_cell BK127.out 6).trans rfl; have hfz39_0 := blk_frozen BK127.out 0; have hfz39_1 := blk_frozen BK127.out 1; have hfz39_2 := blk_frozen BK127.out 2; have hfz39_3 := blk_frozen BK127.out 3; have hfz39_4 := blk_frozen BK127.out 4; have hfz39_5 := blk_frozen BK127.out 5; have hfz39_6 := blk_frozen BK127.out 6; have hcz40_0 : w37.cell? ⟨gb128, 0, none⟩ = some (.string a1_0) := (blk_cell BK128.out 0).trans rfl; have hcz40_1 : w37.cell? ⟨gb128, 1, none⟩ = some (.slice A1_1 l1_1.length c1_1) := (blk_cell BK128.out 1).trans rfl; have hcz40_2 : w37.cell? ⟨gb128, 2, none⟩ = some (.int .i64 a1_2) := (blk_cell BK128.out 2).trans rfl; have hcz40_3 : w37.cell? ⟨gb128, 3, none⟩ = some (.int .i64 a1_3) := (blk_cell BK128.out 3).trans rfl; have hcz40_4 : w37.cell? ⟨gb128, 4, none⟩ = some (.bool a1_4) := (blk_cell BK128.out 4).trans rfl; have hcz40_5 : w37.cell? ⟨gb128, 5, none⟩ = some (.string a1_5) := (blk_cell BK128.out 5).trans rfl; have hcz40_6 : w37.cell? ⟨gb128, 6, none⟩ = some (.slice A1_6 l1_6.length c1_6) := (blk_cell BK128.out 6).trans rfl; have hfz40_0 := blk_frozen BK128.out 0; have hfz40_1 := blk_frozen BK128.out 1; have hfz40_2 := blk_frozen BK128.out 2; have hfz40_3 := blk_frozen BK128.out 3; have hfz40_4 := blk_frozen BK128.out 4; have hfz40_5 := blk_frozen BK128.out 5; have hfz40_6 := blk_frozen BK128.out 6))
      go_ret
      exact ⟨by first | rfl | (simp [errW_none, errW_some] <;> rfl) | (simp [*, errW_none, errW_some] <;> rfl), by repeat (first | (with_reducible first | exact HB.out | apply below_alloc | apply pw_below_drewN | apply below_drew1 | refine below_set ?_ GE127.out | refine below_set ?_ GE128.out) | exact HB.out)⟩
  · rw [if_neg c3] at H
    have c3b0 : (a0_0.toList == a1_0.toList) = false := beq_eq_false_iff_ne.mpr c3
    have c3b1 : (a0_0.toList != a1_0.toList) = true := bne_iff_ne.mpr c3
    obtain rfl := Option.some.inj H
    go_enter Try.func28, Try.ntmps28
    go_wp2_with (first | ((with_reducible refine gate_dst (N := 2) rfl ?_); refine box_event ?hg (N := 2) ?hd (cs := #[.string a0_0, .slice A0_1 l0_1.length c0_1, .int .i64 a0_2, .int .i64 a0_3, .bool a0_4, .string a0_5, .slice A0_6 l0_6.length c0_6]) (t := 40) ?hr ?_; (case hd => rfl); (case hg => rfl); (case hr => first | (go_simp; done) | (go_simp; rfl)); intro gb127 hg w41 hbox hb; have n0_ := Aside0.mk (below_step (by repeat (first | (with_reducible first | exact HB.out | apply below_alloc | apply pw_below_drewN | apply below_drew1) | exact HB.out)) hb); have n1_ := Aside0.mk (hbox); have n2_ := Aside0.mk ((by rw [hg]; exact (below_size (by repeat (first | (with_reducible first | exact HB.out | apply below_alloc | apply pw_below_drewN | apply below_drew1) | exact HB.out))) : w.heap.size ≤ gb127)); have n3_ := Aside0.mk ((by rw [hg]; exact (below_size (by repeat (first | (with_reducible first | exact HB.out | apply below_alloc | apply pw_below_drewN | apply below_drew1) | exact HB.out))) : w.heap.size ≤ gb127)); clear HB; have HB := n0_; have BK127 := n1_; have GW127 := n2_; have GE127 := n3_; clear n0_ n1_ n2_ n3_; clear hb hbox hg) | ((with_reducible refine gate_dst (N := 3) rfl ?_); refine box_event ?hg (N := 3) ?hd (cs := #[.string a1_0, .slice A1_1 l1_1.length c1_1, .int .i64 a1_2, .int .i64 a1_3, .bool a1_4, .string a1_5, .slice A1_6 l1_6.length c1_6]) (t := 40) ?hr ?_; (case hd => rfl); (case hg => rfl); (case hr => first | (go_simp; done) | (go_simp; rfl)); intro gb128 hg w42 hbox hb; have n0_ := Aside0.mk (blk_below (g := gb127) (o := .cells #[.string a0_0, .slice A0_1 l0_1.length c0_1, .int .i64 a0_2, .int .i64 a0_3, .bool a0_4, .string a0_5, .slice A0_6 l0_6.length c0_6] 40 (0, 0)) (by (with_reducible repeat (first | refine blk_drewN ?_ _ | refine blk_drew ?_ | refine blk_alloc ?_ _)); exact BK127.out) hb); have n1_ := Aside0.mk (below_step (by repeat (first | (with_reducible first | exact HB.out | apply below_alloc | apply pw_below_drewN | apply below_drew1 | refine below_set ?_ GE127.out) | exact HB.out)) hb); have n2_ := Aside0.mk (hbox); have n3_ := Aside0.mk ((by rw [hg]; exact (below_size (by repeat (first | (with_reducible first | exact HB.out | apply below_alloc | apply pw_below_drewN | apply below_drew1 | refine below_set ?_ GE127.out) | exact HB.out))) : w.heap.size ≤ gb128)); have n4_ := Aside0.mk ((by rw [hg]; exact (below_size (by repeat (first | (with_reducible first | exact HB.out | apply below_alloc | apply pw_below_drewN | apply below_drew1 | refine below_set ?_ GE127.out) | exact HB.out))) : w.heap.size ≤ gb128)); have n5_ := Aside0.mk ((by rw [hg]; exact Nat.ne_of_lt (blk_lt (g := gb127) (o := .cells #[.string a0_0, .slice A0_1 l0_1.length c0_1, .int .i64 a0_2, .int .i64 a0_3, .bool a0_4, .string a0_5, .slice A0_6 l0_6.length c0_6] 40 (0, 0)) (by (with_reducible repeat (first | refine blk_drewN ?_ _ | refine blk_drew ?_ | refine blk_alloc ?_ _)); exact BK127.out)) : gb127 ≠ gb128)); have n6_ := Aside0.mk ((by rw [hg]; exact Nat.ne_of_gt (blk_lt (g := gb127) (o := .cells #[.string a0_0, .slice A0_1 l0_1.length c0_1, .int .i64 a0_2, .int .i64 a0_3, .bool a0_4, .string a0_5, .slice A0_6 l0_6.length c0_6] 40 (0, 0)) (by (with_reducible repeat (first | refine blk_drewN ?_ _ | refine blk_drew ?_ | refine blk_alloc ?_ _)); exact BK127.out)) : gb128 ≠ gb127)); clear BK127; clear HB; have BK127 := n0_; have HB := n1_; have BK128 := n2_; have GW128 := n3_; have GE128 := n4_; have NB127_128 := n5_; have NB128_127 := n6_; clear n0_ n1_ n2_ n3_ n4_ n5_ n6_; clear hb hbox hg; have hnb43 := NB127_128.out; have hnc43 := NB128_127.out; have hcz44_0 : w42.cell? ⟨gb127, 0, none⟩ = some (.string a0_0) := (blk_cell BK127.out 0).trans rfl; have hcz44_1 : w42.cell? ⟨gb127, 1, none⟩ = some (.slice A0_1 l0_1.length c0_1) := (blk_cell BK127.out 1).trans rfl; have hcz44_2 : w42.cell? ⟨gb127, 2, none⟩ = some (.int .i64 a0_2) := (blk_cell BK127.out 2).trans rfl; have hcz44_3 : w42.cell? ⟨gb127, 3, none⟩ = some (.int .i64 a0_3) := (blk_cell BK127.out 3).trans rfl; have hcz44_4 : w42.cell? ⟨gb127, 4, none⟩ = some (.bool a0_4) := (blk_cell BK127.out 4).trans rfl; have hcz44_5 : w42.cell? ⟨gb127, 5, none⟩ = some (.string a0_5) := (blk_cell BK127.out 5).trans rfl; have hcz44_6 : w42.cell? ⟨gb127, 6, none⟩ = some (.slice A0_6 l0_6.length c0_6) := (blk_cell BK127.out 6).trans rfl; have hfz44_0 := blk_frozen BK127.out 0; have hfz44_1 := blk_frozen BK127.out 1; have hfz44_2 := blk_frozen BK127.out 2; have hfz44_3 := blk_frozen BK127.out 3; have hfz44_4 := blk_frozen BK127.out 4; have hfz44_5 := blk_frozen BK127.out 5; have hfz44_6 := blk_frozen BK127.out 6; have hcz45_0 : w42.cell? ⟨gb128, 0, none⟩ = some (.string a1_0) := (blk_cell BK128.out 0).trans rfl; have hcz45_1 : w42.cell? ⟨gb128, 1, none⟩ = some (.slice A1_1 l1_1.length c1_1) := (blk_cell BK128.out 1).trans rfl; have hcz45_2 : w42.cell? ⟨gb128, 2, none⟩ = some (.int .i64 a1_2) := (blk_cell BK128.out 2).trans rfl; have hcz45_3 : w42.cell? ⟨gb128, 3, none⟩ = some (.int .i64 a1_3) := (blk_cell BK128.out 3).trans rfl; have hcz45_4 : w42.cell? ⟨gb128, 4, none⟩ = some (.bool a1_4) := (blk_cell BK128.out 4).trans rfl; have hcz45_5 : w42.cell? ⟨gb128, 5, none⟩ = some (.string a1_5) := (blk_cell BK128.out 5).trans rfl; have hcz45_6 : w42.cell? ⟨gb128, 6, none⟩ = some (.slice A1_6 l1_6.length c1_6) := (blk_cell BK128.out 6).trans rfl; have hfz45_0 := blk_frozen BK128.out 0; have hfz45_1 := blk_frozen BK128.out 1; have hfz45_2 := blk_frozen BK128.out 2; have hfz45_3 := blk_frozen BK128.out 3; have hfz45_4 := blk_frozen BK128.out 4; have hfz45_5 := blk_frozen BK128.out 5; have hfz45_6 := blk_frozen BK128.out 6))
    go_ret
    exact ⟨by first | rfl | (simp [errW_none, errW_some] <;> rfl) | (simp [*, errW_none, errW_some] <;> rfl), by repeat (first | (with_reducible first | exact HB.out | apply below_alloc | apply pw_below_drewN | apply below_drew1 | refine below_set ?_ GE127.out | refine below_set ?_ GE128.out) | exact HB.out)⟩
end Go.Proofs.Ytooemobolfoefaa.P

namespace Go.Proofs.Ytooemobolfoefaa.P
open Go.RowKit Go.Proofs.YtooemobolfoefaaW.PrintWords Go.Proofs.YtooemobolfoefaaW.PrintLast Go.Proofs.YtooemobolfoefaaW.PrintMore
set_option linter.unusedVariables false
theorem sameO_any (a b : List SOp) (hl : a.length ≤ 9223372036854775807) {k : Nat} (hk : a.length < k) : expr_Same.f k a b = some (eqO a b) := by
  unfold expr_Same.f slices_Equal_api_Op.f eqO
  by_cases he : a.length = b.length
  · have h := equalO_loop a b hl he a.length 0 k (by omega) (by omega) (fun j h => by omega)
    rw [if_pos (by omega), show slices_Equal_api_Op.l0 k a b (a.length : Int) 0 = _ from h, Option.bind_some]
  · rw [if_neg (by omega), eqf_len he, Option.bind_some]
def eqSt (x y : SStep) : Bool := decide (x.f0.toList = y.f0.toList) && (decide (x.f5.toList = y.f5.toList) && ((x.f4 == y.f4) && ((x.f2 == y.f2) && ((x.f3 == y.f3) && (eqO x.f1 y.f1 && eqO x.f6 y.f6)))))
theorem eqSt_iff {x y : SStep} : eqSt x y = true ↔ x = y := by
  unfold eqSt
  simp only [Bool.and_eq_true, decide_eq_true_eq, beq_iff_eq, eqO_iff]
  constructor
  · rintro ⟨h0, h5, h4, h2, h3, h1, h6⟩
    obtain ⟨a0, a1, a2, a3, a4, a5, a6⟩ := x
    obtain ⟨b0, b1, b2, b3, b4, b5, b6⟩ := y
    obtain rfl : a0 = b0 := toList_inj h0
    obtain rfl : a5 = b5 := toList_inj h5
    obtain rfl : a4 = b4 := h4
    obtain rfl : a2 = b2 := h2
    obtain rfl : a3 = b3 := h3
    obtain rfl : a1 = b1 := h1
    obtain rfl : a6 = b6 := h6
    rfl
  · rintro rfl
    exact ⟨rfl, rfl, rfl, rfl, rfl, rfl, rfl⟩
theorem alike_is (x y : SStep) {k : Nat} (h1 : x.f1.length < k) (h6 : x.f6.length < k) (l1 : x.f1.length ≤ 9223372036854775807) (l6 : x.f6.length ≤ 9223372036854775807) : query_alike.f k x.f0 x.f1 x.f2 x.f3 x.f4 x.f5 x.f6 y.f0 y.f1 y.f2 y.f3 y.f4 y.f5 y.f6 = some (eqSt x y) := by
  unfold query_alike.f eqSt
  simp only [sameO_any _ _ l1 h1, sameO_any _ _ l6 h6, Option.bind_some]
  by_cases c0 : x.f0.toList = y.f0.toList
  · rw [if_pos c0, decide_eq_true c0, Bool.true_and]
    by_cases c5 : x.f5.toList = y.f5.toList
    · rw [if_pos c5, decide_eq_true c5, Bool.true_and]
      cases c4 : (x.f4 == y.f4) with
      | false => rfl
      | true =>
        rw [if_pos rfl, Bool.true_and]
        by_cases c2 : x.f2 = y.f2
        · rw [if_pos c2, beq_iff_eq.2 c2, Bool.true_and]
          by_cases c3 : x.f3 = y.f3
          · rw [if_pos c3, beq_iff_eq.2 c3, Bool.true_and]
            cases eqO x.f1 y.f1 <;> cases eqO x.f6 y.f6 <;> rfl
          · rw [if_neg c3, beq_eq_false_iff_ne.2 c3, Bool.false_and]
        · rw [if_neg c2, beq_eq_false_iff_ne.2 c2, Bool.false_and]
    · rw [if_neg c5, decide_eq_false c5, Bool.false_and]
  · rw [if_neg c0, decide_eq_false c0, Bool.false_and]
def eqQ (p q : SQuery) : Bool := (p.f2 == q.f2) && ((p.f3 == q.f3) && ((p.f4 == q.f4) && ((p.f1 == q.f1) && eqf eqSt zStep p.f0 q.f0)))
theorem eqQ_iff {p q : SQuery} : eqQ p q = true ↔ p = q := by
  unfold eqQ
  simp only [Bool.and_eq_true, beq_iff_eq, eqf_iff]
  constructor
  · rintro ⟨h2, h3, h4, h1, h0, hs⟩
    obtain ⟨a0, a1, a2, a3, a4⟩ := p
    obtain ⟨b0, b1, b2, b3, b4⟩ := q
    obtain rfl : a2 = b2 := h2
    obtain rfl : a3 = b3 := h3
    obtain rfl : a4 = b4 := h4
    obtain rfl : a1 = b1 := h1
    have : a0 = b0 := by
      refine List.ext_getElem h0 (fun i hi hj => ?_)
      have := eqSt_iff.1 (hs i hi)
      simpa [List.getD, hi, hj] using this
    rw [this]
  · rintro rfl
    exact ⟨rfl, rfl, rfl, rfl, rfl, fun i _ => eqSt_iff.2 rfl⟩
theorem eqQ_refl (p : SQuery) : eqQ p p = true := eqQ_iff.2 rfl
end Go.Proofs.Ytooemobolfoefaa.P

namespace Go.Proofs.Ytooemobolfoefaa.P
open Go.RowKit Go.Proofs.YtooemobolfoefaaW.PrintWords Go.Proofs.YtooemobolfoefaaW.PrintLast Go.Proofs.YtooemobolfoefaaW.PrintMore
attribute [local go_sem] max2_int min2_int max_two min_two max_three min_three max_four min_four   -- for this text's walks alone
set_option linter.unusedVariables false
set_option linter.unusedSimpArgs false
def towncrierref05_Name.l0 : Nat → ByteArray → Int → Option (Bool)
  | 0, _, _ => none
  | k + 1, x0, x3 => if x3 < (x0.size : Int) then (if 0 ≤ x3 then (if (bt x0 x3) ≥ 97 then (if ((bt x0 x3) ≤ 122) then (towncrierref05_Name.l0 k x0 (wrap64 (x3 + 1))) else (if x3 = 0 then (some false) else (if (bt x0 x3) = 95 then (towncrierref05_Name.l0 k x0 (wrap64 (x3 + 1))) else (if (bt x0 x3) < 48 then (some false) else (if (bt x0 x3) > 57 then (some false) else (towncrierref05_Name.l0 k x0 (wrap64 (x3 + 1)))))))) else (if x3 = 0 then (some false) else (if (bt x0 x3) = 95 then (towncrierref05_Name.l0 k x0 (wrap64 (x3 + 1))) else (if (bt x0 x3) < 48 then (some false) else (if (bt x0 x3) > 57 then (some false) else (towncrierref05_Name.l0 k x0 (wrap64 (x3 + 1)))))))) else (none)) else (if (x0.size : Int) ≥ 1 then (some (decide ((x0.size : Int) ≤ 12))) else (some false))
def towncrierref05_Name.f (k : Nat) (a0 : ByteArray) : Option (Bool) := towncrierref05_Name.l0 k a0 0
set_option maxHeartbeats 8000000 in
set_option maxRecDepth 100000 in
theorem towncrierref05_Name.calls (k : Nat) (a0 : ByteArray) (r : Bool) (w : World) (h : towncrierref05_Name.f k a0 = some r) :
    Calls Try.prog 48 #[.string a0] w fun e w' => e = .returned (.bool r) ∧ Drawn0 w w' := by
  have H : (towncrierref05_Name.l0 k a0 0) = some r := h
  clear h
  have H' := Aside0.mk H
  clear H
  go_enter Try.func48, Try.ntmps48
  go_wp2
  go_loopg [3] k (fun kq v3 w' => ∃ (x3_1 : Int), v3 = .int .i64 x3_1 ∧ Aside0 (towncrierref05_Name.l0 kq a0 x3_1 = some r) ∧ Aside0 (kq ≤ k) ∧ Drawn0 w w')
  case atStart => exact ⟨(0), (by first | rfl | (simp; done) | (simp [*]; done)), H', ⟨Nat.le_refl _⟩, by repeat (first | exact Drawn0.refl _ | apply Drawn0.step)⟩
  case round =>
    clear H'
    obtain ⟨x3_1, rfl, HA, HK1, ⟨m1, rfl⟩⟩ := hrel
    cases gk with
    | zero => exact absurd HA.out (by simp [towncrierref05_Name.l0])
    | succ k1 =>
      have H := HA.out
      clear HA
      simp only [towncrierref05_Name.l0] at H
      by_cases c2 : x3_1 < (a0.size : Int)
      · rw [if_pos c2] at H
        have c2b0 : decide (x3_1 < (a0.size : Int)) = true := decide_eq_true c2
        clear c2
        by_cases c3 : 0 ≤ x3_1
        · rw [if_pos c3] at H
          have c3b0 : decide (0 ≤ x3_1) = true := decide_eq_true c3
          clear c3
          by_cases c5 : (bt a0 x3_1) ≥ 97
          · rw [if_pos c5] at H
            have c5b0 : decide (97 ≤ (bt a0 x3_1)) = true := decide_eq_true c5
            clear c5
            by_cases c6 : ((bt a0 x3_1) ≤ 122)
            · rw [if_pos c6] at H
              have c6b0 : decide ((bt a0 x3_1) ≤ 122) = true := decide_eq_true c6
              clear c6
              have H' := Aside0.mk H
              clear H
              have p4 : 0 ≤ (x3_1 : Int) := of_decide_eq_true (by first | (with_reducible assumption) | assumption)
              have q4 : x3_1 < (a0.size : Int) := of_decide_eq_true (by first | (with_reducible assumption) | assumption)
              have hx4 := bt_at a0 x3_1
              replace p4 := eq_true p4
              replace q4 := eq_true q4
              go_wp2
              go_roundg k1
              case measure => have := HK1.out; omega
              case rel => exact ⟨(wrap64 (x3_1 + 1)), (by first | rfl | (simp; done) | (simp [*]; done)), H', ⟨by have := HK1.out; omega⟩, by repeat (first | exact Drawn0.refl _ | apply Drawn0.step)⟩
            · rw [if_neg c6] at H
              have c6b0 : decide ((bt a0 x3_1) ≤ 122) = false := decide_eq_false c6
              clear c6
              by_cases c7 : x3_1 = 0
              · rw [if_pos c7] at H
                have c7b0 : (x3_1 == 0) = true := beq_iff_eq.mpr c7
                have c7b1 : (x3_1 != 0) = false := bne_eq_false_iff_eq.mpr c7
                clear c7
                obtain rfl := Option.some.inj H
                have p4 : 0 ≤ (x3_1 : Int) := of_decide_eq_true (by first | (with_reducible assumption) | assumption)
                have q4 : x3_1 < (a0.size : Int) := of_decide_eq_true (by first | (with_reducible assumption) | assumption)
                have hx4 := bt_at a0 x3_1
                replace p4 := eq_true p4
                replace q4 := eq_true q4
                go_wp2
                go_ret
                exact ⟨by first | rfl | (simp; done) | (simp [*]; done), by repeat (first | exact Drawn0.refl _ | apply Drawn0.step)⟩
              · rw [if_neg c7] at H
                have c7b0 : (x3_1 == 0) = false := beq_eq_false_iff_ne.mpr c7
                have c7b1 : (x3_1 != 0) = true := bne_iff_ne.mpr c7
                by_cases c8 : (bt a0 x3_1) = 95
                · rw [if_pos c8] at H
                  have c8b0 : ((bt a0 x3_1) == 95) = true := beq_iff_eq.mpr c8
                  have c8b1 : ((bt a0 x3_1) != 95) = false := bne_eq_false_iff_eq.mpr c8
                  clear c8
                  have H' := Aside0.mk H
                  clear H
                  have p4 : 0 ≤ (x3_1 : Int) := of_decide_eq_true (by first | (with_reducible assumption) | assumption)
                  have q4 : x3_1 < (a0.size : Int) := of_decide_eq_true (by first | (with_reducible assumption) | assumption)
                  have hx4 := bt_at a0 x3_1
                  replace p4 := eq_true p4
                  replace q4 := eq_true q4
                  go_wp2
                  go_roundg k1
                  case measure => have := HK1.out; omega
                  case rel => exact ⟨(wrap64 (x3_1 + 1)), (by first | rfl | (simp; done) | (simp [*]; done)), H', ⟨by have := HK1.out; omega⟩, by repeat (first | exact Drawn0.refl _ | apply Drawn0.step)⟩
                · rw [if_neg c8] at H
                  have c8b0 : ((bt a0 x3_1) == 95) = false := beq_eq_false_iff_ne.mpr c8
                  have c8b1 : ((bt a0 x3_1) != 95) = true := bne_iff_ne.mpr c8
                  by_cases c9 : (bt a0 x3_1) < 48
                  · rw [if_pos c9] at H
                    have c9b0 : decide ((bt a0 x3_1) < 48) = true := decide_eq_true c9
                    clear c9
                    obtain rfl := Option.some.inj H
                    have p4 : 0 ≤ (x3_1 : Int) := of_decide_eq_true (by first | (with_reducible assumption) | assumption)
                    have q4 : x3_1 < (a0.size : Int) := of_decide_eq_true (by first | (with_reducible assumption) | assumption)
                    have hx4 := bt_at a0 x3_1
                    replace p4 := eq_true p4
                    replace q4 := eq_true q4
                    go_wp2
                    go_ret
                    exact ⟨by first | rfl | (simp; done) | (simp [*]; done), by repeat (first | exact Drawn0.refl _ | apply Drawn0.step)⟩
                  · rw [if_neg c9] at H
                    have c9b0 : decide ((bt a0 x3_1) < 48) = false := decide_eq_false c9
                    clear c9
                    by_cases c10 : (bt a0 x3_1) > 57
                    · rw [if_pos c10] at H
                      have c10b0 : decide (57 < (bt a0 x3_1)) = true := decide_eq_true c10
                      clear c10
                      obtain rfl := Option.some.inj H
                      have p4 : 0 ≤ (x3_1 : Int) := of_decide_eq_true (by first | (with_reducible assumption) | assumption)
                      have q4 : x3_1 < (a0.size : Int) := of_decide_eq_true (by first | (with_reducible assumption) | assumption)
                      have hx4 := bt_at a0 x3_1
                      replace p4 := eq_true p4
                      replace q4 := eq_true q4
                      go_wp2
                      go_ret
                      exact ⟨by first | rfl | (simp; done) | (simp [*]; done), by repeat (first | exact Drawn0.refl _ | apply Drawn0.step)⟩
                    · rw [if_neg c10] at H
                      have c10b0 : decide (57 < (bt a0 x3_1)) = false := decide_eq_false c10
                      clear c10
                      have H' := Aside0.mk H
                      clear H
                      have p4 : 0 ≤ (x3_1 : Int) := of_decide_eq_true (by first | (with_reducible assumption) | assumption)
                      have q4 : x3_1 < (a0.size : Int) := of_decide_eq_true (by first | (with_reducible assumption) | assumption)
                      have hx4 := bt_at a0 x3_1
                      replace p4 := eq_true p4
                      replace q4 := eq_true q4
                      go_wp2
                      go_roundg k1
                      case measure => have := HK1.out; omega
                      case rel => exact ⟨(wrap64 (x3_1 + 1)), (by first | rfl | (simp; done) | (simp [*]; done)), H', ⟨by have := HK1.out; omega⟩, by repeat (first | exact Drawn0.refl _ | apply Drawn0.step)⟩
          · rw [if_neg c5] at H
            have c5b0 : decide (97 ≤ (bt a0 x3_1)) = false := decide_eq_false c5
            clear c5
            by_cases c11 : x3_1 = 0
            · rw [if_pos c11] at H
              have c11b0 : (x3_1 == 0) = true := beq_iff_eq.mpr c11
              have c11b1 : (x3_1 != 0) = false := bne_eq_false_iff_eq.mpr c11
              clear c11
              obtain rfl := Option.some.inj H
              have p4 : 0 ≤ (x3_1 : Int) := of_decide_eq_true (by first | (with_reducible assumption) | assumption)
              have q4 : x3_1 < (a0.size : Int) := of_decide_eq_true (by first | (with_reducible assumption) | assumption)
              have hx4 := bt_at a0 x3_1
              replace p4 := eq_true p4
              replace q4 := eq_true q4
              go_wp2
              go_ret
              exact ⟨by first | rfl | (simp; done) | (simp [*]; done), by repeat (first | exact Drawn0.refl _ | apply Drawn0.step)⟩
            · rw [if_neg c11] at H
              have c11b0 : (x3_1 == 0) = false := beq_eq_false_iff_ne.mpr c11
              have c11b1 : (x3_1 != 0) = true := bne_iff_ne.mpr c11
              by_cases c12 : (bt a0 x3_1) = 95
              · rw [if_pos c12] at H
                have c12b0 : ((bt a0 x3_1) == 95) = true := beq_iff_eq.mpr c12
                have c12b1 : ((bt a0 x3_1) != 95) = false := bne_eq_false_iff_eq.mpr c12
                clear c12
                have H' := Aside0.mk H
                clear H
                have p4 : 0 ≤ (x3_1 : Int) := of_decide_eq_true (by first | (with_reducible assumption) | assumption)
                have q4 : x3_1 < (a0.size : Int) := of_decide_eq_true (by first | (with_reducible assumption) | assumption)
                have hx4 := bt_at a0 x3_1
                replace p4 := eq_true p4
                replace q4 := eq_true q4
                go_wp2
                go_roundg k1
                case measure => have := HK1.out; omega
                case rel => exact ⟨(wrap64 (x3_1 + 1)), (by first | rfl | (simp; done) | (simp [*]; done)), H', ⟨by have := HK1.out; omega⟩, by repeat (first | exact Drawn0.refl _ | apply Drawn0.step)⟩
              · rw [if_neg c12] at H
                have c12b0 : ((bt a0 x3_1) == 95) = false := beq_eq_false_iff_ne.mpr c12
                have c12b1 : ((bt a0 x3_1) != 95) = true := bne_iff_ne.mpr c12
                by_cases c13 : (bt a0 x3_1) < 48
                · rw [if_pos c13] at H
                  have c13b0 : decide ((bt a0 x3_1) < 48) = true := decide_eq_true c13
                  clear c13
                  obtain rfl := Option.some.inj H
                  have p4 : 0 ≤ (x3_1 : Int) := of_decide_eq_true (by first | (with_reducible assumption) | assumption)
                  have q4 : x3_1 < (a0.size : Int) := of_decide_eq_true (by first | (with_reducible assumption) | assumption)
                  have hx4 := bt_at a0 x3_1
                  replace p4 := eq_true p4
                  replace q4 := eq_true q4
                  go_wp2
                  go_ret
                  exact ⟨by first | rfl | (simp; done) | (simp [*]; done), by repeat (first | exact Drawn0.refl _ | apply Drawn0.step)⟩
                · rw [if_neg c13] at H
                  have c13b0 : decide ((bt a0 x3_1) < 48) = false := decide_eq_false c13
                  clear c13
                  by_cases c14 : (bt a0 x3_1) > 57
                  · rw [if_pos c14] at H
                    have c14b0 : decide (57 < (bt a0 x3_1)) = true := decide_eq_true c14
                    clear c14
                    obtain rfl := Option.some.inj H
                    have p4 : 0 ≤ (x3_1 : Int) := of_decide_eq_true (by first | (with_reducible assumption) | assumption)
                    have q4 : x3_1 < (a0.size : Int) := of_decide_eq_true (by first | (with_reducible assumption) | assumption)
                    have hx4 := bt_at a0 x3_1
                    replace p4 := eq_true p4
                    replace q4 := eq_true q4
                    go_wp2
                    go_ret
                    exact ⟨by first | rfl | (simp; done) | (simp [*]; done), by repeat (first | exact Drawn0.refl _ | apply Drawn0.step)⟩
                  · rw [if_neg c14] at H
                    have c14b0 : decide (57 < (bt a0 x3_1)) = false := decide_eq_false c14
                    clear c14
                    have H' := Aside0.mk H
                    clear H
                    have p4 : 0 ≤ (x3_1 : Int) := of_decide_eq_true (by first | (with_reducible assumption) | assumption)
                    have q4 : x3_1 < (a0.size : Int) := of_decide_eq_true (by first | (with_reducible assumption) | assumption)
                    have hx4 := bt_at a0 x3_1
                    replace p4 := eq_true p4
                    replace q4 := eq_true q4
                    go_wp2
                    go_roundg k1
                    case measure => have := HK1.out; omega
                    case rel => exact ⟨(wrap64 (x3_1 + 1)), (by first | rfl | (simp; done) | (simp [*]; done)), H', ⟨by have := HK1.out; omega⟩, by repeat (first | exact Drawn0.refl _ | apply Drawn0.step)⟩
        · rw [if_neg c3] at H
          exact absurd H (by simp)
      · rw [if_neg c2] at H
        have c2b0 : decide (x3_1 < (a0.size : Int)) = false := decide_eq_false c2
        clear c2
        by_cases c15 : (a0.size : Int) ≥ 1
        · rw [if_pos c15] at H
          have c15b0 : decide (1 ≤ (a0.size : Int)) = true := decide_eq_true c15
          have c15b1 : decide (1 ≤ a0.size) = true := decide_eq_true (by omega)
          clear c15
          obtain rfl := Option.some.inj H
          go_wp2
          go_ret
          exact ⟨by first | rfl | (simp; done) | (simp [*]; done), by repeat (first | exact Drawn0.refl _ | apply Drawn0.step)⟩
        · rw [if_neg c15] at H
          have c15b0 : decide (1 ≤ (a0.size : Int)) = false := decide_eq_false c15
          have c15b1 : decide (1 ≤ a0.size) = false := decide_eq_false (by omega)
          clear c15
          obtain rfl := Option.some.inj H
          go_wp2
          go_ret
          exact ⟨by first | rfl | (simp; done) | (simp [*]; done), by repeat (first | exact Drawn0.refl _ | apply Drawn0.step)⟩
theorem refName_loop (s : ByteArray) (hs : s.size < 4611686018427387904) : ∀ (d i k : Nat), i + d = s.size → d < k → (∀ j, j < i → nameCh j (bt s (j : Int)) = true) → towncrierref05_Name.l0 k s (i : Int) = some (nameB s) := by
  intro d
  induction d with
  | zero =>
    intro i k hi hk h
    obtain ⟨k, rfl⟩ := rounds_of hk
    simp only [towncrierref05_Name.l0]
    rw [if_neg (by omega), name_all s (fun j hj => h j (by omega))]
    by_cases h0 : s.size = 0
    · rw [if_neg (by omega)]; simp [h0]
    · rw [if_pos (by omega)]
      simp [h0]
      omega
  | succ d ih =>
    intro i k hi hk h
    obtain ⟨k, rfl⟩ := rounds_of hk
    simp only [towncrierref05_Name.l0]
    rw [if_pos (by omega), if_pos (by omega), wrap_succ (by omega)]
    have hhit := name_hit s i (by omega)
    have hnext := fun hc => ih (i + 1) k (by omega) (by omega) (all_next h hc)
    generalize bt s (i : Int) = c at *
    by_cases hc : (97 ≤ c ∧ c ≤ 122) ∨ (0 < i ∧ (c = 95 ∨ (48 ≤ c ∧ c ≤ 57)))
    · have hn := hnext (nameCh_ok hc)
      (repeat' split) <;> first | exact hn | (exfalso; omega)
    · have hf := hhit (nameCh_no hc)
      rw [hf]
      (repeat' split) <;> first | rfl | (exfalso; omega)
theorem refName_is (s : ByteArray) {S k : Nat} (hs : s.size ≤ S) (hS : S < 4611686018427387904) (hk : S < k) : towncrierref05_Name.f k s = some (nameB s) :=
  refName_loop s (by omega) s.size 0 k (by omega) (by omega) (fun j hj => by omega)
end Go.Proofs.Ytooemobolfoefaa.P

namespace Go.Proofs.Ytooemobolfoefaa.P
open Go.RowKit Go.Proofs.YtooemobolfoefaaW.PrintWords Go.Proofs.YtooemobolfoefaaW.PrintLast Go.Proofs.YtooemobolfoefaaW.PrintMore
attribute [local go_sem] max2_int min2_int max_two min_two max_three min_three max_four min_four   -- for this text's walks alone
set_option linter.unusedVariables false
set_option linter.unusedSimpArgs false
set_option maxHeartbeats 4000000 in
theorem refMayV_told (x : SValue) (w : World) {r : Bool} (hr : mayV x = r) : Calls Try.prog 63 #[.agg #[.int .i64 x.f0, .int .i64 x.f1, .string x.f2]] w (boolPost r w) := by
  obtain ⟨k, n, s⟩ := x
  show Calls _ _ #[.agg #[.int .i64 k, .int .i64 n, .string s]] w _
  by_cases hs : s.toList = []
  · obtain rfl := toList_nil hs
    have hmay := @mayV_iff ⟨k, n, ⟨#[]⟩⟩
    have hk : k = 0 ∨ k = 1 ∨ k = 2 ∨ k = 3 ∨ (k ≠ 0 ∧ k ≠ 1 ∧ k ≠ 2 ∧ k ≠ 3) := by omega
    rcases hk with rfl | rfl | rfl | rfl | ⟨h0, h1, h2, h3⟩
    · rw [hmay.2 (.inl ⟨rfl, hs⟩)] at hr
      subst hr
      clear hmay hs
      go_enter Try.func63, Try.ntmps63
      go_wp2
      go_ret
      exact ⟨by first | rfl | (simp; omega), below_alloc (Below.refl _ _) _⟩
    · by_cases hn : 0 ≤ n ∧ n < 2
      · rw [hmay.2 (.inr (.inl ⟨rfl, hs, hn⟩))] at hr
        subst hr
        clear hmay hs
        have hn2 : n = 0 ∨ n = 1 := by omega
        rcases hn2 with rfl | rfl
        all_goals
          clear hn
          go_enter Try.func63, Try.ntmps63
          go_wp2
          go_ret
          exact ⟨by first | rfl | (simp; omega), below_alloc (Below.refl _ _) _⟩
      · rw [show mayV ⟨1, n, ⟨#[]⟩⟩ = false from by rw [← Bool.not_eq_true, hmay]; simp only; omega] at hr
        subst hr
        have hn0 : (n == 0) = false := by simp; omega
        have hn1 : (n == 1) = false := by simp; omega
        clear hmay hs hn
        go_enter Try.func63, Try.ntmps63
        go_wp2
        go_ret
        exact ⟨by first | rfl | (simp; omega), below_alloc (Below.refl _ _) _⟩
    · by_cases hn : n = 0
      · subst hn
        rw [hmay.2 (.inr (.inr (.inl ⟨rfl, rfl, by decide⟩)))] at hr
        subst hr
        clear hmay hs
        go_enter Try.func63, Try.ntmps63
        go_wp2
        go_ret
        exact ⟨by first | rfl | (simp; omega), below_alloc (Below.refl _ _) _⟩
      · rw [show mayV ⟨2, n, ⟨#[]⟩⟩ = false from by rw [← Bool.not_eq_true, hmay]; simp only; omega] at hr
        subst hr
        have hn2 : (n == 0) = false := by simpa using hn
        clear hmay hs hn
        go_enter Try.func63, Try.ntmps63
        go_wp2
        go_ret
        exact ⟨by first | rfl | (simp; omega), below_alloc (Below.refl _ _) _⟩
    · by_cases hn : 0 ≤ n ∧ n ≤ 1125899906842624
      · rw [hmay.2 (.inr (.inr (.inr ⟨rfl, hs, hn⟩)))] at hr
        subst hr
        obtain ⟨hn1, hn2⟩ := hn
        clear hmay hs
        go_enter Try.func63, Try.ntmps63
        go_wp2
        go_ret
        exact ⟨by first | rfl | (simp; omega), below_alloc (Below.refl _ _) _⟩
      · rw [show mayV ⟨3, n, ⟨#[]⟩⟩ = false from by rw [← Bool.not_eq_true, hmay]; simp only; omega] at hr
        subst hr
        clear hmay hs
        have hn2 : n < 0 ∨ 1125899906842624 < n := by omega
        rcases hn2 with hn2 | hn2
        all_goals
          clear hn
          go_enter Try.func63, Try.ntmps63
          go_wp2
          go_ret
          exact ⟨by first | rfl | (simp; omega), below_alloc (Below.refl _ _) _⟩
    · rw [show mayV ⟨k, n, ⟨#[]⟩⟩ = false from by rw [← Bool.not_eq_true, hmay]; simp only; omega] at hr
      subst hr
      have e0 : (k == 0) = false := by simpa using h0
      have e1 : (k == 1) = false := by simpa using h1
      have e2 : (k == 2) = false := by simpa using h2
      have e3 : (k == 3) = false := by simpa using h3
      have e2' : (k != 2) = true := by simpa using h2
      clear hmay hs h0 h1 h2 h3
      go_enter Try.func63, Try.ntmps63
      go_wp2
      go_ret
      exact ⟨by first | rfl | (simp; omega), below_alloc (Below.refl _ _) _⟩
  · have hse : (s.toList == []) = false := by simpa using hs
    have hse2 : s.toList.isEmpty = false := by simpa using hs
    have hmay := @mayV_iff ⟨k, n, s⟩
    by_cases hk : k = 2
    · subst hk
      by_cases hn : n = 0
      · subst hn
        by_cases h40 : s.size ≤ 40
        · rw [hmay.2 (.inr (.inr (.inl ⟨rfl, rfl, h40⟩)))] at hr
          subst hr
          clear hmay
          go_enter Try.func63, Try.ntmps63
          go_wp2
          go_ret
          exact ⟨by first | rfl | (simp; omega), below_alloc (Below.refl _ _) _⟩
        · rw [show mayV ⟨2, 0, s⟩ = false from by rw [← Bool.not_eq_true, hmay]; simp only [hs, false_and, and_false, or_false, false_or]; omega] at hr
          subst hr
          have h41 : 40 < s.size := by omega
          clear hmay h40
          go_enter Try.func63, Try.ntmps63
          go_wp2
          go_ret
          exact ⟨by first | rfl | (simp; omega), below_alloc (Below.refl _ _) _⟩
      · rw [show mayV ⟨2, n, s⟩ = false from by rw [← Bool.not_eq_true, hmay]; simp only [hs, false_and, and_false, or_false, false_or]; omega] at hr
        subst hr
        have hn2 : (n == 0) = false := by simpa using hn
        clear hmay hn
        go_enter Try.func63, Try.ntmps63
        go_wp2
        go_ret
        exact ⟨by first | rfl | (simp; omega), below_alloc (Below.refl _ _) _⟩
    · rw [show mayV ⟨k, n, s⟩ = false from by rw [← Bool.not_eq_true, hmay]; simp only [hs, false_and, and_false, or_false, false_or]; omega] at hr
      subst hr
      have e2 : (k == 2) = false := by simpa using hk
      have e2' : (k != 2) = true := by simpa using hk
      clear hmay hk
      go_enter Try.func63, Try.ntmps63
      go_wp2
      go_ret
      exact ⟨by first | rfl | (simp; omega), below_alloc (Below.refl _ _) _⟩
end Go.Proofs.Ytooemobolfoefaa.P

namespace Go.Proofs.Ytooemobolfoefaa.P
open Go.RowKit Go.Proofs.YtooemobolfoefaaW.PrintWords Go.Proofs.YtooemobolfoefaaW.PrintLast Go.Proofs.YtooemobolfoefaaW.PrintMore
attribute [local go_sem] max2_int min2_int max_two min_two max_three min_three max_four min_four   -- for this text's walks alone
set_option linter.unusedVariables false
set_option linter.unusedSimpArgs false
attribute [local go_sem high] eqAValue
attribute [local go_sem high] eqAValue
set_option maxHeartbeats 8000000 in
set_option maxRecDepth 100000 in
theorem refMayO_told (l : List SOp) (A : Option Addr) (c : Nat) (w : World) (hr : Kd.C kOp w A l.length l) (hc : l.length ≤ c) {r : Bool} (hm : mayO l = r) : Calls Try.prog 49 #[.slice A l.length c] w (boolPost r w) := by
  have HR := Aside0.mk hr
  have HC := Aside0.mk hc
  have HM := Aside0.mk hm
  have hl63 := hr.2.1
  clear hr hc hm
  go_enter Try.func49, Try.ntmps49
  go_wp2_with fail
  go_loopw [3, 4, 5] (fun v3 _ _ w' => ∃ k : Nat, v3 = .int .i64 k ∧ k ≤ l.length ∧ (∀ j, j < k → mayP (l.getD j zOp) = true) ∧ Below w.heap.size w w') (fun i _ _ _ => l.length - (intOf i).toNat)
  case atStart => exact ⟨0, rfl, Nat.zero_le _, (fun j hj => absurd hj (Nat.not_lt_zero _)), Below.refl _ _⟩
  case round =>
    obtain ⟨k, rfl, hk, hall, hb⟩ := hrel
    have HALL := Aside0.mk hall
    have HB := Aside0.mk hb
    clear hall hb
    by_cases hlt : k < l.length
    · obtain ⟨ad, e, z0, z1, z2, z3, z4⟩ := at_TOp (Kd.C_below HR.out HB.out) (k : Int) (by omega) (by omega)
      cases e
      simp only [Int.toNat_natCast] at z0 z1 z2 z3 z4
      rw [show rd_TOp l (k : Int) = l.getD k zOp from rfl] at z0 z1 z2 z3 z4
      have HNO := Aside0.mk (fun (h : mayP (l.getD k zOp) = false) => show r = false from by
        rw [← HM.out, ← Bool.not_eq_true, mayO_iff]
        intro h2
        have := h2.2 _ (getD_in zOp hlt)
        rw [h] at this
        cases this)
      have HYES := Aside0.mk (fun (h : mayP (l.getD k zOp) = true) => show ∀ j, j < k + 1 → mayP (l.getD j zOp) = true from fun j hj => by
        rcases Nat.lt_succ_iff_lt_or_eq.1 hj with h2 | rfl
        · exact HALL.out j h2
        · exact h)
      have hk1 : k + 1 ≤ l.length := hlt
      generalize l.getD k zOp = x at *
      obtain ⟨b, hb⟩ : ∃ b, mayV x.f2 = b := ⟨_, rfl⟩
      have HV := Aside0.mk hb
      have heq : (x.f2.f0 == 0 && (x.f2.f1 == 0 && x.f2.f2.toList.isEmpty)) = eqV x.f2 zeroV := by unfold eqV zeroV; rw [show (⟨#[]⟩ : ByteArray).toList = [] from by decide +kernel]; cases x.f2.f2.toList <;> rfl
      obtain ⟨q, hq⟩ : ∃ q, eqV x.f2 zeroV = q := ⟨_, rfl⟩
      rw [hq] at heq
      have HP := Aside0.mk (show mayP x = (decide (0 ≤ x.f0) && (decide (x.f0 < 10) && (decide (0 ≤ x.f1) && (decide (x.f1 < 6) && ((x.f0 == 1 || x.f1 == 0) && ((x.f0 == 0 || q) && b)))))) from by rw [← hb, ← hq]; rfl)
      obtain ⟨q1, q2, q3, q4⟩ := know (blk_new wr (.cells #[.int .i64 x.f0, .int .i64 x.f1, .int .i64 x.f2.f0, .int .i64 x.f2.f1, .string x.f2.f2] 75))
      have HBX := Aside0.mk (below_alloc HB.out (.cells #[.int .i64 x.f0, .int .i64 x.f1, .int .i64 x.f2.f0, .int .i64 x.f2.f1, .string x.f2.f2] 75))
      have HX := Aside0.mk (blk_new wr (.cells #[.int .i64 x.f0, .int .i64 x.f1, .int .i64 x.f2.f0, .int .i64 x.f2.f1, .string x.f2.f2] 75))
      clear hb hq hlt
      go_wp2_with fail
      go_at_call 63
      refine (refMayV_told x.f2 _ HV.out).mono ?_
      rintro e w1 ⟨rfl, hb1⟩
      have HB1 := Aside0.mk (below_step HBX.out hb1)
      obtain ⟨m1, m2, m3, m4⟩ := know (blk_below HX.out hb1)
      clear q1 q2 q3 q4 z0 z1 z2 z3 z4 hb1
      by_cases h1 : x.f0 < 0
      · have d1 : decide (x.f0 < 0) = true := decide_eq_true h1
        have hp : mayP x = false := by rw [HP.out]; clear HP HNO HYES heq; cases b <;> simp [*] <;> omega
        obtain rfl := HNO.out hp
        clear hp
        go_wp2_with fail
        go_ret
        exact ⟨rfl, HB1.out⟩
      have d1 : decide (x.f0 < 0) = false := decide_eq_false h1
      by_cases h2 : 10 ≤ x.f0
      · have d2 : decide (10 ≤ x.f0) = true := decide_eq_true h2
        have hp : mayP x = false := by rw [HP.out]; clear HP HNO HYES heq; cases b <;> simp [*] <;> omega
        obtain rfl := HNO.out hp
        clear hp
        go_wp2_with fail
        go_ret
        exact ⟨rfl, HB1.out⟩
      have d2 : decide (10 ≤ x.f0) = false := decide_eq_false h2
      by_cases h3 : x.f1 < 0
      · have d3 : decide (x.f1 < 0) = true := decide_eq_true h3
        have hp : mayP x = false := by rw [HP.out]; clear HP HNO HYES heq; cases b <;> simp [*] <;> omega
        obtain rfl := HNO.out hp
        clear hp
        go_wp2_with fail
        go_ret
        exact ⟨rfl, HB1.out⟩
      have d3 : decide (x.f1 < 0) = false := decide_eq_false h3
      by_cases h4 : 6 ≤ x.f1
      · have d4 : decide (6 ≤ x.f1) = true := decide_eq_true h4
        have hp : mayP x = false := by rw [HP.out]; clear HP HNO HYES heq; cases b <;> simp [*] <;> omega
        obtain rfl := HNO.out hp
        clear hp
        go_wp2_with fail
        go_ret
        exact ⟨rfl, HB1.out⟩
      have d4 : decide (6 ≤ x.f1) = false := decide_eq_false h4
      by_cases e1 : x.f0 = 1
      · have e10 : (x.f0 == 1) = true := beq_iff_eq.2 e1
        have e11 : (x.f0 != 1) = false := by rw [bne, e10]; rfl
        have e3 : (x.f0 == 0) = false := beq_eq_false_iff_ne.2 (by omega)
        have e31 : (x.f0 != 0) = true := by rw [bne, e3]; rfl
        cases b with
        | false =>
          have hp : mayP x = false := by rw [HP.out]; clear HNO HYES heq; simp
          obtain rfl := HNO.out hp
          clear hp
          go_wp2_with fail
          go_ret
          exact ⟨rfl, HB1.out⟩
        | true =>
          cases q with
          | false =>
            have hp : mayP x = false := by rw [HP.out]; clear HNO HYES heq; rw [e3]; simp
            obtain rfl := HNO.out hp
            clear hp
            go_wp2_with fail
            go_ret
            exact ⟨rfl, HB1.out⟩
          | true =>
            have hp : mayP x = true := by rw [HP.out]; clear HP HNO HYES heq; simp [*] <;> omega
            have hy := HYES.out hp
            have HY := Aside0.mk hy
            clear hp hy
            go_wp2_with fail
            go_roundw
            case rel => exact ⟨k + 1, by go_num, hk1, HY.out, HB1.out⟩
            case measure => simp [intOf]; omega
      have e10 : (x.f0 == 1) = false := beq_eq_false_iff_ne.2 e1
      have e11 : (x.f0 != 1) = true := by rw [bne, e10]; rfl
      by_cases e2 : x.f1 = 0
      · have e20 : (x.f1 == 0) = true := beq_iff_eq.2 e2
        have e21 : (x.f1 != 0) = false := by rw [bne, e20]; rfl
        cases b with
        | false =>
          have hp : mayP x = false := by rw [HP.out]; clear HNO HYES heq; simp
          obtain rfl := HNO.out hp
          clear hp
          go_wp2_with fail
          go_ret
          exact ⟨rfl, HB1.out⟩
        | true =>
          by_cases e3 : x.f0 = 0
          · have e30 : (x.f0 == 0) = true := beq_iff_eq.2 e3
            have e31 : (x.f0 != 0) = false := by rw [bne, e30]; rfl
            have hp : mayP x = true := by rw [HP.out]; clear HP HNO HYES heq; simp [*] <;> omega
            have hy := HYES.out hp
            have HY := Aside0.mk hy
            clear hp hy
            go_wp2_with fail
            go_roundw
            case rel => exact ⟨k + 1, by go_num, hk1, HY.out, HB1.out⟩
            case measure => simp [intOf]; omega
          have e30 : (x.f0 == 0) = false := beq_eq_false_iff_ne.2 e3
          have e31 : (x.f0 != 0) = true := by rw [bne, e30]; rfl
          cases q with
          | false =>
            have hp : mayP x = false := by rw [HP.out]; clear HNO HYES heq; rw [e30]; simp
            obtain rfl := HNO.out hp
            clear hp
            go_wp2_with fail
            go_ret
            exact ⟨rfl, HB1.out⟩
          | true =>
            have hp : mayP x = true := by rw [HP.out]; clear HP HNO HYES heq; simp [*] <;> omega
            have hy := HYES.out hp
            have HY := Aside0.mk hy
            clear hp hy
            go_wp2_with fail
            go_roundw
            case rel => exact ⟨k + 1, by go_num, hk1, HY.out, HB1.out⟩
            case measure => simp [intOf]; omega
      have e20 : (x.f1 == 0) = false := beq_eq_false_iff_ne.2 e2
      have e21 : (x.f1 != 0) = true := by rw [bne, e20]; rfl
      have hp : mayP x = false := by rw [HP.out]; clear HNO HYES heq; rw [e10, e20]; simp
      obtain rfl := HNO.out hp
      clear hp
      go_wp2_with fail
      go_ret
      exact ⟨rfl, HB1.out⟩
    · have hk3 : k = l.length := by omega
      by_cases h12 : l.length ≤ 12
      · have d12 : decide ((l.length : Int) ≤ 12) = true := decide_eq_true (by omega)
        have hz : r = true := by
          rw [← HM.out, mayO_iff]
          refine ⟨h12, fun x hx => ?_⟩
          obtain ⟨i, hi, rfl⟩ := List.mem_iff_getElem.1 hx
          have := HALL.out i (by omega)
          rwa [show l.getD i zOp = l[i] from by simp [List.getD, hi]] at this
        subst hz
        have hnl : ¬ (k : Int) < (l.length : Int) := by omega
        clear hk3 h12 hlt hk
        go_wp2_with fail
        go_ret
        exact ⟨rfl, HB.out⟩
      · have d12 : decide ((l.length : Int) ≤ 12) = false := decide_eq_false (by omega)
        have hz : r = false := by
          rw [← HM.out, ← Bool.not_eq_true, mayO_iff]
          exact fun h => h12 h.1
        subst hz
        have hnl : ¬ (k : Int) < (l.length : Int) := by omega
        clear hk3 h12 hlt hk
        go_wp2_with fail
        go_ret
        exact ⟨rfl, HB.out⟩
def towncrierref08_May.f (l0 : List SOp) : Option Bool := some (mayO l0)
theorem towncrierref08_May.calls (A0 : Option Addr) (c0 : Nat) (l0 : List SOp) (r : Bool) (w : World) (hr0 : Kd.C kOp w A0 l0.length l0) (hc0 : l0.length ≤ c0) (h : towncrierref08_May.f l0 = some r) :
    Calls Try.prog 49 #[.slice A0 l0.length c0] w fun e w' => e = .returned (.bool r) ∧ Below w.heap.size w w' := refMayO_told l0 A0 c0 w hr0 hc0 (Option.some.inj h)
end Go.Proofs.Ytooemobolfoefaa.P

namespace Go.Proofs.Ytooemobolfoefaa.P
open Go.RowKit Go.Proofs.YtooemobolfoefaaW.PrintWords Go.Proofs.YtooemobolfoefaaW.PrintLast Go.Proofs.YtooemobolfoefaaW.PrintMore
attribute [local go_sem] max2_int min2_int max_two min_two max_three min_three max_four min_four   -- for this text's walks alone
set_option linter.unusedVariables false
set_option linter.unusedSimpArgs false
def towncrierref09_step.j0 : Nat → Bool → Bool → ByteArray → List (SOp) → Int → Int → Bool → ByteArray → List (SOp) → Option (Bool)
  | 0, _, _, _, _, _, _, _, _, _ => none
  | k + 1, x1, x49, x208000, x208001, x208002, x208003, x208004, x208005, x208006 => if x49 = true then (some false) else (if x208004 = true then ((towncrierref05_Name.f k x208005).bind fun t210 => ((towncrierref08_May.f x208006).bind fun t211 => (if x1 = true then (some false) else (if t210 = true then (some t211) else (some false))))) else (if x208005.toList = ([] : List UInt8) then (some ((x208006.length : Int) == 0)) else (some false)))
def towncrierref09_step.f (k : Nat) (a0_0 : ByteArray) (l0_1 : List (SOp)) (a0_2 : Int) (a0_3 : Int) (a0_4 : Bool) (a0_5 : ByteArray) (l0_6 : List (SOp)) (a1 : Bool) (a2 : Bool) : Option (Bool) := (towncrierref05_Name.f k a0_0).bind fun t208 => ((towncrierref08_May.f l0_1).bind fun t209 => (if t208 = true then (if t209 = true then (if a0_2 < 1 then (towncrierref09_step.j0 k a1 true a0_0 l0_1 a0_2 a0_3 a0_4 a0_5 l0_6) else (if a0_3 < a0_2 then (towncrierref09_step.j0 k a1 true a0_0 l0_1 a0_2 a0_3 a0_4 a0_5 l0_6) else (if a0_3 > 4 then (towncrierref09_step.j0 k a1 true a0_0 l0_1 a0_2 a0_3 a0_4 a0_5 l0_6) else (if a2 = true then (towncrierref09_step.j0 k a1 (a0_2 != a0_3) a0_0 l0_1 a0_2 a0_3 a0_4 a0_5 l0_6) else (towncrierref09_step.j0 k a1 false a0_0 l0_1 a0_2 a0_3 a0_4 a0_5 l0_6))))) else (towncrierref09_step.j0 k a1 true a0_0 l0_1 a0_2 a0_3 a0_4 a0_5 l0_6)) else (towncrierref09_step.j0 k a1 true a0_0 l0_1 a0_2 a0_3 a0_4 a0_5 l0_6)))
set_option maxHeartbeats 8000000 in
set_option maxRecDepth 100000 in
theorem towncrierref09_step.calls (k : Nat) (a0_0 : ByteArray) (A0_1 : Option Addr) (c0_1 : Nat) (l0_1 : List (SOp)) (a0_2 : Int) (a0_3 : Int) (a0_4 : Bool) (a0_5 : ByteArray) (A0_6 : Option Addr) (c0_6 : Nat) (l0_6 : List (SOp)) (a1 : Bool) (a2 : Bool) (r : Bool) (w : World) (hr0_1 : Kd.C kOp w A0_1 l0_1.length l0_1) (hc0_1 : l0_1.length ≤ c0_1) (hr0_6 : Kd.C kOp w A0_6 l0_6.length l0_6) (hc0_6 : l0_6.length ≤ c0_6) (h : towncrierref09_step.f k a0_0 l0_1 a0_2 a0_3 a0_4 a0_5 l0_6 a1 a2 = some r) :
    Calls Try.prog 32 #[.agg #[.string a0_0, .slice A0_1 l0_1.length c0_1, .int .i64 a0_2, .int .i64 a0_3, .bool a0_4, .string a0_5, .slice A0_6 l0_6.length c0_6], .bool a1, .bool a2] w fun e w' => e = .returned (.bool r) ∧ Below w.heap.size w w' := by
  have hu40 := Try.underlying40
  have HR0_1 := Aside0.mk hr0_1
  have HC0_1 := Aside0.mk hc0_1
  clear hr0_1 hc0_1
  have HR0_6 := Aside0.mk hr0_6
  have HC0_6 := Aside0.mk hc0_6
  clear hr0_6 hc0_6
  have HB := Aside0.mk (Below.refl w.heap.size w)
  have H : ((towncrierref05_Name.f k a0_0).bind fun t208 => ((towncrierref08_May.f l0_1).bind fun t209 => (if t208 = true then (if t209 = true then (if a0_2 < 1 then (towncrierref09_step.j0 k a1 true a0_0 l0_1 a0_2 a0_3 a0_4 a0_5 l0_6) else (if a0_3 < a0_2 then (towncrierref09_step.j0 k a1 true a0_0 l0_1 a0_2 a0_3 a0_4 a0_5 l0_6) else (if a0_3 > 4 then (towncrierref09_step.j0 k a1 true a0_0 l0_1 a0_2 a0_3 a0_4 a0_5 l0_6) else (if a2 = true then (towncrierref09_step.j0 k a1 (a0_2 != a0_3) a0_0 l0_1 a0_2 a0_3 a0_4 a0_5 l0_6) else (towncrierref09_step.j0 k a1 false a0_0 l0_1 a0_2 a0_3 a0_4 a0_5 l0_6))))) else (towncrierref09_step.j0 k a1 true a0_0 l0_1 a0_2 a0_3 a0_4 a0_5 l0_6)) else (towncrierref09_step.j0 k a1 true a0_0 l0_1 a0_2 a0_3 a0_4 a0_5 l0_6)))) = some r := h
  clear h
  replace H := Option.bind_eq_some_iff.mp H
  obtain ⟨t208, A40, H⟩ := H
  replace H : ((towncrierref08_May.f l0_1).bind fun t209 => (if t208 = true then (if t209 = true then (if a0_2 < 1 then (towncrierref09_step.j0 k a1 true a0_0 l0_1 a0_2 a0_3 a0_4 a0_5 l0_6) else (if a0_3 < a0_2 then (towncrierref09_step.j0 k a1 true a0_0 l0_1 a0_2 a0_3 a0_4 a0_5 l0_6) else (if a0_3 > 4 then (towncrierref09_step.j0 k a1 true a0_0 l0_1 a0_2 a0_3 a0_4 a0_5 l0_6) else (if a2 = true then (towncrierref09_step.j0 k a1 (a0_2 != a0_3) a0_0 l0_1 a0_2 a0_3 a0_4 a0_5 l0_6) else (towncrierref09_step.j0 k a1 false a0_0 l0_1 a0_2 a0_3 a0_4 a0_5 l0_6))))) else (towncrierref09_step.j0 k a1 true a0_0 l0_1 a0_2 a0_3 a0_4 a0_5 l0_6)) else (towncrierref09_step.j0 k a1 true a0_0 l0_1 a0_2 a0_3 a0_4 a0_5 l0_6))) = some r := H
  have A4 := Aside0.mk A40
  clear A40
  replace H := Option.bind_eq_some_iff.mp H
  obtain ⟨t209, A50, H⟩ := H
  replace H : (if t208 = true then (if t209 = true then (if a0_2 < 1 then (towncrierref09_step.j0 k a1 true a0_0 l0_1 a0_2 a0_3 a0_4 a0_5 l0_6) else (if a0_3 < a0_2 then (towncrierref09_step.j0 k a1 true a0_0 l0_1 a0_2 a0_3 a0_4 a0_5 l0_6) else (if a0_3 > 4 then (towncrierref09_step.j0 k a1 true a0_0 l0_1 a0_2 a0_3 a0_4 a0_5 l0_6) else (if a2 = true then (towncrierref09_step.j0 k a1 (a0_2 != a0_3) a0_0 l0_1 a0_2 a0_3 a0_4 a0_5 l0_6) else (towncrierref09_step.j0 k a1 false a0_0 l0_1 a0_2 a0_3 a0_4 a0_5 l0_6))))) else (towncrierref09_step.j0 k a1 true a0_0 l0_1 a0_2 a0_3 a0_4 a0_5 l0_6)) else (towncrierref09_step.j0 k a1 true a0_0 l0_1 a0_2 a0_3 a0_4 a0_5 l0_6)) = some r := H
  have A5 := Aside0.mk A50
  clear A50
  have HC6 := Aside0.mk H
  clear H
  go_enter Try.func32, Try.ntmps32
  go_upto_region 3 with (first | ((with_reducible refine gate_dst (N := 3) rfl ?_); (try (refine gate_guard (by rfl) ?_; dsimp only)); refine box_event ?hg (N := 3) ?hd (cs := #[.string a0_0, .slice A0_1 l0_1.length c0_1, .int .i64 a0_2, .int .i64 a0_3, .bool a0_4, .string a0_5, .slice A0_6 l0_6.length c0_6]) (t := 40) ?hr ?_; (case hd => rfl); (case hg => rfl); (case hr => first | (go_simp; done) | (go_simp; rfl)); intro gb207 hg w7 hbox hb; have n0_ := Aside0.mk (below_step (by repeat (first | (with_reducible first | exact HB.out | apply below_alloc | apply pw_below_drewN | apply below_drew1) | exact HB.out)) hb); have n1_ := Aside0.mk (hbox); have n2_ := Aside0.mk ((by rw [hg]; exact (below_size (by repeat (first | (with_reducible first | exact HB.out | apply below_alloc | apply pw_below_drewN | apply below_drew1) | exact HB.out))) : w.heap.size ≤ gb207)); have n3_ := Aside0.mk ((by rw [hg]; exact (below_size (by repeat (first | (with_reducible first | exact HB.out | apply below_alloc | apply pw_below_drewN | apply below_drew1) | exact HB.out))) : w.heap.size ≤ gb207)); clear HB; have HB := n0_; have BK207 := n1_; have GW207 := n2_; have GE207 := n3_; clear n0_ n1_ n2_ n3_; clear hb hbox hg; have hcz8_0 : w7.cell? ⟨gb207, 0, none⟩ = some (.string a0_0) := (blk_cell BK207.out 0).trans rfl; have hcz8_1 : w7.cell? ⟨gb207, 1, none⟩ = some (.slice A0_1 l0_1.length c0_1) := (blk_cell BK207.out 1).trans rfl; have hcz8_2 : w7.cell? ⟨gb207, 2, none⟩ = some (.int .i64 a0_2) := (blk_cell BK207.out 2).trans rfl; have hcz8_3 : w7.cell? ⟨gb207, 3, none⟩ = some (.int .i64 a0_3) := (blk_cell BK207.out 3).trans rfl; have hcz8_4 : w7.cell? ⟨gb207, 4, none⟩ = some (.bool a0_4) := (blk_cell BK207.out 4).trans rfl; have hcz8_5 : w7.cell? ⟨gb207, 5, none⟩ = some (.string a0_5) := (blk_cell BK207.out 5).trans rfl; have hcz8_6 : w7.cell? ⟨gb207, 6, none⟩ = some (.slice A0_6 l0_6.length c0_6) := (blk_cell BK207.out 6).trans rfl; have hfz8_0 := blk_frozen BK207.out 0; have hfz8_1 := blk_frozen BK207.out 1; have hfz8_2 := blk_frozen BK207.out 2; have hfz8_3 := blk_frozen BK207.out 3; have hfz8_4 := blk_frozen BK207.out 4; have hfz8_5 := blk_frozen BK207.out 5; have hfz8_6 := blk_frozen BK207.out 6) | ((with_reducible refine gate_callee (f := 48) rfl ?_); refine goesL_ (some 13) rfl rfl Try.func48 (by kernel_rfl) rfl #[.string a0_0] rfl (by (try simp only [List.map_toArray, List.map_cons, List.map_nil]); first | done | rfl | (simp only [List.length_drop, List.length_take]; rfl)) ?_; (with_reducible refine (towncrierref05_Name.calls k a0_0 t208 _ A4.out).mono ?_); rintro e w' ⟨rfl, ⟨nd, rfl⟩⟩; refine ⟨_, rfl, ?_⟩) | ((with_reducible refine gate_callee (f := 49) rfl ?_); refine goesL_ (some 16) rfl rfl Try.func49 (by kernel_rfl) rfl #[.slice A0_1 l0_1.length c0_1] rfl (by (try simp only [List.map_toArray, List.map_cons, List.map_nil]); first | done | rfl | (simp only [List.length_drop, List.length_take]; rfl)) ?_; (with_reducible refine (towncrierref08_May.calls _ _ l0_1 t209 _ ?side1 ?side2 A5.out).mono ?_); (case side1 => repeat (first | exact (Kd.C_below HR0_1.out (by repeat (first | (with_reducible first | exact HB.out | apply below_alloc | apply pw_below_drewN | apply below_drew1 | refine below_set ?_ GE207.out) | exact HB.out))) | (with_reducible refine Kd.C_alloc ?_ _) | (with_reducible refine Kd.C_drewN ?_ _) | (with_reducible refine Kd.C_drew ?_))); (case side2 => exact HC0_1.out); rintro e w9 ⟨rfl, hb⟩; refine ⟨_, rfl, ?_⟩; have n0_ := Aside0.mk (blk_below (g := gb207) (o := .cells #[.string a0_0, .slice A0_1 l0_1.length c0_1, .int .i64 a0_2, .int .i64 a0_3, .bool a0_4, .string a0_5, .slice A0_6 l0_6.length c0_6] 40 (0, 0)) (by (with_reducible repeat (first | refine blk_drewN ?_ _ | refine blk_drew ?_ | refine blk_alloc ?_ _)); exact BK207.out) hb); have n1_ := Aside0.mk (below_step (by repeat (first | (with_reducible first | exact HB.out | apply below_alloc | apply pw_below_drewN | apply below_drew1 | refine below_set ?_ GE207.out) | exact HB.out)) hb); clear BK207; clear HB; have BK207 := n0_; have HB := n1_; clear n0_ n1_; (try clear hb); (try clear hb2); (try clear hk); (try clear hi)))
  (try simp only [Act.put, List.setIfInBounds_toArray, List.set_cons_zero, List.set_cons_succ])
  go_cut [49] (fun v49 wc => ∃ (kq : Nat) (x49_5 : Bool), v49 = .bool x49_5 ∧ Aside0 (towncrierref09_step.j0 kq a1 x49_5 a0_0 l0_1 a0_2 a0_3 a0_4 a0_5 l0_6 = some r) ∧ Aside0 (kq ≤ k) ∧ Aside0 (wc.heap[gb207]? = some (.cells #[.string a0_0, (.slice A0_1 l0_1.length c0_1), .int .i64 a0_2, .int .i64 a0_3, .bool a0_4, .string a0_5, (.slice A0_6 l0_6.length c0_6)] 40 (0, 0))) ∧ Aside0 (Below w.heap.size w wc))
  case first =>
    have H := HC6.out
    clear HC6
    by_cases c10 : t208 = true
    · subst c10
      have H1 : (if t209 = true then (if a0_2 < 1 then (towncrierref09_step.j0 k a1 true a0_0 l0_1 a0_2 a0_3 a0_4 a0_5 l0_6) else (if a0_3 < a0_2 then (towncrierref09_step.j0 k a1 true a0_0 l0_1 a0_2 a0_3 a0_4 a0_5 l0_6) else (if a0_3 > 4 then (towncrierref09_step.j0 k a1 true a0_0 l0_1 a0_2 a0_3 a0_4 a0_5 l0_6) else (if a2 = true then (towncrierref09_step.j0 k a1 (a0_2 != a0_3) a0_0 l0_1 a0_2 a0_3 a0_4 a0_5 l0_6) else (towncrierref09_step.j0 k a1 false a0_0 l0_1 a0_2 a0_3 a0_4 a0_5 l0_6))))) else (towncrierref09_step.j0 k a1 true a0_0 l0_1 a0_2 a0_3 a0_4 a0_5 l0_6)) = some r := by rw [if_pos rfl] at H; exact H
      clear H
      have H := H1
      clear H1
      by_cases c11 : t209 = true
      · subst c11
        have H1 : (if a0_2 < 1 then (towncrierref09_step.j0 k a1 true a0_0 l0_1 a0_2 a0_3 a0_4 a0_5 l0_6) else (if a0_3 < a0_2 then (towncrierref09_step.j0 k a1 true a0_0 l0_1 a0_2 a0_3 a0_4 a0_5 l0_6) else (if a0_3 > 4 then (towncrierref09_step.j0 k a1 true a0_0 l0_1 a0_2 a0_3 a0_4 a0_5 l0_6) else (if a2 = true then (towncrierref09_step.j0 k a1 (a0_2 != a0_3) a0_0 l0_1 a0_2 a0_3 a0_4 a0_5 l0_6) else (towncrierref09_step.j0 k a1 false a0_0 l0_1 a0_2 a0_3 a0_4 a0_5 l0_6))))) = some r := by rw [if_pos rfl] at H; exact H
        clear H
        have H := H1
        clear H1
        by_cases c12 : a0_2 < 1
        · rw [if_pos c12] at H
          have c12b0 : decide (a0_2 < 1) = true := decide_eq_true c12
          clear c12
          (first | rw [c12b0] | (simp only [i64_w, i32_w]; rw [c12b0]) | skip)
          have H' := Aside0.mk H
          clear H
          have hcz13_0 : w9.cell? ⟨gb207, 0, none⟩ = some (.string a0_0) := (blk_cell BK207.out 0).trans rfl
          have hcz13_1 : w9.cell? ⟨gb207, 1, none⟩ = some (.slice A0_1 l0_1.length c0_1) := (blk_cell BK207.out 1).trans rfl
          have hcz13_2 : w9.cell? ⟨gb207, 2, none⟩ = some (.int .i64 a0_2) := (blk_cell BK207.out 2).trans rfl
          have hcz13_3 : w9.cell? ⟨gb207, 3, none⟩ = some (.int .i64 a0_3) := (blk_cell BK207.out 3).trans rfl
          have hcz13_4 : w9.cell? ⟨gb207, 4, none⟩ = some (.bool a0_4) := (blk_cell BK207.out 4).trans rfl
          have hcz13_5 : w9.cell? ⟨gb207, 5, none⟩ = some (.string a0_5) := (blk_cell BK207.out 5).trans rfl
          have hcz13_6 : w9.cell? ⟨gb207, 6, none⟩ = some (.slice A0_6 l0_6.length c0_6) := (blk_cell BK207.out 6).trans rfl
          have hfz13_0 := blk_frozen BK207.out 0
          have hfz13_1 := blk_frozen BK207.out 1
          have hfz13_2 := blk_frozen BK207.out 2
          have hfz13_3 := blk_frozen BK207.out 3
          have hfz13_4 := blk_frozen BK207.out 4
          have hfz13_5 := blk_frozen BK207.out 5
          have hfz13_6 := blk_frozen BK207.out 6
          go_wp2
          go_meet
          case rel => exact ⟨_, (true), (by first | rfl | (simp; done) | (simp [*]; done)), H', ⟨by first | omega | exact Nat.le_refl _⟩, ⟨by (with_reducible repeat (first | refine blk_drewN ?_ _ | refine blk_drew ?_ | refine blk_alloc ?_ _)); exact BK207.out⟩, ⟨by repeat (first | (with_reducible first | exact HB.out | apply below_alloc | apply pw_below_drewN | apply below_drew1 | refine below_set ?_ GE207.out) | exact HB.out)⟩⟩
        · rw [if_neg c12] at H
          have c12b0 : decide (a0_2 < 1) = false := decide_eq_false c12
          clear c12
          (first | rw [c12b0] | (simp only [i64_w, i32_w]; rw [c12b0]) | skip)
          by_cases c14 : a0_3 < a0_2
          · rw [if_pos c14] at H
            have c14b0 : decide (a0_3 < a0_2) = true := decide_eq_true c14
            clear c14
            have H' := Aside0.mk H
            clear H
            have hcz15_0 : w9.cell? ⟨gb207, 0, none⟩ = some (.string a0_0) := (blk_cell BK207.out 0).trans rfl
            have hcz15_1 : w9.cell? ⟨gb207, 1, none⟩ = some (.slice A0_1 l0_1.length c0_1) := (blk_cell BK207.out 1).trans rfl
            have hcz15_2 : w9.cell? ⟨gb207, 2, none⟩ = some (.int .i64 a0_2) := (blk_cell BK207.out 2).trans rfl
            have hcz15_3 : w9.cell? ⟨gb207, 3, none⟩ = some (.int .i64 a0_3) := (blk_cell BK207.out 3).trans rfl
            have hcz15_4 : w9.cell? ⟨gb207, 4, none⟩ = some (.bool a0_4) := (blk_cell BK207.out 4).trans rfl
            have hcz15_5 : w9.cell? ⟨gb207, 5, none⟩ = some (.string a0_5) := (blk_cell BK207.out 5).trans rfl
            have hcz15_6 : w9.cell? ⟨gb207, 6, none⟩ = some (.slice A0_6 l0_6.length c0_6) := (blk_cell BK207.out 6).trans rfl
            have hfz15_0 := blk_frozen BK207.out 0
            have hfz15_1 := blk_frozen BK207.out 1
            have hfz15_2 := blk_frozen BK207.out 2
            have hfz15_3 := blk_frozen BK207.out 3
            have hfz15_4 := blk_frozen BK207.out 4
            have hfz15_5 := blk_frozen BK207.out 5
            have hfz15_6 := blk_frozen BK207.out 6
            go_wp2
            go_meet
            case rel => exact ⟨_, (true), (by first | rfl | (simp; done) | (simp [*]; done)), H', ⟨by first | omega | exact Nat.le_refl _⟩, ⟨by (with_reducible repeat (first | refine blk_drewN ?_ _ | refine blk_drew ?_ | refine blk_alloc ?_ _)); exact BK207.out⟩, ⟨by repeat (first | (with_reducible first | exact HB.out | apply below_alloc | apply pw_below_drewN | apply below_drew1 | refine below_set ?_ GE207.out) | exact HB.out)⟩⟩
          · rw [if_neg c14] at H
            have c14b0 : decide (a0_3 < a0_2) = false := decide_eq_false c14
            clear c14
            by_cases c16 : a0_3 > 4
            · rw [if_pos c16] at H
              have c16b0 : decide (4 < a0_3) = true := decide_eq_true c16
              clear c16
              have H' := Aside0.mk H
              clear H
              have hcz17_0 : w9.cell? ⟨gb207, 0, none⟩ = some (.string a0_0) := (blk_cell BK207.out 0).trans rfl
              have hcz17_1 : w9.cell? ⟨gb207, 1, none⟩ = some (.slice A0_1 l0_1.length c0_1) := (blk_cell BK207.out 1).trans rfl
              have hcz17_2 : w9.cell? ⟨gb207, 2, none⟩ = some (.int .i64 a0_2) := (blk_cell BK207.out 2).trans rfl
              have hcz17_3 : w9.cell? ⟨gb207, 3, none⟩ = some (.int .i64 a0_3) := (blk_cell BK207.out 3).trans rfl
              have hcz17_4 : w9.cell? ⟨gb207, 4, none⟩ = some (.bool a0_4) := (blk_cell BK207.out 4).trans rfl
              have hcz17_5 : w9.cell? ⟨gb207, 5, none⟩ = some (.string a0_5) := (blk_cell BK207.out 5).trans rfl
              have hcz17_6 : w9.cell? ⟨gb207, 6, none⟩ = some (.slice A0_6 l0_6.length c0_6) := (blk_cell BK207.out 6).trans rfl
              have hfz17_0 := blk_frozen BK207.out 0
              have hfz17_1 := blk_frozen BK207.out 1
              have hfz17_2 := blk_frozen BK207.out 2
              have hfz17_3 := blk_frozen BK207.out 3
              have hfz17_4 := blk_frozen BK207.out 4
              have hfz17_5 := blk_frozen BK207.out 5
              have hfz17_6 := blk_frozen BK207.out 6
              go_wp2
              go_meet
              case rel => exact ⟨_, (true), (by first | rfl | (simp; done) | (simp [*]; done)), H', ⟨by first | omega | exact Nat.le_refl _⟩, ⟨by (with_reducible repeat (first | refine blk_drewN ?_ _ | refine blk_drew ?_ | refine blk_alloc ?_ _)); exact BK207.out⟩, ⟨by repeat (first | (with_reducible first | exact HB.out | apply below_alloc | apply pw_below_drewN | apply below_drew1 | refine below_set ?_ GE207.out) | exact HB.out)⟩⟩
            · rw [if_neg c16] at H
              have c16b0 : decide (4 < a0_3) = false := decide_eq_false c16
              clear c16
              by_cases c18 : a2 = true
              · subst c18
                have H1 : (towncrierref09_step.j0 k a1 (a0_2 != a0_3) a0_0 l0_1 a0_2 a0_3 a0_4 a0_5 l0_6) = some r := by rw [if_pos rfl] at H; exact H
                clear H
                have H := H1
                clear H1
                have H' := Aside0.mk H
                clear H
                have hcz19_0 : w9.cell? ⟨gb207, 0, none⟩ = some (.string a0_0) := (blk_cell BK207.out 0).trans rfl
                have hcz19_1 : w9.cell? ⟨gb207, 1, none⟩ = some (.slice A0_1 l0_1.length c0_1) := (blk_cell BK207.out 1).trans rfl
                have hcz19_2 : w9.cell? ⟨gb207, 2, none⟩ = some (.int .i64 a0_2) := (blk_cell BK207.out 2).trans rfl
                have hcz19_3 : w9.cell? ⟨gb207, 3, none⟩ = some (.int .i64 a0_3) := (blk_cell BK207.out 3).trans rfl
                have hcz19_4 : w9.cell? ⟨gb207, 4, none⟩ = some (.bool a0_4) := (blk_cell BK207.out 4).trans rfl
                have hcz19_5 : w9.cell? ⟨gb207, 5, none⟩ = some (.string a0_5) := (blk_cell BK207.out 5).trans rfl
                have hcz19_6 : w9.cell? ⟨gb207, 6, none⟩ = some (.slice A0_6 l0_6.length c0_6) := (blk_cell BK207.out 6).trans rfl
                have hfz19_0 := blk_frozen BK207.out 0
                have hfz19_1 := blk_frozen BK207.out 1
                have hfz19_2 := blk_frozen BK207.out 2
                have hfz19_3 := blk_frozen BK207.out 3
                have hfz19_4 := blk_frozen BK207.out 4
                have hfz19_5 := blk_frozen BK207.out 5
                have hfz19_6 := blk_frozen BK207.out 6
                go_wp2
                go_meet
                case rel => exact ⟨_, ((a0_2 != a0_3)), (by first | rfl | (simp; done) | (simp [*]; done)), H', ⟨by first | omega | exact Nat.le_refl _⟩, ⟨by (with_reducible repeat (first | refine blk_drewN ?_ _ | refine blk_drew ?_ | refine blk_alloc ?_ _)); exact BK207.out⟩, ⟨by repeat (first | (with_reducible first | exact HB.out | apply below_alloc | apply pw_below_drewN | apply below_drew1 | refine below_set ?_ GE207.out) | exact HB.out)⟩⟩
              · replace c18 := Bool.eq_false_iff.mpr c18
                subst c18
                have H1 : (towncrierref09_step.j0 k a1 false a0_0 l0_1 a0_2 a0_3 a0_4 a0_5 l0_6) = some r := by rw [if_neg (show ¬ (false = true) by decide)] at H; exact H
                clear H
                have H := H1
                clear H1
                have H' := Aside0.mk H
                clear H
                have hcz20_0 : w9.cell? ⟨gb207, 0, none⟩ = some (.string a0_0) := (blk_cell BK207.out 0).trans rfl
                have hcz20_1 : w9.cell? ⟨gb207, 1, none⟩ = some (.slice A0_1 l0_1.length c0_1) := (blk_cell BK207.out 1).trans rfl
                have hcz20_2 : w9.cell? ⟨gb207, 2, none⟩ = some (.int .i64 a0_2) := (blk_cell BK207.out 2).trans rfl
                have hcz20_3 : w9.cell? ⟨gb207, 3, none⟩ = some (.int .i64 a0_3) := (blk_cell BK207.out 3).trans rfl
                have hcz20_4 : w9.cell? ⟨gb207, 4, none⟩ = some (.bool a0_4) := (blk_cell BK207.out 4).trans rfl
                have hcz20_5 : w9.cell? ⟨gb207, 5, none⟩ = some (.string a0_5) := (blk_cell BK207.out 5).trans rfl
                have hcz20_6 : w9.cell? ⟨gb207, 6, none⟩ = some (.slice A0_6 l0_6.length c0_6) := (blk_cell BK207.out 6).trans rfl
                have hfz20_0 := blk_frozen BK207.out 0
                have hfz20_1 := blk_frozen BK207.out 1
                have hfz20_2 := blk_frozen BK207.out 2
                have hfz20_3 := blk_frozen BK207.out 3
                have hfz20_4 := blk_frozen BK207.out 4
                have hfz20_5 := blk_frozen BK207.out 5
                have hfz20_6 := blk_frozen BK207.out 6
                go_wp2
                go_meet
                case rel => exact ⟨_, (false), (by first | rfl | (simp; done) | (simp [*]; done)), H', ⟨by first | omega | exact Nat.le_refl _⟩, ⟨by (with_reducible repeat (first | refine blk_drewN ?_ _ | refine blk_drew ?_ | refine blk_alloc ?_ _)); exact BK207.out⟩, ⟨by repeat (first | (with_reducible first | exact HB.out | apply below_alloc | apply pw_below_drewN | apply below_drew1 | refine below_set ?_ GE207.out) | exact HB.out)⟩⟩
      · replace c11 := Bool.eq_false_iff.mpr c11
        subst c11
        have H1 : (towncrierref09_step.j0 k a1 true a0_0 l0_1 a0_2 a0_3 a0_4 a0_5 l0_6) = some r := by rw [if_neg (show ¬ (false = true) by decide)] at H; exact H
        clear H
        have H := H1
        clear H1
        have H' := Aside0.mk H
        clear H
        go_wp2
        go_meet
        case rel => exact ⟨_, (true), (by first | rfl | (simp; done) | (simp [*]; done)), H', ⟨by first | omega | exact Nat.le_refl _⟩, ⟨by (with_reducible repeat (first | refine blk_drewN ?_ _ | refine blk_drew ?_ | refine blk_alloc ?_ _)); exact BK207.out⟩, ⟨by repeat (first | (with_reducible first | exact HB.out | apply below_alloc | apply pw_below_drewN | apply below_drew1 | refine below_set ?_ GE207.out) | exact HB.out)⟩⟩
    · replace c10 := Bool.eq_false_iff.mpr c10
      subst c10
      have H1 : (towncrierref09_step.j0 k a1 true a0_0 l0_1 a0_2 a0_3 a0_4 a0_5 l0_6) = some r := by rw [if_neg (show ¬ (false = true) by decide)] at H; exact H
      clear H
      have H := H1
      clear H1
      have H' := Aside0.mk H
      clear H
      go_wp2
      go_meet
      case rel => exact ⟨_, (true), (by first | rfl | (simp; done) | (simp [*]; done)), H', ⟨by first | omega | exact Nat.le_refl _⟩, ⟨by (with_reducible repeat (first | refine blk_drewN ?_ _ | refine blk_drew ?_ | refine blk_alloc ?_ _)); exact BK207.out⟩, ⟨by repeat (first | (with_reducible first | exact HB.out | apply below_alloc | apply pw_below_drewN | apply below_drew1 | refine below_set ?_ GE207.out) | exact HB.out)⟩⟩
  case rest =>
    clear HC6
    try clear c1
    try clear p2
    try clear c3
    try clear c4
    try clear c10
    try clear c11
    try clear c12
    try clear c12b0
    try clear c14
    try clear c14b0
    try clear c16
    try clear c16b0
    try clear c18
    try clear hcz13_0
    try clear hcz13_1
    try clear hcz13_2
    try clear hcz13_3
    try clear hcz13_4
    try clear hcz13_5
    try clear hcz13_6
    try clear hcz15_0
    try clear hcz15_1
    try clear hcz15_2
    try clear hcz15_3
    try clear hcz15_4
    try clear hcz15_5
    try clear hcz15_6
    try clear hcz17_0
    try clear hcz17_1
    try clear hcz17_2
    try clear hcz17_3
    try clear hcz17_4
    try clear hcz17_5
    try clear hcz17_6
    try clear hcz19_0
    try clear hcz19_1
    try clear hcz19_2
    try clear hcz19_3
    try clear hcz19_4
    try clear hcz19_5
    try clear hcz19_6
    try clear hcz20_0
    try clear hcz20_1
    try clear hcz20_2
    try clear hcz20_3
    try clear hcz20_4
    try clear hcz20_5
    try clear hcz20_6
    try clear hcz8_0
    try clear hcz8_1
    try clear hcz8_2
    try clear hcz8_3
    try clear hcz8_4
    try clear hcz8_5
    try clear hcz8_6
    try clear hfz13_0
    try clear hfz13_1
    try clear hfz13_2
    try clear hfz13_3
    try clear hfz13_4
    try clear hfz13_5
    try clear hfz13_6
    try clear hfz15_0
    try clear hfz15_1
    try clear hfz15_2
    try clear hfz15_3
    try clear hfz15_4
    try clear hfz15_5
    try clear hfz15_6
    try clear hfz17_0
    try clear hfz17_1
    try clear hfz17_2
    try clear hfz17_3
    try clear hfz17_4
    try clear hfz17_5
    try clear hfz17_6
    try clear hfz19_0
    try clear hfz19_1
    try clear hfz19_2
    try clear hfz19_3
    try clear hfz19_4
    try clear hfz19_5
    try clear hfz19_6
    try clear hfz20_0
    try clear hfz20_1
    try clear hfz20_2
    try clear hfz20_3
    try clear hfz20_4
    try clear hfz20_5
    try clear hfz20_6
    try clear hfz8_0
    try clear hfz8_1
    try clear hfz8_2
    try clear hfz8_3
    try clear hfz8_4
    try clear hfz8_5
    try clear hfz8_6
    obtain ⟨kq, x49_5, rfl, HA, HJ5, BK207, HB⟩ := hcut
    cases kq with
    | zero => exact absurd HA.out (by simp [towncrierref09_step.j0])
    | succ kj5 =>
      have H := HA.out
      clear HA
      simp only [towncrierref09_step.j0] at H
      by_cases c21 : x49_5 = true
      · subst c21
        have H1 : (some false) = some r := by rw [if_pos rfl] at H; exact H
        clear H
        have H := H1
        clear H1
        obtain rfl := Option.some.inj H
        go_wp2
        go_ret
        exact ⟨by first | rfl | (simp [errW_none, errW_some] <;> rfl) | (simp [*, errW_none, errW_some] <;> rfl), by repeat (first | (with_reducible first | exact HB.out | apply below_alloc | apply pw_below_drewN | apply below_drew1 | refine below_set ?_ GE207.out) | exact HB.out)⟩
      · replace c21 := Bool.eq_false_iff.mpr c21
        subst c21
        have H1 : (if a0_4 = true then ((towncrierref05_Name.f kj5 a0_5).bind fun t210 => ((towncrierref08_May.f l0_6).bind fun t211 => (if a1 = true then (some false) else (if t210 = true then (some t211) else (some false))))) else (if a0_5.toList = ([] : List UInt8) then (some ((l0_6.length : Int) == 0)) else (some false))) = some r := by rw [if_neg (show ¬ (false = true) by decide)] at H; exact H
        clear H
        have H := H1
        clear H1
        by_cases c22 : a0_4 = true
        · subst c22
          have H1 : ((towncrierref05_Name.f kj5 a0_5).bind fun t210 => ((towncrierref08_May.f l0_6).bind fun t211 => (if a1 = true then (some false) else (if t210 = true then (some t211) else (some false))))) = some r := by rw [if_pos rfl] at H; exact H
          clear H
          have H := H1
          clear H1
          replace H := Option.bind_eq_some_iff.mp H
          obtain ⟨t210, A230, H⟩ := H
          replace H : ((towncrierref08_May.f l0_6).bind fun t211 => (if a1 = true then (some false) else (if t210 = true then (some t211) else (some false)))) = some r := H
          have A23 := Aside0.mk A230
          clear A230
          replace H := Option.bind_eq_some_iff.mp H
          obtain ⟨t211, A240, H⟩ := H
          replace H : (if a1 = true then (some false) else (if t210 = true then (some t211) else (some false))) = some r := H
          have A24 := Aside0.mk A240
          clear A240
          by_cases c25 : a1 = true
          · subst c25
            have H1 : (some false) = some r := by rw [if_pos rfl] at H; exact H
            clear H
            have H := H1
            clear H1
            obtain rfl := Option.some.inj H
            have hcz26_0 : wc.cell? ⟨gb207, 0, none⟩ = some (.string a0_0) := (blk_cell BK207.out 0).trans rfl
            have hcz26_1 : wc.cell? ⟨gb207, 1, none⟩ = some (.slice A0_1 l0_1.length c0_1) := (blk_cell BK207.out 1).trans rfl
            have hcz26_2 : wc.cell? ⟨gb207, 2, none⟩ = some (.int .i64 a0_2) := (blk_cell BK207.out 2).trans rfl
            have hcz26_3 : wc.cell? ⟨gb207, 3, none⟩ = some (.int .i64 a0_3) := (blk_cell BK207.out 3).trans rfl
            have hcz26_4 : wc.cell? ⟨gb207, 4, none⟩ = some (.bool true) := (blk_cell BK207.out 4).trans rfl
            have hcz26_5 : wc.cell? ⟨gb207, 5, none⟩ = some (.string a0_5) := (blk_cell BK207.out 5).trans rfl
            have hcz26_6 : wc.cell? ⟨gb207, 6, none⟩ = some (.slice A0_6 l0_6.length c0_6) := (blk_cell BK207.out 6).trans rfl
            have hfz26_0 := blk_frozen BK207.out 0
            have hfz26_1 := blk_frozen BK207.out 1
            have hfz26_2 := blk_frozen BK207.out 2
            have hfz26_3 := blk_frozen BK207.out 3
            have hfz26_4 := blk_frozen BK207.out 4
            have hfz26_5 := blk_frozen BK207.out 5
            have hfz26_6 := blk_frozen BK207.out 6
            go_wp2_with (first | ((with_reducible refine gate_callee (f := 48) rfl ?_); refine goesL_ (some 64) rfl rfl Try.func48 (by kernel_rfl) rfl #[.string a0_5] rfl (by (try simp only [List.map_toArray, List.map_cons, List.map_nil]); first | done | rfl | (simp only [List.length_drop, List.length_take]; rfl)) ?_; (with_reducible refine (towncrierref05_Name.calls kj5 a0_5 t210 _ A23.out).mono ?_); rintro e w' ⟨rfl, ⟨nd, rfl⟩⟩; refine ⟨_, rfl, ?_⟩) | ((with_reducible refine gate_callee (f := 49) rfl ?_); refine goesL_ (some 67) rfl rfl Try.func49 (by kernel_rfl) rfl #[.slice A0_6 l0_6.length c0_6] rfl (by (try simp only [List.map_toArray, List.map_cons, List.map_nil]); first | done | rfl | (simp only [List.length_drop, List.length_take]; rfl)) ?_; (with_reducible refine (towncrierref08_May.calls _ _ l0_6 t211 _ ?side1 ?side2 A24.out).mono ?_); (case side1 => repeat (first | exact (Kd.C_below HR0_6.out (by repeat (first | (with_reducible first | exact HB.out | apply below_alloc | apply pw_below_drewN | apply below_drew1 | refine below_set ?_ GE207.out) | exact HB.out))) | (with_reducible refine Kd.C_alloc ?_ _) | (with_reducible refine Kd.C_drewN ?_ _) | (with_reducible refine Kd.C_drew ?_))); (case side2 => exact HC0_6.out); rintro e w27 ⟨rfl, hb⟩; refine ⟨_, rfl, ?_⟩; have n0_ := Aside0.mk (blk_below (g := gb207) (o := .cells #[.string a0_0, .slice A0_1 l0_1.length c0_1, .int .i64 a0_2, .int .i64 a0_3, .bool true, .string a0_5, .slice A0_6 l0_6.length c0_6] 40 (0, 0)) (by (with_reducible repeat (first | refine blk_drewN ?_ _ | refine blk_drew ?_ | refine blk_alloc ?_ _)); exact BK207.out) hb); have n1_ := Aside0.mk (below_step (by repeat (first | (with_reducible first | exact HB.out | apply below_alloc | apply pw_below_drewN | apply below_drew1 | refine below_set ?_ GE207.out) | exact HB.out)) hb); clear BK207; clear HB; have BK207 := n0_; have HB := n1_; clear n0_ n1_; (try clear hb); (try clear hb2); (try clear hk); (try clear hi)))
            go_ret
            exact ⟨by first | rfl | (simp [errW_none, errW_some] <;> rfl) | (simp [*, errW_none, errW_some] <;> rfl), by repeat (first | (with_reducible first | exact HB.out | apply below_alloc | apply pw_below_drewN | apply below_drew1 | refine below_set ?_ GE207.out) | exact HB.out)⟩
          · replace c25 := Bool.eq_false_iff.mpr c25
            subst c25
            have H1 : (if t210 = true then (some t211) else (some false)) = some r := by rw [if_neg (show ¬ (false = true) by decide)] at H; exact H
            clear H
            have H := H1
            clear H1
            by_cases c28 : t210 = true
            · subst c28
              have H1 : (some t211) = some r := by rw [if_pos rfl] at H; exact H
              clear H
              have H := H1
              clear H1
              obtain rfl := Option.some.inj H
              have hcz29_0 : wc.cell? ⟨gb207, 0, none⟩ = some (.string a0_0) := (blk_cell BK207.out 0).trans rfl
              have hcz29_1 : wc.cell? ⟨gb207, 1, none⟩ = some (.slice A0_1 l0_1.length c0_1) := (blk_cell BK207.out 1).trans rfl
              have hcz29_2 : wc.cell? ⟨gb207, 2, none⟩ = some (.int .i64 a0_2) := (blk_cell BK207.out 2).trans rfl
              have hcz29_3 : wc.cell? ⟨gb207, 3, none⟩ = some (.int .i64 a0_3) := (blk_cell BK207.out 3).trans rfl
              have hcz29_4 : wc.cell? ⟨gb207, 4, none⟩ = some (.bool true) := (blk_cell BK207.out 4).trans rfl
              have hcz29_5 : wc.cell? ⟨gb207, 5, none⟩ = some (.string a0_5) := (blk_cell BK207.out 5).trans rfl
              have hcz29_6 : wc.cell? ⟨gb207, 6, none⟩ = some (.slice A0_6 l0_6.length c0_6) := (blk_cell BK207.out 6).trans rfl
              have hfz29_0 := blk_frozen BK207.out 0
              have hfz29_1 := blk_frozen BK207.out 1
              have hfz29_2 := blk_frozen BK207.out 2
              have hfz29_3 := blk_frozen BK207.out 3
              have hfz29_4 := blk_frozen BK207.out 4
              have hfz29_5 := blk_frozen BK207.out 5
              have hfz29_6 := blk_frozen BK207.out 6
              go_wp2_with (first | ((with_reducible refine gate_callee (f := 48) rfl ?_); refine goesL_ (some 64) rfl rfl Try.func48 (by kernel_rfl) rfl #[.string a0_5] rfl (by (try simp only [List.map_toArray, List.map_cons, List.map_nil]); first | done | rfl | (simp only [List.length_drop, List.length_take]; rfl)) ?_; (with_reducible refine (towncrierref05_Name.calls kj5 a0_5 true _ A23.out).mono ?_); rintro e w' ⟨rfl, ⟨nd, rfl⟩⟩; refine ⟨_, rfl, ?_⟩) | ((with_reducible refine gate_callee (f := 49) rfl ?_); refine goesL_ (some 67) rfl rfl Try.func49 (by kernel_rfl) rfl #[.slice A0_6 l0_6.length c0_6] rfl (by (try simp only [List.map_toArray, List.map_cons, List.map_nil]); first | done | rfl | (simp only [List.length_drop, List.length_take]; rfl)) ?_; (with_reducible refine (towncrierref08_May.calls _ _ l0_6 t211 _ ?side1 ?side2 A24.out).mono ?_); (case side1 => repeat (first | exact (Kd.C_below HR0_6.out (by repeat (first | (with_reducible first | exact HB.out | apply below_alloc | apply pw_below_drewN | apply below_drew1 | refine below_set ?_ GE207.out) | exact HB.out))) | (with_reducible refine Kd.C_alloc ?_ _) | (with_reducible refine Kd.C_drewN ?_ _) | (with_reducible refine Kd.C_drew ?_))); (case side2 => exact HC0_6.out); rintro e w30 ⟨rfl, hb⟩; refine ⟨_, rfl, ?_⟩; have n0_ := Aside0.mk (blk_below (g := gb207) (o := .cells #[.string a0_0, .slice A0_1 l0_1.length c0_1, .int .i64 a0_2, .int .i64 a0_3, .bool true, .string a0_5, .slice A0_6 l0_6.length c0_6] 40 (0, 0)) (by (with_reducible repeat (first | refine blk_drewN ?_ _ | refine blk_drew ?_ | refine blk_alloc ?_ _)); exact BK207.out) hb); have n1_ := Aside0.mk (below_step (by repeat (first | (with_reducible first | exact HB.out | apply below_alloc | apply pw_below_drewN | apply below_drew1 | refine below_set ?_ GE207.out) | exact HB.out)) hb); clear BK207; clear HB; have BK207 := n0_; have HB := n1_; clear n0_ n1_; (try clear hb); (try clear hb2); (try clear hk); (try clear hi)))
              go_ret
              exact ⟨by first | rfl | (simp [errW_none, errW_some] <;> rfl) | (simp [*, errW_none, errW_some] <;> rfl), by repeat (first | (with_reducible first | exact HB.out | apply below_alloc | apply pw_below_drewN | apply below_drew1 | refine below_set ?_ GE207.out) | exact HB.out)⟩
            · replace c28 := Bool.eq_false_iff.mpr c28
              subst c28
              have H1 : (some false) = some r := by rw [if_neg (show ¬ (false = true) by decide)] at H; exact H
              clear H
              have H := H1
              clear H1
              obtain rfl := Option.some.inj H
              have hcz31_0 : wc.cell? ⟨gb207, 0, none⟩ = some (.string a0_0) := (blk_cell BK207.out 0).trans rfl
              have hcz31_1 : wc.cell? ⟨gb207, 1, none⟩ = some (.slice A0_1 l0_1.length c0_1) := (blk_cell BK207.out 1).trans rfl
              have hcz31_2 : wc.cell? ⟨gb207, 2, none⟩ = some (.int .i64 a0_2) := (blk_cell BK207.out 2).trans rfl
              have hcz31_3 : wc.cell? ⟨gb207, 3, none⟩ = some (.int .i64 a0_3) := (blk_cell BK207.out 3).trans rfl
              have hcz31_4 : wc.cell? ⟨gb207, 4, none⟩ = some (.bool true) := (blk_cell BK207.out 4).trans rfl
              have hcz31_5 : wc.cell? ⟨gb207, 5, none⟩ = some (.string a0_5) := (blk_cell BK207.out 5).trans rfl
              have hcz31_6 : wc.cell? ⟨gb207, 6, none⟩ = some (.slice A0_6 l0_6.length c0_6) := (blk_cell BK207.out 6).trans rfl
              have hfz31_0 := blk_frozen BK207.out 0
              have hfz31_1 := blk_frozen BK207.out 1
              have hfz31_2 := blk_frozen BK207.out 2
              have hfz31_3 := blk_frozen BK207.out 3
              have hfz31_4 := blk_frozen BK207.out 4
              have hfz31_5 := blk_frozen BK207.out 5
              have hfz31_6 := blk_frozen BK207.out 6
              go_wp2_with (first | ((with_reducible refine gate_callee (f := 48) rfl ?_); refine goesL_ (some 64) rfl rfl Try.func48 (by kernel_rfl) rfl #[.string a0_5] rfl (by (try simp only [List.map_toArray, List.map_cons, List.map_nil]); first | done | rfl | (simp only [List.length_drop, List.length_take]; rfl)) ?_; (with_reducible refine (towncrierref05_Name.calls kj5 a0_5 false _ A23.out).mono ?_); rintro e w' ⟨rfl, ⟨nd, rfl⟩⟩; refine ⟨_, rfl, ?_⟩) | ((with_reducible refine gate_callee (f := 49) rfl ?_); refine goesL_ (some 67) rfl rfl Try.func49 (by kernel_rfl) rfl #[.slice A0_6 l0_6.length c0_6] rfl (by (try simp only [List.map_toArray, List.map_cons, List.map_nil]); first | done | rfl | (simp only [List.length_drop, List.length_take]; rfl)) ?_; (with_reducible refine (towncrierref08_May.calls _ _ l0_6 t211 _ ?side1 ?side2 A24.out).mono ?_); (case side1 => repeat (first | exact (Kd.C_below HR0_6.out (by repeat (first | (with_reducible first | exact HB.out | apply below_alloc | apply pw_below_drewN | apply below_drew1 | refine below_set ?_ GE207.out) | exact HB.out))) | (with_reducible refine Kd.C_alloc ?_ _) | (with_reducible refine Kd.C_drewN ?_ _) | (with_reducible refine Kd.C_drew ?_))); (case side2 => exact HC0_6.out); rintro e w32 ⟨rfl, hb⟩; refine ⟨_, rfl, ?_⟩; have n0_ := Aside0.mk (blk_below (g := gb207) (o := .cells #[.string a0_0, .slice A0_1 l0_1.length c0_1, .int .i64 a0_2, .int .i64 a0_3, .bool true, .string a0_5, .slice A0_6 l0_6.length c0_6] 40 (0, 0)) (by (with_reducible repeat (first | refine blk_drewN ?_ _ | refine blk_drew ?_ | refine blk_alloc ?_ _)); exact BK207.out) hb); have n1_ := Aside0.mk (below_step (by repeat (first | (with_reducible first | exact HB.out | apply below_alloc | apply pw_below_drewN | apply below_drew1 | refine below_set ?_ GE207.out) | exact HB.out)) hb); clear BK207; clear HB; have BK207 := n0_; have HB := n1_; clear n0_ n1_; (try clear hb); (try clear hb2); (try clear hk); (try clear hi)))
              go_ret
              exact ⟨by first | rfl | (simp [errW_none, errW_some] <;> rfl) | (simp [*, errW_none, errW_some] <;> rfl), by repeat (first | (with_reducible first | exact HB.out | apply below_alloc | apply pw_below_drewN | apply below_drew1 | refine below_set ?_ GE207.out) | exact HB.out)⟩
        · replace c22 := Bool.eq_false_iff.mpr c22
          subst c22
          have H1 : (if a0_5.toList = ([] : List UInt8) then (some ((l0_6.length : Int) == 0)) else (some false)) = some r := by rw [if_neg (show ¬ (false = true) by decide)] at H; exact H
          clear H
          have H := H1
          clear H1
          by_cases c33 : a0_5.toList = ([] : List UInt8)
          · rw [if_pos c33] at H
            have c33b0 : (a0_5.toList == ([] : List UInt8)) = true := beq_iff_eq.mpr c33
            have c33b1 : (a0_5.toList != ([] : List UInt8)) = false := bne_eq_false_iff_eq.mpr c33
            clear c33
            obtain rfl := Option.some.inj H
            have hcz34_0 : wc.cell? ⟨gb207, 0, none⟩ = some (.string a0_0) := (blk_cell BK207.out 0).trans rfl
            have hcz34_1 : wc.cell? ⟨gb207, 1, none⟩ = some (.slice A0_1 l0_1.length c0_1) := (blk_cell BK207.out 1).trans rfl
            have hcz34_2 : wc.cell? ⟨gb207, 2, none⟩ = some (.int .i64 a0_2) := (blk_cell BK207.out 2).trans rfl
            have hcz34_3 : wc.cell? ⟨gb207, 3, none⟩ = some (.int .i64 a0_3) := (blk_cell BK207.out 3).trans rfl
            have hcz34_4 : wc.cell? ⟨gb207, 4, none⟩ = some (.bool false) := (blk_cell BK207.out 4).trans rfl
            have hcz34_5 : wc.cell? ⟨gb207, 5, none⟩ = some (.string a0_5) := (blk_cell BK207.out 5).trans rfl
            have hcz34_6 : wc.cell? ⟨gb207, 6, none⟩ = some (.slice A0_6 l0_6.length c0_6) := (blk_cell BK207.out 6).trans rfl
            have hfz34_0 := blk_frozen BK207.out 0
            have hfz34_1 := blk_frozen BK207.out 1
            have hfz34_2 := blk_frozen BK207.out 2
            have hfz34_3 := blk_frozen BK207.out 3
            have hfz34_4 := blk_frozen BK207.out 4
            have hfz34_5 := blk_frozen BK207.out 5
            have hfz34_6 := blk_frozen BK207.out 6
            go_wp2
            go_ret
            exact ⟨by first | rfl | (simp [errW_none, errW_some] <;> rfl) | (simp [*, errW_none, errW_some] <;> rfl), by repeat (first | (with_reducible first | exact HB.out | apply below_alloc | apply pw_below_drewN | apply below_drew1 | refine below_set ?_ GE207.out) | exact HB.out)⟩
          · rw [if_neg c33] at H
            have c33b0 : (a0_5.toList == ([] : List UInt8)) = false := beq_eq_false_iff_ne.mpr c33
            have c33b1 : (a0_5.toList != ([] : List UInt8)) = true := bne_iff_ne.mpr c33
            obtain rfl := Option.some.inj H
            have hcz35_0 : wc.cell? ⟨gb207, 0, none⟩ = some (.string a0_0) := (blk_cell BK207.out 0).trans rfl
            have hcz35_1 : wc.cell? ⟨gb207, 1, none⟩ = some (.slice A0_1 l0_1.length c0_1) := (blk_cell BK207.out 1).trans rfl
            have hcz35_2 : wc.cell? ⟨gb207, 2, none⟩ = some (.int .i64 a0_2) := (blk_cell BK207.out 2).trans rfl
            have hcz35_3 : wc.cell? ⟨gb207, 3, none⟩ = some (.int .i64 a0_3) := (blk_cell BK207.out 3).trans rfl
            have hcz35_4 : wc.cell? ⟨gb207, 4, none⟩ = some (.bool false) := (blk_cell BK207.out 4).trans rfl
            have hcz35_5 : wc.cell? ⟨gb207, 5, none⟩ = some (.string a0_5) := (blk_cell BK207.out 5).trans rfl
            have hcz35_6 : wc.cell? ⟨gb207, 6, none⟩ = some (.slice A0_6 l0_6.length c0_6) := (blk_cell BK207.out 6).trans rfl
            have hfz35_0 := blk_frozen BK207.out 0
            have hfz35_1 := blk_frozen BK207.out 1
            have hfz35_2 := blk_frozen BK207.out 2
            have hfz35_3 := blk_frozen BK207.out 3
            have hfz35_4 := blk_frozen BK207.out 4
            have hfz35_5 := blk_frozen BK207.out 5
            have hfz35_6 := blk_frozen BK207.out 6
            go_wp2
            go_ret
            exact ⟨by first | rfl | (simp [errW_none, errW_some] <;> rfl) | (simp [*, errW_none, errW_some] <;> rfl), by repeat (first | (with_reducible first | exact HB.out | apply below_alloc | apply pw_below_drewN | apply below_drew1 | refine below_set ?_ GE207.out) | exact HB.out)⟩
end Go.Proofs.Ytooemobolfoefaa.P

namespace Go.Proofs.Ytooemobolfoefaa.P
open Go.RowKit Go.Proofs.YtooemobolfoefaaW.PrintWords Go.Proofs.YtooemobolfoefaaW.PrintLast Go.Proofs.YtooemobolfoefaaW.PrintMore
attribute [local go_sem] max2_int min2_int max_two min_two max_three min_three max_four min_four   -- for this text's walks alone
set_option linter.unusedVariables false
set_option linter.unusedSimpArgs false
mutual
def towncrierref09_May.j0 : Nat → Int → Bool → List (SStep) → Int → Int → Int → Int → Option (Bool)
  | 0, _, _, _, _, _, _, _ => none
  | k + 1, x3, x65, x213000, x213001, x213002, x213003, x213004 => if x65 = true then (some false) else (towncrierref09_May.l0 k x3 0 x213000 x213001 x213002 x213003 x213004)
def towncrierref09_May.l0 : Nat → Int → Int → List (SStep) → Int → Int → Int → Int → Option (Bool)
  | 0, _, _, _, _, _, _, _ => none
  | k + 1, x3, x4, x213000, x213001, x213002, x213003, x213004 => if x4 < x3 then (if 0 ≤ x4 then (if x4 < (x213000.length : Int) then ((towncrierref09_step.f k ((rd_TStep x213000 x4).f0) ((rd_TStep x213000 x4).f1) ((rd_TStep x213000 x4).f2) ((rd_TStep x213000 x4).f3) ((rd_TStep x213000 x4).f4) ((rd_TStep x213000 x4).f5) ((rd_TStep x213000 x4).f6) (x4 == 0) (x4 == (wrap64 (x3 - 1)))).bind fun t214 => (if t214 = true then (towncrierref09_May.l0 k x3 (wrap64 (x4 + 1)) x213000 x213001 x213002 x213003 x213004) else (some false))) else (none)) else (none)) else (some true)
end
def towncrierref09_May.f (k : Nat) (l0_0 : List (SStep)) (a0_1 : Int) (a0_2 : Int) (a0_3 : Int) (a0_4 : Int) : Option (Bool) := if (l0_0.length : Int) < 1 then (towncrierref09_May.j0 k (l0_0.length : Int) true l0_0 a0_1 a0_2 a0_3 a0_4) else (if (l0_0.length : Int) > 4 then (towncrierref09_May.j0 k (l0_0.length : Int) true l0_0 a0_1 a0_2 a0_3 a0_4) else (if a0_1 < 0 then (towncrierref09_May.j0 k (l0_0.length : Int) true l0_0 a0_1 a0_2 a0_3 a0_4) else (if a0_1 > 1125899906842624 then (towncrierref09_May.j0 k (l0_0.length : Int) true l0_0 a0_1 a0_2 a0_3 a0_4) else (if a0_2 < 0 then (towncrierref09_May.j0 k (l0_0.length : Int) true l0_0 a0_1 a0_2 a0_3 a0_4) else (if a0_2 ≥ 4 then (towncrierref09_May.j0 k (l0_0.length : Int) true l0_0 a0_1 a0_2 a0_3 a0_4) else (if a0_3 < 0 then (towncrierref09_May.j0 k (l0_0.length : Int) true l0_0 a0_1 a0_2 a0_3 a0_4) else (if a0_3 ≥ (l0_0.length : Int) then (towncrierref09_May.j0 k (l0_0.length : Int) true l0_0 a0_1 a0_2 a0_3 a0_4) else (if a0_4 < 0 then (towncrierref09_May.j0 k (l0_0.length : Int) true l0_0 a0_1 a0_2 a0_3 a0_4) else (if a0_4 ≥ 6 then (towncrierref09_May.j0 k (l0_0.length : Int) true l0_0 a0_1 a0_2 a0_3 a0_4) else (if a0_2 = 0 then (towncrierref09_May.j0 k (l0_0.length : Int) (a0_4 != 0) l0_0 a0_1 a0_2 a0_3 a0_4) else (towncrierref09_May.j0 k (l0_0.length : Int) false l0_0 a0_1 a0_2 a0_3 a0_4)))))))))))
set_option maxHeartbeats 8000000 in
set_option maxRecDepth 100000 in
theorem towncrierref09_May.calls (k : Nat) (A0_0 : Option Addr) (c0_0 : Nat) (l0_0 : List (SStep)) (a0_1 : Int) (a0_2 : Int) (a0_3 : Int) (a0_4 : Int) (r : Bool) (w : World) (hr0_0 : Kd.C kStep w A0_0 l0_0.length l0_0) (hc0_0 : l0_0.length ≤ c0_0) (h : towncrierref09_May.f k l0_0 a0_1 a0_2 a0_3 a0_4 = some r) :
    Calls Try.prog 16 #[.agg #[.slice A0_0 l0_0.length c0_0, .int .i64 a0_1, .int .i64 a0_2, .int .i64 a0_3, .int .i64 a0_4]] w fun e w' => e = .returned (.bool r) ∧ Below w.heap.size w w' := by
  have hu24 := Try.underlying24
  have hu40 := Try.underlying40
  have HR0_0 := Aside0.mk hr0_0
  have HC0_0 := Aside0.mk hc0_0
  clear hr0_0 hc0_0
  have HB := Aside0.mk (Below.refl w.heap.size w)
  have H : (if (l0_0.length : Int) < 1 then (towncrierref09_May.j0 k (l0_0.length : Int) true l0_0 a0_1 a0_2 a0_3 a0_4) else (if (l0_0.length : Int) > 4 then (towncrierref09_May.j0 k (l0_0.length : Int) true l0_0 a0_1 a0_2 a0_3 a0_4) else (if a0_1 < 0 then (towncrierref09_May.j0 k (l0_0.length : Int) true l0_0 a0_1 a0_2 a0_3 a0_4) else (if a0_1 > 1125899906842624 then (towncrierref09_May.j0 k (l0_0.length : Int) true l0_0 a0_1 a0_2 a0_3 a0_4) else (if a0_2 < 0 then (towncrierref09_May.j0 k (l0_0.length : Int) true l0_0 a0_1 a0_2 a0_3 a0_4) else (if a0_2 ≥ 4 then (towncrierref09_May.j0 k (l0_0.length : Int) true l0_0 a0_1 a0_2 a0_3 a0_4) else (if a0_3 < 0 then (towncrierref09_May.j0 k (l0_0.length : Int) true l0_0 a0_1 a0_2 a0_3 a0_4) else (if a0_3 ≥ (l0_0.length : Int) then (towncrierref09_May.j0 k (l0_0.length : Int) true l0_0 a0_1 a0_2 a0_3 a0_4) else (if a0_4 < 0 then (towncrierref09_May.j0 k (l0_0.length : Int) true l0_0 a0_1 a0_2 a0_3 a0_4) else (if a0_4 ≥ 6 then (towncrierref09_May.j0 k (l0_0.length : Int) true l0_0 a0_1 a0_2 a0_3 a0_4) else (if a0_2 = 0 then (towncrierref09_May.j0 k (l0_0.length : Int) (a0_4 != 0) l0_0 a0_1 a0_2 a0_3 a0_4) else (towncrierref09_May.j0 k (l0_0.length : Int) false l0_0 a0_1 a0_2 a0_3 a0_4)))))))))))) = some r := h
  clear h
  have HC2 := Aside0.mk H
  clear H
  go_enter Try.func16, Try.ntmps16
  go_upto_region 2 with (first | ((with_reducible refine gate_dst (N := 1) rfl ?_); refine box_event ?hg (N := 1) ?hd (cs := #[.slice A0_0 l0_0.length c0_0, .int .i64 a0_1, .int .i64 a0_2, .int .i64 a0_3, .int .i64 a0_4]) (t := 24) ?hr ?_; (case hd => rfl); (case hg => rfl); (case hr => first | (go_simp; done) | (go_simp; rfl)); intro gb212 hg w3 hbox hb; have n0_ := Aside0.mk (below_step (by repeat (first | (with_reducible first | exact HB.out | apply below_alloc | apply pw_below_drewN | apply below_drew1) | exact HB.out)) hb); have n1_ := Aside0.mk (hbox); have n2_ := Aside0.mk ((by rw [hg]; exact (below_size (by repeat (first | (with_reducible first | exact HB.out | apply below_alloc | apply pw_below_drewN | apply below_drew1) | exact HB.out))) : w.heap.size ≤ gb212)); have n3_ := Aside0.mk ((by rw [hg]; exact (below_size (by repeat (first | (with_reducible first | exact HB.out | apply below_alloc | apply pw_below_drewN | apply below_drew1) | exact HB.out))) : w.heap.size ≤ gb212)); clear HB; have HB := n0_; have BK212 := n1_; have GW212 := n2_; have GE212 := n3_; clear n0_ n1_ n2_ n3_; clear hb hbox hg; have hcz4_0 : w3.cell? ⟨gb212, 0, none⟩ = some (.slice A0_0 l0_0.length c0_0) := (blk_cell BK212.out 0).trans rfl; have hcz4_1 : w3.cell? ⟨gb212, 1, none⟩ = some (.int .i64 a0_1) := (blk_cell BK212.out 1).trans rfl; have hcz4_2 : w3.cell? ⟨gb212, 2, none⟩ = some (.int .i64 a0_2) := (blk_cell BK212.out 2).trans rfl; have hcz4_3 : w3.cell? ⟨gb212, 3, none⟩ = some (.int .i64 a0_3) := (blk_cell BK212.out 3).trans rfl; have hcz4_4 : w3.cell? ⟨gb212, 4, none⟩ = some (.int .i64 a0_4) := (blk_cell BK212.out 4).trans rfl; have hfz4_0 := blk_frozen BK212.out 0; have hfz4_1 := blk_frozen BK212.out 1; have hfz4_2 := blk_frozen BK212.out 2; have hfz4_3 := blk_frozen BK212.out 3; have hfz4_4 := blk_frozen BK212.out 4))
  (try simp only [Act.put, List.setIfInBounds_toArray, List.set_cons_zero, List.set_cons_succ])
  go_cut [65] (fun v65 wc => ∃ (kq : Nat) (x65_1 : Bool), v65 = .bool x65_1 ∧ Aside0 (towncrierref09_May.j0 kq (l0_0.length : Int) x65_1 l0_0 a0_1 a0_2 a0_3 a0_4 = some r) ∧ Aside0 (kq ≤ k) ∧ Aside0 (wc.heap[gb212]? = some (.cells #[(.slice A0_0 l0_0.length c0_0), .int .i64 a0_1, .int .i64 a0_2, .int .i64 a0_3, .int .i64 a0_4] 24 (0, 0))) ∧ Aside0 (Below w.heap.size w wc))
  case first =>
    have H := HC2.out
    clear HC2
    by_cases c5 : (l0_0.length : Int) < 1
    · rw [if_pos c5] at H
      have c5b0 : decide ((l0_0.length : Int) < 1) = true := decide_eq_true c5
      have c5b1 : decide (l0_0.length < 1) = true := decide_eq_true (by omega)
      clear c5
      (first | rw [c5b0] | (simp only [i64_w, i32_w]; rw [c5b0]) | skip)
      have H' := Aside0.mk H
      clear H
      go_wp2
      go_meet
      case rel => exact ⟨_, (true), (by first | rfl | (simp; done) | (simp [*]; done)), H', ⟨by first | omega | exact Nat.le_refl _⟩, ⟨by (with_reducible repeat (first | refine blk_drewN ?_ _ | refine blk_drew ?_ | refine blk_alloc ?_ _)); exact BK212.out⟩, ⟨by repeat (first | (with_reducible first | exact HB.out | apply below_alloc | apply pw_below_drewN | apply below_drew1 | refine below_set ?_ GE212.out) | exact HB.out)⟩⟩
    · rw [if_neg c5] at H
      have c5b0 : decide ((l0_0.length : Int) < 1) = false := decide_eq_false c5
      have c5b1 : decide (l0_0.length < 1) = false := decide_eq_false (by omega)
      clear c5
      (first | rw [c5b0] | (simp only [i64_w, i32_w]; rw [c5b0]) | skip)
      by_cases c6 : (l0_0.length : Int) > 4
      · rw [if_pos c6] at H
        have c6b0 : decide (4 < (l0_0.length : Int)) = true := decide_eq_true c6
        have c6b1 : decide (4 < l0_0.length) = true := decide_eq_true (by omega)
        clear c6
        have H' := Aside0.mk H
        clear H
        go_wp2
        go_meet
        case rel => exact ⟨_, (true), (by first | rfl | (simp; done) | (simp [*]; done)), H', ⟨by first | omega | exact Nat.le_refl _⟩, ⟨by (with_reducible repeat (first | refine blk_drewN ?_ _ | refine blk_drew ?_ | refine blk_alloc ?_ _)); exact BK212.out⟩, ⟨by repeat (first | (with_reducible first | exact HB.out | apply below_alloc | apply pw_below_drewN | apply below_drew1 | refine below_set ?_ GE212.out) | exact HB.out)⟩⟩
      · rw [if_neg c6] at H
        have c6b0 : decide (4 < (l0_0.length : Int)) = false := decide_eq_false c6
        have c6b1 : decide (4 < l0_0.length) = false := decide_eq_false (by omega)
        clear c6
        by_cases c7 : a0_1 < 0
        · rw [if_pos c7] at H
          have c7b0 : decide (a0_1 < 0) = true := decide_eq_true c7
          clear c7
          have H' := Aside0.mk H
          clear H
          have hcz8_0 : w3.cell? ⟨gb212, 0, none⟩ = some (.slice A0_0 l0_0.length c0_0) := (blk_cell BK212.out 0).trans rfl
          have hcz8_1 : w3.cell? ⟨gb212, 1, none⟩ = some (.int .i64 a0_1) := (blk_cell BK212.out 1).trans rfl
          have hcz8_2 : w3.cell? ⟨gb212, 2, none⟩ = some (.int .i64 a0_2) := (blk_cell BK212.out 2).trans rfl
          have hcz8_3 : w3.cell? ⟨gb212, 3, none⟩ = some (.int .i64 a0_3) := (blk_cell BK212.out 3).trans rfl
          have hcz8_4 : w3.cell? ⟨gb212, 4, none⟩ = some (.int .i64 a0_4) := (blk_cell BK212.out 4).trans rfl
          have hfz8_0 := blk_frozen BK212.out 0
          have hfz8_1 := blk_frozen BK212.out 1
          have hfz8_2 := blk_frozen BK212.out 2
          have hfz8_3 := blk_frozen BK212.out 3
          have hfz8_4 := blk_frozen BK212.out 4
          go_wp2
          go_meet
          case rel => exact ⟨_, (true), (by first | rfl | (simp; done) | (simp [*]; done)), H', ⟨by first | omega | exact Nat.le_refl _⟩, ⟨by (with_reducible repeat (first | refine blk_drewN ?_ _ | refine blk_drew ?_ | refine blk_alloc ?_ _)); exact BK212.out⟩, ⟨by repeat (first | (with_reducible first | exact HB.out | apply below_alloc | apply pw_below_drewN | apply below_drew1 | refine below_set ?_ GE212.out) | exact HB.out)⟩⟩
        · rw [if_neg c7] at H
          have c7b0 : decide (a0_1 < 0) = false := decide_eq_false c7
          clear c7
          by_cases c9 : a0_1 > 1125899906842624
          · rw [if_pos c9] at H
            have c9b0 : decide (1125899906842624 < a0_1) = true := decide_eq_true c9
            clear c9
            have H' := Aside0.mk H
            clear H
            have hcz10_0 : w3.cell? ⟨gb212, 0, none⟩ = some (.slice A0_0 l0_0.length c0_0) := (blk_cell BK212.out 0).trans rfl
            have hcz10_1 : w3.cell? ⟨gb212, 1, none⟩ = some (.int .i64 a0_1) := (blk_cell BK212.out 1).trans rfl
            have hcz10_2 : w3.cell? ⟨gb212, 2, none⟩ = some (.int .i64 a0_2) := (blk_cell BK212.out 2).trans rfl
            have hcz10_3 : w3.cell? ⟨gb212, 3, none⟩ = some (.int .i64 a0_3) := (blk_cell BK212.out 3).trans rfl
            have hcz10_4 : w3.cell? ⟨gb212, 4, none⟩ = some (.int .i64 a0_4) := (blk_cell BK212.out 4).trans rfl
            have hfz10_0 := blk_frozen BK212.out 0
            have hfz10_1 := blk_frozen BK212.out 1
            have hfz10_2 := blk_frozen BK212.out 2
            have hfz10_3 := blk_frozen BK212.out 3
            have hfz10_4 := blk_frozen BK212.out 4
            go_wp2
            go_meet
            case rel => exact ⟨_, (true), (by first | rfl | (simp; done) | (simp [*]; done)), H', ⟨by first | omega | exact Nat.le_refl _⟩, ⟨by (with_reducible repeat (first | refine blk_drewN ?_ _ | refine blk_drew ?_ | refine blk_alloc ?_ _)); exact BK212.out⟩, ⟨by repeat (first | (with_reducible first | exact HB.out | apply below_alloc | apply pw_below_drewN | apply below_drew1 | refine below_set ?_ GE212.out) | exact HB.out)⟩⟩
          · rw [if_neg c9] at H
            have c9b0 : decide (1125899906842624 < a0_1) = false := decide_eq_false c9
            clear c9
            by_cases c11 : a0_2 < 0
            · rw [if_pos c11] at H
              have c11b0 : decide (a0_2 < 0) = true := decide_eq_true c11
              clear c11
              have H' := Aside0.mk H
              clear H
              have hcz12_0 : w3.cell? ⟨gb212, 0, none⟩ = some (.slice A0_0 l0_0.length c0_0) := (blk_cell BK212.out 0).trans rfl
              have hcz12_1 : w3.cell? ⟨gb212, 1, none⟩ = some (.int .i64 a0_1) := (blk_cell BK212.out 1).trans rfl
              have hcz12_2 : w3.cell? ⟨gb212, 2, none⟩ = some (.int .i64 a0_2) := (blk_cell BK212.out 2).trans rfl
              have hcz12_3 : w3.cell? ⟨gb212, 3, none⟩ = some (.int .i64 a0_3) := (blk_cell BK212.out 3).trans rfl
              have hcz12_4 : w3.cell? ⟨gb212, 4, none⟩ = some (.int .i64 a0_4) := (blk_cell BK212.out 4).trans rfl
              have hfz12_0 := blk_frozen BK212.out 0
              have hfz12_1 := blk_frozen BK212.out 1
              have hfz12_2 := blk_frozen BK212.out 2
              have hfz12_3 := blk_frozen BK212.out 3
              have hfz12_4 := blk_frozen BK212.out 4
              go_wp2
              go_meet
              case rel => exact ⟨_, (true), (by first | rfl | (simp; done) | (simp [*]; done)), H', ⟨by first | omega | exact Nat.le_refl _⟩, ⟨by (with_reducible repeat (first | refine blk_drewN ?_ _ | refine blk_drew ?_ | refine blk_alloc ?_ _)); exact BK212.out⟩, ⟨by repeat (first | (with_reducible first | exact HB.out | apply below_alloc | apply pw_below_drewN | apply below_drew1 | refine below_set ?_ GE212.out) | exact HB.out)⟩⟩
            · rw [if_neg c11] at H
              have c11b0 : decide (a0_2 < 0) = false := decide_eq_false c11
              clear c11
              by_cases c13 : a0_2 ≥ 4
              · rw [if_pos c13] at H
                have c13b0 : decide (4 ≤ a0_2) = true := decide_eq_true c13
                clear c13
                have H' := Aside0.mk H
                clear H
                have hcz14_0 : w3.cell? ⟨gb212, 0, none⟩ = some (.slice A0_0 l0_0.length c0_0) := (blk_cell BK212.out 0).trans rfl
                have hcz14_1 : w3.cell? ⟨gb212, 1, none⟩ = some (.int .i64 a0_1) := (blk_cell BK212.out 1).trans rfl
                have hcz14_2 : w3.cell? ⟨gb212, 2, none⟩ = some (.int .i64 a0_2) := (blk_cell BK212.out 2).trans rfl
                have hcz14_3 : w3.cell? ⟨gb212, 3, none⟩ = some (.int .i64 a0_3) := (blk_cell BK212.out 3).trans rfl
                have hcz14_4 : w3.cell? ⟨gb212, 4, none⟩ = some (.int .i64 a0_4) := (blk_cell BK212.out 4).trans rfl
                have hfz14_0 := blk_frozen BK212.out 0
                have hfz14_1 := blk_frozen BK212.out 1
                have hfz14_2 := blk_frozen BK212.out 2
                have hfz14_3 := blk_frozen BK212.out 3
                have hfz14_4 := blk_frozen BK212.out 4
                go_wp2
                go_meet
                case rel => exact ⟨_, (true), (by first | rfl | (simp; done) | (simp [*]; done)), H', ⟨by first | omega | exact Nat.le_refl _⟩, ⟨by (with_reducible repeat (first | refine blk_drewN ?_ _ | refine blk_drew ?_ | refine blk_alloc ?_ _)); exact BK212.out⟩, ⟨by repeat (first | (with_reducible first | exact HB.out | apply below_alloc | apply pw_below_drewN | apply below_drew1 | refine below_set ?_ GE212.out) | exact HB.out)⟩⟩
              · rw [if_neg c13] at H
                have c13b0 : decide (4 ≤ a0_2) = false := decide_eq_false c13
                clear c13
                by_cases c15 : a0_3 < 0
                · rw [if_pos c15] at H
                  have c15b0 : decide (a0_3 < 0) = true := decide_eq_true c15
                  clear c15
                  have H' := Aside0.mk H
                  clear H
                  have hcz16_0 : w3.cell? ⟨gb212, 0, none⟩ = some (.slice A0_0 l0_0.length c0_0) := (blk_cell BK212.out 0).trans rfl
                  have hcz16_1 : w3.cell? ⟨gb212, 1, none⟩ = some (.int .i64 a0_1) := (blk_cell BK212.out 1).trans rfl
                  have hcz16_2 : w3.cell? ⟨gb212, 2, none⟩ = some (.int .i64 a0_2) := (blk_cell BK212.out 2).trans rfl
                  have hcz16_3 : w3.cell? ⟨gb212, 3, none⟩ = some (.int .i64 a0_3) := (blk_cell BK212.out 3).trans rfl
                  have hcz16_4 : w3.cell? ⟨gb212, 4, none⟩ = some (.int .i64 a0_4) := (blk_cell BK212.out 4).trans rfl
                  have hfz16_0 := blk_frozen BK212.out 0
                  have hfz16_1 := blk_frozen BK212.out 1
                  have hfz16_2 := blk_frozen BK212.out 2
                  have hfz16_3 := blk_frozen BK212.out 3
                  have hfz16_4 := blk_frozen BK212.out 4
                  go_wp2
                  go_meet
                  case rel => exact ⟨_, (true), (by first | rfl | (simp; done) | (simp [*]; done)), H', ⟨by first | omega | exact Nat.le_refl _⟩, ⟨by (with_reducible repeat (first | refine blk_drewN ?_ _ | refine blk_drew ?_ | refine blk_alloc ?_ _)); exact BK212.out⟩, ⟨by repeat (first | (with_reducible first | exact HB.out | apply below_alloc | apply pw_below_drewN | apply below_drew1 | refine below_set ?_ GE212.out) | exact HB.out)⟩⟩
                · rw [if_neg c15] at H
                  have c15b0 : decide (a0_3 < 0) = false := decide_eq_false c15
                  clear c15
                  by_cases c17 : a0_3 ≥ (l0_0.length : Int)
                  · rw [if_pos c17] at H
                    have c17b0 : decide ((l0_0.length : Int) ≤ a0_3) = true := decide_eq_true c17
                    clear c17
                    have H' := Aside0.mk H
                    clear H
                    have hcz18_0 : w3.cell? ⟨gb212, 0, none⟩ = some (.slice A0_0 l0_0.length c0_0) := (blk_cell BK212.out 0).trans rfl
                    have hcz18_1 : w3.cell? ⟨gb212, 1, none⟩ = some (.int .i64 a0_1) := (blk_cell BK212.out 1).trans rfl
                    have hcz18_2 : w3.cell? ⟨gb212, 2, none⟩ = some (.int .i64 a0_2) := (blk_cell BK212.out 2).trans rfl
                    have hcz18_3 : w3.cell? ⟨gb212, 3, none⟩ = some (.int .i64 a0_3) := (blk_cell BK212.out 3).trans rfl
                    have hcz18_4 : w3.cell? ⟨gb212, 4, none⟩ = some (.int .i64 a0_4) := (blk_cell BK212.out 4).trans rfl
                    have hfz18_0 := blk_frozen BK212.out 0
                    have hfz18_1 := blk_frozen BK212.out 1
                    have hfz18_2 := blk_frozen BK212.out 2
                    have hfz18_3 := blk_frozen BK212.out 3
                    have hfz18_4 := blk_frozen BK212.out 4
                    go_wp2
                    go_meet
                    case rel => exact ⟨_, (true), (by first | rfl | (simp; done) | (simp [*]; done)), H', ⟨by first | omega | exact Nat.le_refl _⟩, ⟨by (with_reducible repeat (first | refine blk_drewN ?_ _ | refine blk_drew ?_ | refine blk_alloc ?_ _)); exact BK212.out⟩, ⟨by repeat (first | (with_reducible first | exact HB.out | apply below_alloc | apply pw_below_drewN | apply below_drew1 | refine below_set ?_ GE212.out) | exact HB.out)⟩⟩
                  · rw [if_neg c17] at H
                    have c17b0 : decide ((l0_0.length : Int) ≤ a0_3) = false := decide_eq_false c17
                    clear c17
                    by_cases c19 : a0_4 < 0
                    · rw [if_pos c19] at H
                      have c19b0 : decide (a0_4 < 0) = true := decide_eq_true c19
                      clear c19
                      have H' := Aside0.mk H
                      clear H
                      have hcz20_0 : w3.cell? ⟨gb212, 0, none⟩ = some (.slice A0_0 l0_0.length c0_0) := (blk_cell BK212.out 0).trans rfl
                      have hcz20_1 : w3.cell? ⟨gb212, 1, none⟩ = some (.int .i64 a0_1) := (blk_cell BK212.out 1).trans rfl
                      have hcz20_2 : w3.cell? ⟨gb212, 2, none⟩ = some (.int .i64 a0_2) := (blk_cell BK212.out 2).trans rfl
                      have hcz20_3 : w3.cell? ⟨gb212, 3, none⟩ = some (.int .i64 a0_3) := (blk_cell BK212.out 3).trans rfl
                      have hcz20_4 : w3.cell? ⟨gb212, 4, none⟩ = some (.int .i64 a0_4) := (blk_cell BK212.out 4).trans rfl
                      have hfz20_0 := blk_frozen BK212.out 0
                      have hfz20_1 := blk_frozen BK212.out 1
                      have hfz20_2 := blk_frozen BK212.out 2
                      have hfz20_3 := blk_frozen BK212.out 3
                      have hfz20_4 := blk_frozen BK212.out 4
                      go_wp2
                      go_meet
                      case rel => exact ⟨_, (true), (by first | rfl | (simp; done) | (simp [*]; done)), H', ⟨by first | omega | exact Nat.le_refl _⟩, ⟨by (with_reducible repeat (first | refine blk_drewN ?_ _ | refine blk_drew ?_ | refine blk_alloc ?_ _)); exact BK212.out⟩, ⟨by repeat (first | (with_reducible first | exact HB.out | apply below_alloc | apply pw_below_drewN | apply below_drew1 | refine below_set ?_ GE212.out) | exact HB.out)⟩⟩
                    · rw [if_neg c19] at H
                      have c19b0 : decide (a0_4 < 0) = false := decide_eq_false c19
                      clear c19
                      by_cases c21 : a0_4 ≥ 6
                      · rw [if_pos c21] at H
                        have c21b0 : decide (6 ≤ a0_4) = true := decide_eq_true c21
                        clear c21
                        have H' := Aside0.mk H
                        clear H
                        have hcz22_0 : w3.cell? ⟨gb212, 0, none⟩ = some (.slice A0_0 l0_0.length c0_0) := (blk_cell BK212.out 0).trans rfl
                        have hcz22_1 : w3.cell? ⟨gb212, 1, none⟩ = some (.int .i64 a0_1) := (blk_cell BK212.out 1).trans rfl
                        have hcz22_2 : w3.cell? ⟨gb212, 2, none⟩ = some (.int .i64 a0_2) := (blk_cell BK212.out 2).trans rfl
                        have hcz22_3 : w3.cell? ⟨gb212, 3, none⟩ = some (.int .i64 a0_3) := (blk_cell BK212.out 3).trans rfl
                        have hcz22_4 : w3.cell? ⟨gb212, 4, none⟩ = some (.int .i64 a0_4) := (blk_cell BK212.out 4).trans rfl
                        have hfz22_0 := blk_frozen BK212.out 0
                        have hfz22_1 := blk_frozen BK212.out 1
                        have hfz22_2 := blk_frozen BK212.out 2
                        have hfz22_3 := blk_frozen BK212.out 3
                        have hfz22_4 := blk_frozen BK212.out 4
                        go_wp2
                        go_meet
                        case rel => exact ⟨_, (true), (by first | rfl | (simp; done) | (simp [*]; done)), H', ⟨by first | omega | exact Nat.le_refl _⟩, ⟨by (with_reducible repeat (first | refine blk_drewN ?_ _ | refine blk_drew ?_ | refine blk_alloc ?_ _)); exact BK212.out⟩, ⟨by repeat (first | (with_reducible first | exact HB.out | apply below_alloc | apply pw_below_drewN | apply below_drew1 | refine below_set ?_ GE212.out) | exact HB.out)⟩⟩
                      · rw [if_neg c21] at H
                        have c21b0 : decide (6 ≤ a0_4) = false := decide_eq_false c21
                        clear c21
                        by_cases c23 : a0_2 = 0
                        · rw [if_pos c23] at H
                          have c23b0 : (a0_2 == 0) = true := beq_iff_eq.mpr c23
                          have c23b1 : (a0_2 != 0) = false := bne_eq_false_iff_eq.mpr c23
                          clear c23
                          have H' := Aside0.mk H
                          clear H
                          have hcz24_0 : w3.cell? ⟨gb212, 0, none⟩ = some (.slice A0_0 l0_0.length c0_0) := (blk_cell BK212.out 0).trans rfl
                          have hcz24_1 : w3.cell? ⟨gb212, 1, none⟩ = some (.int .i64 a0_1) := (blk_cell BK212.out 1).trans rfl
                          have hcz24_2 : w3.cell? ⟨gb212, 2, none⟩ = some (.int .i64 a0_2) := (blk_cell BK212.out 2).trans rfl
                          have hcz24_3 : w3.cell? ⟨gb212, 3, none⟩ = some (.int .i64 a0_3) := (blk_cell BK212.out 3).trans rfl
                          have hcz24_4 : w3.cell? ⟨gb212, 4, none⟩ = some (.int .i64 a0_4) := (blk_cell BK212.out 4).trans rfl
                          have hfz24_0 := blk_frozen BK212.out 0
                          have hfz24_1 := blk_frozen BK212.out 1
                          have hfz24_2 := blk_frozen BK212.out 2
                          have hfz24_3 := blk_frozen BK212.out 3
                          have hfz24_4 := blk_frozen BK212.out 4
                          go_wp2
                          go_meet
                          case rel => exact ⟨_, ((a0_4 != 0)), (by first | rfl | (simp; done) | (simp [*]; done)), H', ⟨by first | omega | exact Nat.le_refl _⟩, ⟨by (with_reducible repeat (first | refine blk_drewN ?_ _ | refine blk_drew ?_ | refine blk_alloc ?_ _)); exact BK212.out⟩, ⟨by repeat (first | (with_reducible first | exact HB.out | apply below_alloc | apply pw_below_drewN | apply below_drew1 | refine below_set ?_ GE212.out) | exact HB.out)⟩⟩
                        · rw [if_neg c23] at H
                          have c23b0 : (a0_2 == 0) = false := beq_eq_false_iff_ne.mpr c23
                          have c23b1 : (a0_2 != 0) = true := bne_iff_ne.mpr c23
                          have H' := Aside0.mk H
                          clear H
                          have hcz25_0 : w3.cell? ⟨gb212, 0, none⟩ = some (.slice A0_0 l0_0.length c0_0) := (blk_cell BK212.out 0).trans rfl
                          have hcz25_1 : w3.cell? ⟨gb212, 1, none⟩ = some (.int .i64 a0_1) := (blk_cell BK212.out 1).trans rfl
                          have hcz25_2 : w3.cell? ⟨gb212, 2, none⟩ = some (.int .i64 a0_2) := (blk_cell BK212.out 2).trans rfl
                          have hcz25_3 : w3.cell? ⟨gb212, 3, none⟩ = some (.int .i64 a0_3) := (blk_cell BK212.out 3).trans rfl
                          have hcz25_4 : w3.cell? ⟨gb212, 4, none⟩ = some (.int .i64 a0_4) := (blk_cell BK212.out 4).trans rfl
                          have hfz25_0 := blk_frozen BK212.out 0
                          have hfz25_1 := blk_frozen BK212.out 1
                          have hfz25_2 := blk_frozen BK212.out 2
                          have hfz25_3 := blk_frozen BK212.out 3
                          have hfz25_4 := blk_frozen BK212.out 4
                          go_wp2
                          go_meet
                          case rel => exact ⟨_, (false), (by first | rfl | (simp; done) | (simp [*]; done)), H', ⟨by first | omega | exact Nat.le_refl _⟩, ⟨by (with_reducible repeat (first | refine blk_drewN ?_ _ | refine blk_drew ?_ | refine blk_alloc ?_ _)); exact BK212.out⟩, ⟨by repeat (first | (with_reducible first | exact HB.out | apply below_alloc | apply pw_below_drewN | apply below_drew1 | refine below_set ?_ GE212.out) | exact HB.out)⟩⟩
  case rest =>
    clear HC2
    try clear c1
    try clear c2
    try clear p2
    try clear c5
    try clear c5b0
    try clear c5b1
    try clear c6
    try clear c6b0
    try clear c6b1
    try clear c7
    try clear c7b0
    try clear c9
    try clear c9b0
    try clear c11
    try clear c11b0
    try clear c13
    try clear c13b0
    try clear c15
    try clear c15b0
    try clear c16
    try clear c17
    try clear c17b0
    try clear c19
    try clear c19b0
    try clear c21
    try clear c21b0
    try clear c23
    try clear c23b0
    try clear c23b1
    try clear hcz10_0
    try clear hcz10_1
    try clear hcz10_2
    try clear hcz10_3
    try clear hcz10_4
    try clear hcz12_0
    try clear hcz12_1
    try clear hcz12_2
    try clear hcz12_3
    try clear hcz12_4
    try clear hcz14_0
    try clear hcz14_1
    try clear hcz14_2
    try clear hcz14_3
    try clear hcz14_4
    try clear hcz16_0
    try clear hcz16_1
    try clear hcz16_2
    try clear hcz16_3
    try clear hcz16_4
    try clear hcz18_0
    try clear hcz18_1
    try clear hcz18_2
    try clear hcz18_3
    try clear hcz18_4
    try clear hcz20_0
    try clear hcz20_1
    try clear hcz20_2
    try clear hcz20_3
    try clear hcz20_4
    try clear hcz22_0
    try clear hcz22_1
    try clear hcz22_2
    try clear hcz22_3
    try clear hcz22_4
    try clear hcz24_0
    try clear hcz24_1
    try clear hcz24_2
    try clear hcz24_3
    try clear hcz24_4
    try clear hcz25_0
    try clear hcz25_1
    try clear hcz25_2
    try clear hcz25_3
    try clear hcz25_4
    try clear hcz4_0
    try clear hcz4_1
    try clear hcz4_2
    try clear hcz4_3
    try clear hcz4_4
    try clear hcz8_0
    try clear hcz8_1
    try clear hcz8_2
    try clear hcz8_3
    try clear hcz8_4
    try clear hfz10_0
    try clear hfz10_1
    try clear hfz10_2
    try clear hfz10_3
    try clear hfz10_4
    try clear hfz12_0
    try clear hfz12_1
    try clear hfz12_2
    try clear hfz12_3
    try clear hfz12_4
    try clear hfz14_0
    try clear hfz14_1
    try clear hfz14_2
    try clear hfz14_3
    try clear hfz14_4
    try clear hfz16_0
    try clear hfz16_1
    try clear hfz16_2
    try clear hfz16_3
    try clear hfz16_4
    try clear hfz18_0
    try clear hfz18_1
    try clear hfz18_2
    try clear hfz18_3
    try clear hfz18_4
    try clear hfz20_0
    try clear hfz20_1
    try clear hfz20_2
    try clear hfz20_3
    try clear hfz20_4
    try clear hfz22_0
    try clear hfz22_1
    try clear hfz22_2
    try clear hfz22_3
    try clear hfz22_4
    try clear hfz24_0
    try clear hfz24_1
    try clear hfz24_2
    try clear hfz24_3
    try clear hfz24_4
    try clear hfz25_0
    try clear hfz25_1
    try clear hfz25_2
    try clear hfz25_3
    try clear hfz25_4
    try clear hfz4_0
    try clear hfz4_1
    try clear hfz4_2
    try clear hfz4_3
    try clear hfz4_4
    try clear hfz8_0
    try clear hfz8_1
    try clear hfz8_2
    try clear hfz8_3
    try clear hfz8_4
    obtain ⟨kq, x65_1, rfl, HA, HJ1, BK212, HB⟩ := hcut
    cases kq with
    | zero => exact absurd HA.out (by simp [towncrierref09_May.j0])
    | succ kj1 =>
      have H := HA.out
      clear HA
      simp only [towncrierref09_May.j0] at H
      by_cases c26 : x65_1 = true
      · subst c26
        have H1 : (some false) = some r := by rw [if_pos rfl] at H; exact H
        clear H
        have H := H1
        clear H1
        obtain rfl := Option.some.inj H
        go_wp2
        go_ret
        exact ⟨by first | rfl | (simp [errW_none, errW_some] <;> rfl) | (simp [*, errW_none, errW_some] <;> rfl), by repeat (first | (with_reducible first | exact HB.out | apply below_alloc | apply pw_below_drewN | apply below_drew1 | refine below_set ?_ GE212.out) | exact HB.out)⟩
      · replace c26 := Bool.eq_false_iff.mpr c26
        subst c26
        have H1 : (towncrierref09_May.l0 kj1 (l0_0.length : Int) 0 l0_0 a0_1 a0_2 a0_3 a0_4) = some r := by rw [if_neg (show ¬ (false = true) by decide)] at H; exact H
        clear H
        have H := H1
        clear H1
        have H' := Aside0.mk H
        clear H
        go_wp2
        go_loopg [4] kj1 (fun kq v4 w' => ∃ (x4_2 : Int), v4 = .int .i64 x4_2 ∧ Aside0 (towncrierref09_May.l0 kq (l0_0.length : Int) x4_2 l0_0 a0_1 a0_2 a0_3 a0_4 = some r) ∧ Aside0 (kq ≤ kj1) ∧ Aside0 (w'.heap[gb212]? = some (.cells #[(.slice A0_0 l0_0.length c0_0), .int .i64 a0_1, .int .i64 a0_2, .int .i64 a0_3, .int .i64 a0_4] 24 (0, 0))) ∧ Aside0 (Below w.heap.size w w'))
        case atStart => exact ⟨(0), (by first | rfl | (simp; done) | (simp [*]; done)), H', ⟨Nat.le_refl _⟩, ⟨by (with_reducible repeat (first | refine blk_drewN ?_ _ | refine blk_drew ?_ | refine blk_alloc ?_ _)); exact BK212.out⟩, ⟨by repeat (first | (with_reducible first | exact HB.out | apply below_alloc | apply pw_below_drewN | apply below_drew1 | refine below_set ?_ GE212.out) | exact HB.out)⟩⟩
        case round =>
          clear H'
          try clear c1
          try clear c2
          try clear p2
          try clear c5
          try clear c5b0
          try clear c5b1
          try clear c6
          try clear c6b0
          try clear c6b1
          try clear c7
          try clear c7b0
          try clear c9
          try clear c9b0
          try clear c11
          try clear c11b0
          try clear c13
          try clear c13b0
          try clear c15
          try clear c15b0
          try clear c16
          try clear c17
          try clear c17b0
          try clear c19
          try clear c19b0
          try clear c21
          try clear c21b0
          try clear c23
          try clear c23b0
          try clear c23b1
          try clear c26
          try clear hcz10_0
          try clear hcz10_1
          try clear hcz10_2
          try clear hcz10_3
          try clear hcz10_4
          try clear hcz12_0
          try clear hcz12_1
          try clear hcz12_2
          try clear hcz12_3
          try clear hcz12_4
          try clear hcz14_0
          try clear hcz14_1
          try clear hcz14_2
          try clear hcz14_3
          try clear hcz14_4
          try clear hcz16_0
          try clear hcz16_1
          try clear hcz16_2
          try clear hcz16_3
          try clear hcz16_4
          try clear hcz18_0
          try clear hcz18_1
          try clear hcz18_2
          try clear hcz18_3
          try clear hcz18_4
          try clear hcz20_0
          try clear hcz20_1
          try clear hcz20_2
          try clear hcz20_3
          try clear hcz20_4
          try clear hcz22_0
          try clear hcz22_1
          try clear hcz22_2
          try clear hcz22_3
          try clear hcz22_4
          try clear hcz24_0
          try clear hcz24_1
          try clear hcz24_2
          try clear hcz24_3
          try clear hcz24_4
          try clear hcz25_0
          try clear hcz25_1
          try clear hcz25_2
          try clear hcz25_3
          try clear hcz25_4
          try clear hcz4_0
          try clear hcz4_1
          try clear hcz4_2
          try clear hcz4_3
          try clear hcz4_4
          try clear hcz8_0
          try clear hcz8_1
          try clear hcz8_2
          try clear hcz8_3
          try clear hcz8_4
          try clear hfz10_0
          try clear hfz10_1
          try clear hfz10_2
          try clear hfz10_3
          try clear hfz10_4
          try clear hfz12_0
          try clear hfz12_1
          try clear hfz12_2
          try clear hfz12_3
          try clear hfz12_4
          try clear hfz14_0
          try clear hfz14_1
          try clear hfz14_2
          try clear hfz14_3
          try clear hfz14_4
          try clear hfz16_0
          try clear hfz16_1
          try clear hfz16_2
          try clear hfz16_3
          try clear hfz16_4
          try clear hfz18_0
          try clear hfz18_1
          try clear hfz18_2
          try clear hfz18_3
          try clear hfz18_4
          try clear hfz20_0
          try clear hfz20_1
          try clear hfz20_2
          try clear hfz20_3
          try clear hfz20_4
          try clear hfz22_0
          try clear hfz22_1
          try clear hfz22_2
          try clear hfz22_3
          try clear hfz22_4
          try clear hfz24_0
          try clear hfz24_1
          try clear hfz24_2
          try clear hfz24_3
          try clear hfz24_4
          try clear hfz25_0
          try clear hfz25_1
          try clear hfz25_2
          try clear hfz25_3
          try clear hfz25_4
          try clear hfz4_0
          try clear hfz4_1
          try clear hfz4_2
          try clear hfz4_3
          try clear hfz4_4
          try clear hfz8_0
          try clear hfz8_1
          try clear hfz8_2
          try clear hfz8_3
          try clear hfz8_4
          try clear p2
          obtain ⟨x4_2, rfl, HA, HK2, BK212, HB⟩ := hrel
          cases gk with
          | zero => exact absurd HA.out (by simp [towncrierref09_May.l0])
          | succ k2 =>
            have H := HA.out
            clear HA
            simp only [towncrierref09_May.l0] at H
            by_cases c27 : x4_2 < (l0_0.length : Int)
            · rw [if_pos c27] at H
              have c27b0 : decide (x4_2 < (l0_0.length : Int)) = true := decide_eq_true c27
              clear c27
              by_cases c28 : 0 ≤ x4_2
              · rw [if_pos c28] at H
                have c28b0 : decide (0 ≤ x4_2) = true := decide_eq_true c28
                clear c28
                by_cases c29 : x4_2 < (l0_0.length : Int)
                · rw [if_pos c29] at H
                  have c29b0 : decide (x4_2 < (l0_0.length : Int)) = true := decide_eq_true c29
                  clear c29
                  replace H := Option.bind_eq_some_iff.mp H
                  obtain ⟨t214, A300, H⟩ := H
                  replace H : (if t214 = true then (towncrierref09_May.l0 k2 (l0_0.length : Int) (wrap64 (x4_2 + 1)) l0_0 a0_1 a0_2 a0_3 a0_4) else (some false)) = some r := H
                  have A30 := Aside0.mk A300
                  clear A300
                  by_cases c31 : t214 = true
                  · subst c31
                    have H1 : (towncrierref09_May.l0 k2 (l0_0.length : Int) (wrap64 (x4_2 + 1)) l0_0 a0_1 a0_2 a0_3 a0_4) = some r := by rw [if_pos rfl] at H; exact H
                    clear H
                    have H := H1
                    clear H1
                    have H' := Aside0.mk H
                    clear H
                    have hcz32_0 : wr.cell? ⟨gb212, 0, none⟩ = some (.slice A0_0 l0_0.length c0_0) := (blk_cell BK212.out 0).trans rfl
                    have hcz32_1 : wr.cell? ⟨gb212, 1, none⟩ = some (.int .i64 a0_1) := (blk_cell BK212.out 1).trans rfl
                    have hcz32_2 : wr.cell? ⟨gb212, 2, none⟩ = some (.int .i64 a0_2) := (blk_cell BK212.out 2).trans rfl
                    have hcz32_3 : wr.cell? ⟨gb212, 3, none⟩ = some (.int .i64 a0_3) := (blk_cell BK212.out 3).trans rfl
                    have hcz32_4 : wr.cell? ⟨gb212, 4, none⟩ = some (.int .i64 a0_4) := (blk_cell BK212.out 4).trans rfl
                    have hfz32_0 := blk_frozen BK212.out 0
                    have hfz32_1 := blk_frozen BK212.out 1
                    have hfz32_2 := blk_frozen BK212.out 2
                    have hfz32_3 := blk_frozen BK212.out 3
                    have hfz32_4 := blk_frozen BK212.out 4
                    have p213 : 0 ≤ (x4_2 : Int) := of_decide_eq_true (by first | (with_reducible assumption) | assumption)
                    have q213 : x4_2 < (l0_0.length : Int) := of_decide_eq_true (by first | (with_reducible assumption) | assumption)
                    obtain ⟨ad213, A213_1, c213_1, A213_6, c213_6, e213, hx213_0, hx213_1, hx213_2, hx213_3, hx213_4, hx213_5, hx213_6, hl213_1, hi213_1, hl213_6, hi213_6⟩ := at_TStep HR0_0.out x4_2 p213 q213
                    cases e213
                    replace hx213_0 := (HB.out.cell (World.block_lt_of_cell? w _ hx213_0)).trans hx213_0
                    replace hx213_1 := (HB.out.cell (World.block_lt_of_cell? w _ hx213_1)).trans hx213_1
                    replace hx213_2 := (HB.out.cell (World.block_lt_of_cell? w _ hx213_2)).trans hx213_2
                    replace hx213_3 := (HB.out.cell (World.block_lt_of_cell? w _ hx213_3)).trans hx213_3
                    replace hx213_4 := (HB.out.cell (World.block_lt_of_cell? w _ hx213_4)).trans hx213_4
                    replace hx213_5 := (HB.out.cell (World.block_lt_of_cell? w _ hx213_5)).trans hx213_5
                    replace hx213_6 := (HB.out.cell (World.block_lt_of_cell? w _ hx213_6)).trans hx213_6
                    have HR213_1 := Aside0.mk hi213_1
                    have HC213_1 := Aside0.mk hl213_1
                    clear hi213_1 hl213_1
                    have HR213_6 := Aside0.mk hi213_6
                    have HC213_6 := Aside0.mk hl213_6
                    clear hi213_6 hl213_6
                    replace p213 := eq_true p213
                    replace q213 := eq_true q213
                    go_wp2_with (first | ((with_reducible refine gate_callee (f := 32) rfl ?_); refine goesL_ (some 82) rfl rfl Try.func32 (by kernel_rfl) rfl #[.agg #[.string ((rd_TStep l0_0 x4_2).f0), .slice A213_1 ((rd_TStep l0_0 x4_2).f1).length c213_1, .int .i64 ((rd_TStep l0_0 x4_2).f2), .int .i64 ((rd_TStep l0_0 x4_2).f3), .bool ((rd_TStep l0_0 x4_2).f4), .string ((rd_TStep l0_0 x4_2).f5), .slice A213_6 ((rd_TStep l0_0 x4_2).f6).length c213_6], .bool (x4_2 == 0), .bool (x4_2 == (wrap64 ((l0_0.length : Int) - 1)))] rfl (by (try simp only [List.map_toArray, List.map_cons, List.map_nil]); first | done | rfl | (simp only [List.length_drop, List.length_take]; rfl)) ?_; (with_reducible refine (towncrierref09_step.calls k2 ((rd_TStep l0_0 x4_2).f0) _ _ ((rd_TStep l0_0 x4_2).f1) ((rd_TStep l0_0 x4_2).f2) ((rd_TStep l0_0 x4_2).f3) ((rd_TStep l0_0 x4_2).f4) ((rd_TStep l0_0 x4_2).f5) _ _ ((rd_TStep l0_0 x4_2).f6) (x4_2 == 0) (x4_2 == (wrap64 ((l0_0.length : Int) - 1))) true _ ?side1 ?side2 ?side3 ?side4 A30.out).mono ?_); (case side1 => repeat (first | exact (Kd.C_below HR213_1.out HB.out) | (with_reducible refine Kd.C_alloc ?_ _) | (with_reducible refine Kd.C_drewN ?_ _) | (with_reducible refine Kd.C_drew ?_))); (case side2 => exact HC213_1.out); (case side3 => repeat (first | exact (Kd.C_below HR213_6.out HB.out) | (with_reducible refine Kd.C_alloc ?_ _) | (with_reducible refine Kd.C_drewN ?_ _) | (with_reducible refine Kd.C_drew ?_))); (case side4 => exact HC213_6.out); rintro e w33 ⟨rfl, hb⟩; refine ⟨_, rfl, ?_⟩; have n0_ := Aside0.mk (blk_below (g := gb212) (o := .cells #[.slice (some ad213) l0_0.length c0_0, .int .i64 a0_1, .int .i64 a0_2, .int .i64 a0_3, .int .i64 a0_4] 24 (0, 0)) (by (with_reducible repeat (first | refine blk_drewN ?_ _ | refine blk_drew ?_ | refine blk_alloc ?_ _)); exact BK212.out) hb); have n1_ := Aside0.mk (below_step (by repeat (first | (with_reducible first | exact HB.out | apply below_alloc | apply pw_below_drewN | apply below_drew1 | refine below_set ?_ GE212.out) | exact HB.out)) hb); clear BK212; clear HB; have BK212 := n0_; have HB := n1_; clear n0_ n1_; (try clear hb); (try clear hb2); (try clear hk); (try clear hi)))
                    go_roundg k2
                    case measure => have := HJ1.out; have := HK2.out; omega
                    case rel => exact ⟨(wrap64 (x4_2 + 1)), (by first | rfl | (simp; done) | (simp [*]; done)), H', ⟨by have := HJ1.out; have := HK2.out; omega⟩, ⟨by (with_reducible repeat (first | refine blk_drewN ?_ _ | refine blk_drew ?_ | refine blk_alloc ?_ _)); exact BK212.out⟩, ⟨by repeat (first | (with_reducible first | exact HB.out | apply below_alloc | apply pw_below_drewN | apply below_drew1 | refine below_set ?_ GE212.out) | exact HB.out)⟩⟩
                  · replace c31 := Bool.eq_false_iff.mpr c31
                    subst c31
                    have H1 : (some false) = some r := by rw [if_neg (show ¬ (false = true) by decide)] at H; exact H
                    clear H
                    have H := H1
                    clear H1
                    obtain rfl := Option.some.inj H
                    have hcz34_0 : wr.cell? ⟨gb212, 0, none⟩ = some (.slice A0_0 l0_0.length c0_0) := (blk_cell BK212.out 0).trans rfl
                    have hcz34_1 : wr.cell? ⟨gb212, 1, none⟩ = some (.int .i64 a0_1) := (blk_cell BK212.out 1).trans rfl
                    have hcz34_2 : wr.cell? ⟨gb212, 2, none⟩ = some (.int .i64 a0_2) := (blk_cell BK212.out 2).trans rfl
                    have hcz34_3 : wr.cell? ⟨gb212, 3, none⟩ = some (.int .i64 a0_3) := (blk_cell BK212.out 3).trans rfl
                    have hcz34_4 : wr.cell? ⟨gb212, 4, none⟩ = some (.int .i64 a0_4) := (blk_cell BK212.out 4).trans rfl
                    have hfz34_0 := blk_frozen BK212.out 0
                    have hfz34_1 := blk_frozen BK212.out 1
                    have hfz34_2 := blk_frozen BK212.out 2
                    have hfz34_3 := blk_frozen BK212.out 3
                    have hfz34_4 := blk_frozen BK212.out 4
                    have p213 : 0 ≤ (x4_2 : Int) := of_decide_eq_true (by first | (with_reducible assumption) | assumption)
                    have q213 : x4_2 < (l0_0.length : Int) := of_decide_eq_true (by first | (with_reducible assumption) | assumption)
                    obtain ⟨ad213, A213_1, c213_1, A213_6, c213_6, e213, hx213_0, hx213_1, hx213_2, hx213_3, hx213_4, hx213_5, hx213_6, hl213_1, hi213_1, hl213_6, hi213_6⟩ := at_TStep HR0_0.out x4_2 p213 q213
                    cases e213
                    replace hx213_0 := (HB.out.cell (World.block_lt_of_cell? w _ hx213_0)).trans hx213_0
                    replace hx213_1 := (HB.out.cell (World.block_lt_of_cell? w _ hx213_1)).trans hx213_1
                    replace hx213_2 := (HB.out.cell (World.block_lt_of_cell? w _ hx213_2)).trans hx213_2
                    replace hx213_3 := (HB.out.cell (World.block_lt_of_cell? w _ hx213_3)).trans hx213_3
                    replace hx213_4 := (HB.out.cell (World.block_lt_of_cell? w _ hx213_4)).trans hx213_4
                    replace hx213_5 := (HB.out.cell (World.block_lt_of_cell? w _ hx213_5)).trans hx213_5
                    replace hx213_6 := (HB.out.cell (World.block_lt_of_cell? w _ hx213_6)).trans hx213_6
                    have HR213_1 := Aside0.mk hi213_1
                    have HC213_1 := Aside0.mk hl213_1
                    clear hi213_1 hl213_1
                    have HR213_6 := Aside0.mk hi213_6
                    have HC213_6 := Aside0.mk hl213_6
                    clear hi213_6 hl213_6
                    replace p213 := eq_true p213
                    replace q213 := eq_true q213
                    go_wp2_with (first | ((with_reducible refine gate_callee (f := 32) rfl ?_); refine goesL_ (some 82) rfl rfl Try.func32 (by kernel_rfl) rfl #[.agg #[.string ((rd_TStep l0_0 x4_2).f0), .slice A213_1 ((rd_TStep l0_0 x4_2).f1).length c213_1, .int .i64 ((rd_TStep l0_0 x4_2).f2), .int .i64 ((rd_TStep l0_0 x4_2).f3), .bool ((rd_TStep l0_0 x4_2).f4), .string ((rd_TStep l0_0 x4_2).f5), .slice A213_6 ((rd_TStep l0_0 x4_2).f6).length c213_6], .bool (x4_2 == 0), .bool (x4_2 == (wrap64 ((l0_0.length : Int) - 1)))] rfl (by (try simp only [List.map_toArray, List.map_cons, List.map_nil]); first | done | rfl | (simp only [List.length_drop, List.length_take]; rfl)) ?_; (with_reducible refine (towncrierref09_step.calls k2 ((rd_TStep l0_0 x4_2).f0) _ _ ((rd_TStep l0_0 x4_2).f1) ((rd_TStep l0_0 x4_2).f2) ((rd_TStep l0_0 x4_2).f3) ((rd_TStep l0_0 x4_2).f4) ((rd_TStep l0_0 x4_2).f5) _ _ ((rd_TStep l0_0 x4_2).f6) (x4_2 == 0) (x4_2 == (wrap64 ((l0_0.length : Int) - 1))) false _ ?side1 ?side2 ?side3 ?side4 A30.out).mono ?_); (case side1 => repeat (first | exact (Kd.C_below HR213_1.out HB.out) | (with_reducible refine Kd.C_alloc ?_ _) | (with_reducible refine Kd.C_drewN ?_ _) | (with_reducible refine Kd.C_drew ?_))); (case side2 => exact HC213_1.out); (case side3 => repeat (first | exact (Kd.C_below HR213_6.out HB.out) | (with_reducible refine Kd.C_alloc ?_ _) | (with_reducible refine Kd.C_drewN ?_ _) | (with_reducible refine Kd.C_drew ?_))); (case side4 => exact HC213_6.out); rintro e w35 ⟨rfl, hb⟩; refine ⟨_, rfl, ?_⟩; have n0_ := Aside0.mk (blk_below (g := gb212) (o := .cells #[.slice (some ad213) l0_0.length c0_0, .int .i64 a0_1, .int .i64 a0_2, .int .i64 a0_3, .int .i64 a0_4] 24 (0, 0)) (by (with_reducible repeat (first | refine blk_drewN ?_ _ | refine blk_drew ?_ | refine blk_alloc ?_ _)); exact BK212.out) hb); have n1_ := Aside0.mk (below_step (by repeat (first | (with_reducible first | exact HB.out | apply below_alloc | apply pw_below_drewN | apply below_drew1 | refine below_set ?_ GE212.out) | exact HB.out)) hb); clear BK212; clear HB; have BK212 := n0_; have HB := n1_; clear n0_ n1_; (try clear hb); (try clear hb2); (try clear hk); (try clear hi)))
                    go_ret
                    exact ⟨by first | rfl | (simp [errW_none, errW_some] <;> rfl) | (simp [*, errW_none, errW_some] <;> rfl), by repeat (first | (with_reducible first | exact HB.out | apply below_alloc | apply pw_below_drewN | apply below_drew1 | refine below_set ?_ GE212.out) | exact HB.out)⟩
                · rw [if_neg c29] at H
                  exact absurd H (by simp)
              · rw [if_neg c28] at H
                exact absurd H (by simp)
            · rw [if_neg c27] at H
              have c27b0 : decide (x4_2 < (l0_0.length : Int)) = false := decide_eq_false c27
              clear c27
              obtain rfl := Option.some.inj H
              go_wp2
              go_ret
              exact ⟨by first | rfl | (simp [errW_none, errW_some] <;> rfl) | (simp [*, errW_none, errW_some] <;> rfl), by repeat (first | (with_reducible first | exact HB.out | apply below_alloc | apply pw_below_drewN | apply below_drew1 | refine below_set ?_ GE212.out) | exact HB.out)⟩
end Go.Proofs.Ytooemobolfoefaa.P

namespace Go.Proofs.Ytooemobolfoefaa.P
open Go.RowKit Go.Proofs.YtooemobolfoefaaW.PrintWords Go.Proofs.YtooemobolfoefaaW.PrintLast Go.Proofs.YtooemobolfoefaaW.PrintMore
set_option linter.unusedVariables false
def sizesSt (x : SStep) : Prop := x.f0.size ≤ 140737488351232 ∧ x.f5.size ≤ 140737488351232
theorem refStep9_is (x : SStep) (first last : Bool) (h : sizesSt x) {k : Nat} (hk : 140737488351240 < k) : towncrierref09_step.f k x.f0 x.f1 x.f2 x.f3 x.f4 x.f5 x.f6 first last = some (stepB x first last) := by
  obtain ⟨k, rfl⟩ := rounds_of (show 0 < k by omega)
  have n0 := refName_is x.f0 (k := k + 1) h.1 (by decide) (by omega)
  have n5 := refName_is x.f5 (k := k) h.2 (by decide) (by omega)
  unfold towncrierref09_step.f stepB askedB
  rw [n0]
  simp only [towncrierref09_step.j0, n5, towncrierref08_May.f, Option.bind_some]
  generalize nameB x.f0 = a
  generalize mayO x.f1 = b
  generalize nameB x.f5 = c
  generalize mayO x.f6 = d
  have hz : ((x.f6.length : Int) == 0) = decide (x.f6.length = 0) := by rw [Bool.eq_iff_iff, beq_iff_eq, decide_eq_true_eq]; omega
  rw [hz]
  generalize decide (x.f6.length = 0) = z
  unfold inB
  have hi1 : (decide ((1 : Int) ≤ x.f2) && decide (x.f2 ≤ x.f3)) = (!decide (x.f2 < 1) && !decide (x.f3 < x.f2)) := by
    rw [Bool.eq_iff_iff]; simp only [Bool.and_eq_true, decide_eq_true_eq, Bool.not_eq_true', decide_eq_false_iff_not]; omega
  have hi4 : decide (x.f3 ≤ 4) = !decide (x.f3 > 4) := by
    rw [Bool.eq_iff_iff]; simp only [decide_eq_true_eq, Bool.not_eq_true', decide_eq_false_iff_not]; omega
  rw [hi1, hi4, show (x.f2 != x.f3) = !(x.f2 == x.f3) from rfl]
  generalize (x.f2 == x.f3) = y
  by_cases c1 : x.f2 < 1 <;> by_cases c2 : x.f3 < x.f2 <;> by_cases c3 : x.f3 > 4 <;> by_cases c5 : x.f5.toList = []
  all_goals
    cases x.f4 <;> cases first <;> cases last <;> cases a <;> cases b <;> cases y <;> simp [c1, c2, c3, c5] <;> cases c <;> cases d <;> rfl
theorem tailB_iff {n : Int} {q : SQuery} : tailB n q = true ↔ 0 ≤ q.f2 ∧ q.f2 ≤ 3 ∧ 0 ≤ q.f3 ∧ q.f3 ≤ n - 1 ∧ 0 ≤ q.f4 ∧ q.f4 ≤ 5 ∧ (q.f2 ≠ 0 ∨ q.f4 = 0) ∧ 1 ≤ n ∧ n ≤ 4 ∧ 0 ≤ q.f1 ∧ q.f1 ≤ 1125899906842624 := by
  unfold tailB
  simp only [Bool.and_eq_true, inB_iff, Bool.or_eq_true, bne_iff_ne, beq_iff_eq, and_assoc]
theorem refMay9_loop (q : SQuery) (hq : ∀ x ∈ q.f0, sizesSt x) (hn : q.f0.length ≤ 4) : ∀ (d i k : Nat), i + d = q.f0.length → d + 140737488351250 < k →
    towncrierref09_May.l0 k q.f0.length i q.f0 q.f1 q.f2 q.f3 q.f4 = some ((List.range d).all fun j => stepB (q.f0.getD (i + j) zStep) (i + j == 0) (i + j + 1 == q.f0.length)) := by
  intro d
  induction d with
  | zero =>
    intro i k h hk
    obtain ⟨k, rfl⟩ := rounds_of (show 0 < k by omega)
    simp only [towncrierref09_May.l0]
    rw [if_neg (by omega)]
    rfl
  | succ d ih =>
    intro i k h hk
    obtain ⟨k, rfl⟩ := rounds_of (show 0 < k by omega)
    have hi : i < q.f0.length := by omega
    simp only [towncrierref09_May.l0]
    rw [if_pos (by omega), if_pos (by omega), if_pos (by omega)]
    rw [show rd_TStep q.f0 (i : Int) = q.f0.getD i zStep from rfl]
    have hw : wrap64 ((q.f0.length : Int) - 1) = (q.f0.length : Int) - 1 := wrap64_in (by omega)
    have hb0 : ((i : Int) == 0) = (i == 0) := by rw [Bool.eq_iff_iff, beq_iff_eq, beq_iff_eq]; omega
    have hb1 : ((i : Int) == (q.f0.length : Int) - 1) = (i + 1 == q.f0.length) := by rw [Bool.eq_iff_iff, beq_iff_eq, beq_iff_eq]; omega
    rw [hw, wrap_succ (by omega), hb0, hb1, refStep9_is _ _ _ (hq _ (getD_in zStep hi)) (by omega), Option.bind_some]
    have ih := ih (i + 1) k (by omega) (by omega)
    rw [List.range_succ_eq_map, List.all_cons, List.all_map, Nat.add_zero]
    cases hs : stepB (q.f0.getD i zStep) (i == 0) (i + 1 == q.f0.length) with
    | false => rfl
    | true =>
      rw [if_pos rfl, ih, Bool.true_and]
      congr 2
      funext j
      rw [show i + 1 + j = i + (j + 1) from by omega]
      rfl
theorem refMay9_is (q : SQuery) (hq : ∀ x ∈ q.f0, sizesSt x) : towncrierref09_May.f 140737488351300 q.f0 q.f1 q.f2 q.f3 q.f4 = some (mayQ q) := by
  by_cases ht : tailB q.f0.length q = true
  · have hl := refMay9_loop q hq (by have := tailB_iff.1 ht; omega) q.f0.length 0 140737488351299 (by omega) (by have := tailB_iff.1 ht; omega)
    simp only [Nat.zero_add] at hl
    have hm : mayQ q = ((List.range q.f0.length).all fun j => stepB (q.f0.getD j zStep) (j == 0) (j + 1 == q.f0.length)) := by unfold mayQ; rw [ht, Bool.and_true]
    obtain ⟨h1, h2, h3, h4, h5, h6, h7, h8, h9, h10, h11⟩ := tailB_iff.1 ht
    unfold towncrierref09_May.f
    rw [if_neg (by omega), if_neg (by omega), if_neg (by omega), if_neg (by omega), if_neg (by omega), if_neg (by omega), if_neg (by omega), if_neg (by omega), if_neg (by omega), if_neg (by omega), hm]
    by_cases h0 : q.f2 = 0
    · rw [if_pos h0, show (q.f4 != 0) = false from by rw [bne_eq_false_iff_eq]; omega]
      rw [show (140737488351300 : Nat) = 140737488351299 + 1 from rfl]
      simp only [towncrierref09_May.j0]
      rw [if_neg (by decide)]
      exact hl
    · rw [if_neg h0]
      rw [show (140737488351300 : Nat) = 140737488351299 + 1 from rfl]
      simp only [towncrierref09_May.j0]
      rw [if_neg (by decide)]
      exact hl
  · have hm : mayQ q = false := by unfold mayQ; rw [Bool.not_eq_true] at ht; rw [ht, Bool.and_false]
    have hj : ∀ b, b = true → towncrierref09_May.j0 140737488351300 q.f0.length b q.f0 q.f1 q.f2 q.f3 q.f4 = some false := by
      rintro b rfl
      rw [show (140737488351300 : Nat) = 140737488351299 + 1 from rfl]
      simp [towncrierref09_May.j0]
    rw [hm]
    unfold towncrierref09_May.f
    by_cases a0 : (q.f0.length : Int) < 1
    · rw [if_pos a0]; exact hj _ rfl
    rw [if_neg a0]
    by_cases a1 : (q.f0.length : Int) > 4
    · rw [if_pos a1]; exact hj _ rfl
    rw [if_neg a1]
    by_cases a2 : q.f1 < 0
    · rw [if_pos a2]; exact hj _ rfl
    rw [if_neg a2]
    by_cases a3 : q.f1 > 1125899906842624
    · rw [if_pos a3]; exact hj _ rfl
    rw [if_neg a3]
    by_cases a4 : q.f2 < 0
    · rw [if_pos a4]; exact hj _ rfl
    rw [if_neg a4]
    by_cases a5 : q.f2 ≥ 4
    · rw [if_pos a5]; exact hj _ rfl
    rw [if_neg a5]
    by_cases a6 : q.f3 < 0
    · rw [if_pos a6]; exact hj _ rfl
    rw [if_neg a6]
    by_cases a7 : q.f3 ≥ (q.f0.length : Int)
    · rw [if_pos a7]; exact hj _ rfl
    rw [if_neg a7]
    by_cases a8 : q.f4 < 0
    · rw [if_pos a8]; exact hj _ rfl
    rw [if_neg a8]
    by_cases a9 : q.f4 ≥ 6
    · rw [if_pos a9]; exact hj _ rfl
    rw [if_neg a9]
    by_cases a10 : q.f2 = 0
    · rw [if_pos a10]
      apply hj
      rw [bne_iff_ne]
      intro h4
      apply ht
      rw [tailB_iff]
      omega
    · exfalso
      apply ht
      rw [tailB_iff]
      omega
theorem wfQ_sizes {x : SQuery} (h : wfQuery x) : ∀ y ∈ x.f0, sizesSt y := fun y hy => by
  obtain ⟨h1, _, _, _, _, h5, _⟩ := h.1.2 y hy
  exact ⟨h1, h5⟩
theorem refMayQ_told (q : SQuery) (A : Option Addr) (c : Nat) (w : World) (hr : Kd.C kStep w A q.f0.length q.f0) (hc : q.f0.length ≤ c) (hq : ∀ x ∈ q.f0, sizesSt x) {b : Bool} (h : mayQ q = b) : Calls Try.prog 16 #[.agg #[.slice A q.f0.length c, .int .i64 q.f1, .int .i64 q.f2, .int .i64 q.f3, .int .i64 q.f4]] w (boolPost b w) :=
  (towncrierref09_May.calls 140737488351300 A c q.f0 q.f1 q.f2 q.f3 q.f4 b w hr hc (by rw [refMay9_is q hq, h])).mono fun e w' h => by first | exact h | exact ⟨h.1, h.2.below⟩
end Go.Proofs.Ytooemobolfoefaa.P

namespace Go.Proofs.Ytooemobolfoefaa.P
open Go.RowKit Go.Proofs.YtooemobolfoefaaW.PrintWords Go.Proofs.YtooemobolfoefaaW.PrintLast Go.Proofs.YtooemobolfoefaaW.PrintMore
attribute [local go_sem] max2_int min2_int max_two min_two max_three min_three max_four min_four   -- for this text's walks alone
set_option linter.unusedVariables false
set_option linter.unusedSimpArgs false
structure WrAt (w0 : World) (B : Nat) (xs : List Int) (w : World) : Prop where
  ex : ∃ v, w.heap[B]? = some (.cells #[v] 52 (0, 0)) ∧ Own8 5 w0.heap.size w v xs
  below : Below w0.heap.size w0 w
  hB : w0.heap.size ≤ B
theorem WrAt.grow {w0 w w1 : World} {B : Nat} {xs : List Int} (h : WrAt w0 B xs w) (hb : Below w.heap.size w w1) : WrAt w0 B xs w1 := by
  obtain ⟨⟨v, h1, h2⟩, h3, h4⟩ := h
  exact ⟨⟨v, blk_below h1 hb, h2.below hb⟩, below_step h3 hb, h4⟩
theorem WrAt.lt {w0 w : World} {B : Nat} {xs : List Int} (h : WrAt w0 B xs w) : B < w.heap.size := by
  obtain ⟨⟨v, h1, _⟩, _, _⟩ := h
  exact blk_lt h1
theorem WrAt.put {w0 w : World} {B : Nat} {v0 v : Value} {xs : List Int} (hk : w.heap[B]? = some (.cells #[v0] 52 (0, 0))) (ho : Own8 5 w0.heap.size w v xs) (hb : Below w0.heap.size w0 w) (hB : w0.heap.size ≤ B) : WrAt w0 B xs (w.setCell ⟨B, 0, none⟩ v) :=
  ⟨⟨v, blk_put hk 0 v rfl, Kd.R_set ho hk (by decide) 0 v⟩, hb.setCell (p := ⟨B, 0, none⟩) hB v, hB⟩
def numsL (l : List Int) : List Int := (l.map fun n => lePut n.toNat).flatten
theorem numsL_snoc (l : List Int) (k : Nat) (h : k < l.length) : numsL (l.take (k + 1)) = numsL (l.take k) ++ lePut (l.getD k 0).toNat := by
  unfold numsL
  rw [take_snoc 0 l k h, List.map_append, List.flatten_append]
  simp
theorem numsL_len : ∀ {l : List Int}, (∀ n ∈ l, 0 ≤ n ∧ n < 9223372036854775808) → (numsL l).length ≤ 10 * l.length
  | [], _ => Nat.le_refl _
  | n :: l, h => by
    have h1 := h n (List.mem_cons_self ..)
    have ih := numsL_len (l := l) (fun y hy => h y (List.mem_cons_of_mem _ hy))
    have h2 := lePut_len (n := n.toNat) (by omega)
    unfold numsL at ih ⊢
    rw [List.map_cons, List.flatten_cons, List.length_append, List.length_cons]
    omega
def Kp (B : Nat) (w w' : World) : Prop := ∀ i cs t, i ≠ B → 5 ≠ t → w.heap[i]? = some (.cells cs t (0, 0)) → w'.heap[i]? = some (.cells cs t (0, 0))
theorem Kp.refl (B : Nat) (w : World) : Kp B w w := fun _ _ _ _ _ h => h
theorem Kp.trans {B : Nat} {a b c : World} (h : Kp B a b) (k : Kp B b c) : Kp B a c := fun i cs t hi ht hh => k i cs t hi ht (h i cs t hi ht hh)
theorem Kp.below {B : Nat} {a b c : World} (h : Kp B a b) (k : Below b.heap.size b c) : Kp B a c := fun i cs t hi ht hh => blk_below (h i cs t hi ht hh) k
theorem Kp.set {B j : Nat} {a b : World} (h : Kp B a b) (u : Value) : Kp B a (b.setCell ⟨B, j, none⟩ u) := fun i cs t hi ht hh => blk_far (h i cs t hi ht hh) (p := ⟨B, j, none⟩) hi u
theorem Kp.grown {B base : Nat} {a b c : World} {v : Value} {xs : List Int} (h : Kp B a b) (hg : b.grownBy c v.ownBlock) (ho : Own8 5 base b v xs) : Kp B a c := fun i cs t hi ht hh => blk_grown (h i cs t hi ht hh) hg (Own8.ne ho (h i cs t hi ht hh) ht)
def wrPost (w0 : World) (B : Nat) (xs : List Int) (w : World) (e : Ending) (w' : World) : Prop := e = .returned (.tuple #[]) ∧ WrAt w0 B xs w' ∧ Kp B w w'
set_option maxHeartbeats 4000000 in
set_option maxRecDepth 100000 in
theorem numbers_told (w0 : World) (B : Nat) (xs : List Int) (ns : List Int) (A : Option Addr) (c : Nat) (w : World) (h : WrAt w0 B xs w) (hr : ∀ w', Kp B w w' → Below w0.heap.size w0 w' → Kd.C (Kd.int .i64) w' A ns.length ns) (hns : ∀ n ∈ ns, 0 ≤ n ∧ n < 9223372036854775808) (hl : xs.length ≤ 100000) (hn : ns.length ≤ 1000) :
    Calls Try.prog 24 #[.pointer (some ⟨B, 0, none⟩), .slice A ns.length c] w (wrPost w0 B (xs ++ numsL ns) w) := by
  have HH := Aside0.mk h
  have HR := Aside0.mk hr
  have HNS := Aside0.mk hns
  clear h hr hns
  go_enter Try.func24, Try.ntmps24
  go_wp2_with fail
  go_loopw [5, 8] (fun _ v8 w' => ∃ k : Nat, v8 = .int .i64 k ∧ k ≤ ns.length ∧ WrAt w0 B (xs ++ numsL (ns.take k)) w' ∧ Kp B w w') (fun _ i _ => ns.length - (intOf i).toNat)
  case atStart => exact ⟨0, rfl, Nat.zero_le _, by rw [show xs ++ numsL (ns.take 0) = xs from by simp [numsL]]; exact HH.out, Kp.refl _ _⟩
  case round =>
    obtain ⟨k, rfl, hk, hwr, ho⟩ := hrel
    have HW := Aside0.mk hwr
    have HO := Aside0.mk ho
    by_cases hlt : k < ns.length
    · obtain ⟨ad, e, hx⟩ := Kd.at_int (HR.out _ ho hwr.below) (k : Int) (by omega) (by omega)
      subst e
      simp only [Int.toNat_natCast] at hx
      have hin := HNS.out _ (getD_in 0 hlt)
      have HSN := Aside0.mk (numsL_snoc ns k hlt)
      have hle := numsL_len (l := ns.take k) (fun n hn => HNS.out n (List.mem_of_mem_take hn))
      rw [List.length_take] at hle
      rw [show rd ns (k : Int) = ns.getD k 0 from rfl] at hx
      obtain ⟨a, ha⟩ := Int.eq_ofNat_of_zero_le hin.1
      obtain ⟨pre, hpre⟩ : ∃ pre, xs ++ numsL (ns.take k) = pre := ⟨_, rfl⟩
      have hpl : pre.length ≤ 110000 := by rw [← hpre, List.length_append]; omega
      have ha2 : a < 18446744073709551616 := by omega
      have HPN : Aside0 (xs ++ numsL (ns.take (k + 1)) = pre ++ lePut a) := ⟨by rw [HSN.out, ha, Int.toNat_natCast, ← List.append_assoc, hpre]⟩
      rw [hpre] at HW hwr
      rw [ha] at hx
      have hal := lePut_len (n := a) ha2
      obtain ⟨q2, hq2⟩ : ∃ q, pre ++ lePut a = q := ⟨_, rfl⟩
      have HQ2 := Aside0.mk hq2
      rw [hq2] at HPN
      have hw64 : IntKind.u64.wrap (a : Int) = (a : Int) := u64_small' ha2
      obtain ⟨⟨v, g1, g2⟩, g3, g4⟩ := hwr
      obtain ⟨k1, k2, k3, k4⟩ := know g1
      have HK := Aside0.mk g1
      have HG := Aside0.mk g2
      have HB := Aside0.mk g3
      have hk1 : k + 1 ≤ ns.length := hlt
      have hdr : ∀ m i, (wr.drewN m).cell? ⟨B, i, none⟩ = #[v][i]? := fun m i => blk_cell (blk_drewN HK.out m) i
      clear hin hle hpre ha g1 g2 g3 ho hq2
      go_wp2_with fail
      go_region_law (first
        | (go_simp; go_at_call 41; refine (le_Put.told a _ ha2).mono ?_; rintro e w1 ⟨v1, rfl, ho1, hb1⟩; obtain ⟨A1, c1, rfl, hc1, hr1⟩ := Own8.reads ho1; have HR1 := Aside0.mk hr1; have HB1 := Aside0.mk (below_step (below_drew HB.out) hb1); have HK1 := Aside0.mk (blk_below (blk_drew HK.out) hb1); have HV1 := Aside0.mk (Own8.below (show Own8 _ _ _ _ _ from Kd.R_drew HG.out) hb1); obtain ⟨j1, j2, j3, j4⟩ := know HK1.out; clear ho1 hr1)
        | (refine app8t_step (o := ⟨some 19, _, _, _, _, _⟩) (w0 := w0) w0.heap.size ?hw (.tmp 15) (.tmp 18) 52 25 5 rfl Try.underlying52 Try.underlying25 info5 v pre (lePut a) A1 (lePut a).length c1 ?hs ?hx ?HO ?HR ?HB ?hZ ?hL ?_; (case hw => rfl); (case hs => rfl); (case hx => rfl); (case hL => omega); (case HO => exact HV1.out); (case HR => exact HR1.out); (case HB => exact HB1.out); (case hZ => exact below_size HB1.out); intro v2 w2 ho2 hb2 hg2; have HKP := Aside0.mk ((((HO.out.below (below_drew (Below.refl _ _))).below hb1).grown hg2 HV1.out)); rw [HQ2.out] at ho2; obtain ⟨A2, c2, hv2⟩ := Kd.R_slice ho2; subst hv2; have HO2 := Aside0.mk ho2; have HB2 := Aside0.mk hb2; have HK2 := Aside0.mk (blk_grown HK1.out hg2 (Own8.ne HV1.out HK1.out (by decide))); obtain ⟨m1, m2, m3, m4⟩ := know HK2.out; clear ho2 hb2))
      all_goals
        have hwr2 := WrAt.put HK2.out HO2.out HB2.out g4
        have hon := Kp.set (j := 0) HKP.out (.slice A2 q2.length c2)
        go_wp2_with fail
        go_roundw
        case rel => exact ⟨k + 1, by go_num, hk1, by rw [HPN.out]; exact hwr2, hon⟩
        case measure => simp [intOf]; omega
    · obtain rfl : k = ns.length := by omega
      rw [List.take_length] at HW
      go_wp2_with fail
      go_end0
      exact ⟨rfl, HW.out, HO.out⟩
theorem C_ints {W : World} {b T : Nat} (ns : List Int) (h : W.heap[b]? = some (.cells (ns.map fun n => Value.int .i64 n).toArray T (0, 0))) (hl : ns.length ≤ 1000) : Kd.C (Kd.int .i64) W (some ⟨b, 0, none⟩) ns.length ns := by
  refine ⟨rfl, by omega, fun _ => ⟨_, rfl, fun j x hj => ?_⟩⟩
  refine ⟨[.int .i64 x], rfl, rfl, fun i u hu => ?_⟩
  have hi : i < 1 := by have := (List.getElem?_eq_some_iff.1 hu).1; simpa using this
  obtain rfl : i = 0 := by omega
  rw [show (Kd.int .i64).sz = 1 from rfl, add_plain, blk_cell h]
  rw [List.getElem?_toArray, List.getElem?_map]
  simpa [hj] using hu
end Go.Proofs.Ytooemobolfoefaa.P

namespace Go.Proofs.Ytooemobolfoefaa.P
open Go.RowKit Go.Proofs.YtooemobolfoefaaW.PrintWords Go.Proofs.YtooemobolfoefaaW.PrintLast Go.Proofs.YtooemobolfoefaaW.PrintMore
attribute [local go_sem] max2_int min2_int max_two min_two max_three min_three max_four min_four   -- for this text's walks alone
set_option linter.unusedVariables false
set_option linter.unusedSimpArgs false
set_option maxHeartbeats 1000000 in
set_option maxRecDepth 100000 in
theorem wtext_told (w0 : World) (B : Nat) (xs : List Int) (s : ByteArray) (w : World) (h : WrAt w0 B xs w) (hs : s.size ≤ 12) (hl : xs.length ≤ 90000) :
    Calls Try.prog 22 #[.pointer (some ⟨B, 0, none⟩), .string s] w (wrPost w0 B (xs ++ textL s) w) := by
  have HH := Aside0.mk h
  have hlt := h.lt
  have HBX := Aside0.mk (below_alloc (Below.refl w.heap.size w) (.cells #[.int .i64 (s.size : Int)] 3))
  have HN := Aside0.mk (blk_new w (.cells #[.int .i64 (s.size : Int)] 3))
  have hne : w.heap.size ≠ B := by omega
  have hP : numsL [(s.size : Int)] = lePut s.size := by simp [numsL]
  have hlp := lePut_short (n := s.size) (by omega)
  obtain ⟨P1, hP1⟩ : ∃ P, xs ++ lePut s.size = P := ⟨_, rfl⟩
  have hl1 : P1.length ≤ 90010 := by rw [← hP1, List.length_append]; omega
  have HP1 := Aside0.mk (show xs ++ numsL [(s.size : Int)] = P1 from by rw [hP, hP1])
  have HP2 := Aside0.mk (show xs ++ textL s = P1 ++ bytesOf s from by rw [← hP1]; unfold textL; rw [List.append_assoc])
  obtain ⟨P2, hP2⟩ : ∃ P, P1 ++ bytesOf s = P := ⟨_, rfl⟩
  have HP3 := Aside0.mk hP2
  rw [HP2.out, hP2]
  clear h hP hP1 hP2 hlp
  go_enter Try.func22, Try.ntmps22
  go_wp2_with fail
  go_at_call 24
  refine (numbers_told w0 B xs [(s.size : Int)] (some ⟨w.heap.size, 0, none⟩) 1 _ (HH.out.grow HBX.out) (fun w' hk _ => C_ints (T := 3) _ (hk _ _ _ hne (by decide) HN.out) (by show 1 ≤ 1000; decide)) (fun n hn => by rw [List.mem_singleton.1 hn]; omega) (by omega) (by show 1 ≤ 1000; decide)).mono ?_
  rintro e w1 ⟨rfl, hwr, hkp⟩
  rw [HP1.out] at hwr
  have HK1 := Aside0.mk (((Kp.refl B w).below HBX.out).trans hkp)
  obtain ⟨⟨v, g1, g2⟩, g3, g4⟩ := hwr
  have HG1 := Aside0.mk g1
  have HG2 := Aside0.mk g2
  have HG3 := Aside0.mk g3
  obtain ⟨k1, k2, k3, k4⟩ := know g1
  clear g1 g2 g3 hkp
  go_wp2_with ((with_reducible refine gate_builtin (b := .append) (xs := #[.tmp 12, .tmp 13]) rfl ?_); at_builtin; refine app8s (w0 := w0) w0.heap.size rfl _ _ 52 9 5 rfl Try.underlying52 Try.underlying9 info5 v P1 s rfl rfl HG2.out HG3.out (below_size HG3.out) (by omega) ?_; intro v2 w2 ho2 hb2 hg2; have HKP := Aside0.mk (HK1.out.grown hg2 HG2.out); rw [HP3.out] at ho2; obtain ⟨A2, c2, hv2⟩ := Kd.R_slice ho2; subst hv2; have HO2 := Aside0.mk ho2; have HB2 := Aside0.mk hb2; have HK2 := Aside0.mk (blk_grown HG1.out hg2 (Own8.ne HG2.out HG1.out (by decide))); obtain ⟨m1, m2, m3, m4⟩ := know HK2.out; clear ho2 hb2)
  go_end0
  exact ⟨rfl, WrAt.put HK2.out HO2.out HB2.out g4, Kp.set (j := 0) HKP.out (.slice A2 P2.length c2)⟩
set_option maxHeartbeats 1000000 in
set_option maxRecDepth 100000 in
theorem wops_told (w0 : World) (B : Nat) (xs : List Int) (l : List SOp) (A : Option Addr) (c : Nat) (w : World) (h : WrAt w0 B xs w) (hr : Kd.C kOp w A l.length l) (hc : l.length ≤ c) (hm : mayO l = true) (hi : ∀ x ∈ l, i64V x.f2) (hl : xs.length ≤ 90000) :
    Calls Try.prog 23 #[.pointer (some ⟨B, 0, none⟩), .slice A l.length c] w (wrPost w0 B (xs ++ bytesO l) w) := by
  have HH := Aside0.mk h
  have HR := Aside0.mk hr
  have HC := Aside0.mk hc
  have HM := Aside0.mk hm
  have HI := Aside0.mk hi
  have hlen := bytesO_len hm hi
  obtain ⟨P, hP⟩ : ∃ P, bytesO l = P := ⟨_, rfl⟩
  have HP := Aside0.mk hP
  obtain ⟨P2, hP2⟩ : ∃ Q, xs ++ P = Q := ⟨_, rfl⟩
  have HP2 := Aside0.mk hP2
  rw [hP] at hlen ⊢
  rw [hP2]
  clear h hr hc hm hi hP hP2
  go_enter Try.func23, Try.ntmps23
  go_wp2_with fail
  go_at_call 40
  refine (putO_told l A c _ HR.out HC.out HI.out HM.out (show (if true = true then bytesO l else []) = P from HP.out)).mono ?_
  rintro e w1 ⟨v1, rfl, ho1, hb1⟩
  obtain ⟨A1, c1, rfl, hc1, hr1⟩ := Own8.reads ho1
  have HR1 := Aside0.mk hr1
  have HK1 := Aside0.mk ((Kp.refl B w).below hb1)
  obtain ⟨⟨v, g1, g2⟩, g3, g4⟩ := HH.out.grow hb1
  have HG1 := Aside0.mk g1
  have HG2 := Aside0.mk g2
  have HG3 := Aside0.mk g3
  obtain ⟨k1, k2, k3, k4⟩ := know g1
  clear g1 g2 g3 hb1 ho1 hr1 hc1
  go_wp2_with ((with_reducible refine gate_builtin (b := .append) (xs := #[.tmp 14, .tmp 15]) rfl ?_); at_builtin; refine app8t (w0 := w0) w0.heap.size rfl _ _ 52 25 5 rfl Try.underlying52 Try.underlying25 info5 v xs P A1 P.length c1 rfl rfl HG2.out HR1.out HG3.out (below_size HG3.out) (by omega) ?_; intro v2 w2 ho2 hb2 hg2; have HKP := Aside0.mk (HK1.out.grown hg2 HG2.out); rw [HP2.out] at ho2; obtain ⟨A2, c2, hv2⟩ := Kd.R_slice ho2; subst hv2; have HO2 := Aside0.mk ho2; have HB2 := Aside0.mk hb2; have HK2 := Aside0.mk (blk_grown HG1.out hg2 (Own8.ne HG2.out HG1.out (by decide))); obtain ⟨m1, m2, m3, m4⟩ := know HK2.out; clear ho2 hb2)
  go_end0
  exact ⟨rfl, WrAt.put HK2.out HO2.out HB2.out g4, Kp.set (j := 0) HKP.out (.slice A2 P2.length c2)⟩
set_option maxHeartbeats 1000000 in
set_option maxRecDepth 100000 in
theorem putQ_no (q : SQuery) (A : Option Addr) (c : Nat) (w : World) (hr : Kd.C kStep w A q.f0.length q.f0) (hc : q.f0.length ≤ c) (hq : okQ q) (hn : q.f0.length < 4611686018427387904) (hm : mayQ q = false) :
    Calls Try.prog 11 #[.agg #[.slice A q.f0.length c, .int .i64 q.f1, .int .i64 q.f2, .int .i64 q.f3, .int .i64 q.f4]] w (bytesPost 5 [] false w) := by
  have HR := Aside0.mk hr
  have HC := Aside0.mk hc
  have HQ := Aside0.mk hq
  have HM := Aside0.mk hm
  clear hr hc hq hm
  go_enter Try.func11, Try.ntmps11
  go_wp2_with fail
  go_at_call 21
  refine (mayQ_told q A c _ (Kd.C_below HR.out (below_alloc (Below.refl _ _) _)) HC.out HQ.out hn HM.out).mono ?_
  rintro e w1 ⟨rfl, hb1⟩
  go_wp2_with fail
  go_ret2
  exact ⟨_, rfl, Kd.R_nil _ _ _ _ _, below_step (below_alloc (Below.refl _ _) _) hb1⟩
set_option maxHeartbeats 8000000 in
set_option maxRecDepth 100000 in
theorem putQ_go (q : SQuery) (A : Option Addr) (c : Nat) (w : World) (hr : Kd.C kStep w A q.f0.length q.f0) (hc : q.f0.length ≤ c) (hq : okQ q) (hm : mayQ q = true) :
    Calls Try.prog 11 #[.agg #[.slice A q.f0.length c, .int .i64 q.f1, .int .i64 q.f2, .int .i64 q.f3, .int .i64 q.f4]] w (bytesPost 5 (bytesQ q) true w) := by
  have HR := Aside0.mk hr
  have HC := Aside0.mk hc
  have HQ := Aside0.mk hq
  have HM := Aside0.mk hm
  have HST := Aside0.mk (mayQ_steps hm)
  obtain ⟨_, g1, g2, g3, g4, g5, g6, _, g7, g8, g9, g10⟩ := mayQ_iff.1 hm
  have hl0 := lePut_short (n := q.f0.length) (by omega)
  have HSL := Aside0.mk (fun k => stepsL_len (l := q.f0.take k) (fun x hx => ⟨hq x (List.mem_of_mem_take hx), mayQ_steps hm x (List.mem_of_mem_take hx)⟩))
  have HBQ := Aside0.mk (show bytesQ q = lePut q.f0.length ++ stepsL q.f0 ++ numsL [q.f1, q.f2, q.f3, q.f4] from by unfold bytesQ numsL; simp)
  obtain ⟨P0, hP0⟩ : ∃ P, lePut q.f0.length = P := ⟨_, rfl⟩
  have HP0 := Aside0.mk (show [] ++ numsL [(q.f0.length : Int)] = P0 from by rw [← hP0]; simp [numsL])
  rw [hP0] at hl0 HBQ
  have HZ := Aside0.mk (blk_new w (.cells #[.slice A q.f0.length c, .int .i64 q.f1, .int .i64 q.f2, .int .i64 q.f3, .int .i64 q.f4] 24))
  have HB0 := Aside0.mk (below_alloc (Below.refl w.heap.size w) (.cells #[.slice A q.f0.length c, .int .i64 q.f1, .int .i64 q.f2, .int .i64 q.f3, .int .i64 q.f4] 24))
  clear hr hc hq hm hP0
  go_enter Try.func11, Try.ntmps11
  go_wp2_with fail
  go_at_call 21
  refine (mayQ_told q A c _ (Kd.C_below HR.out HB0.out) HC.out HQ.out (by omega) HM.out).mono ?_
  rintro e w1 ⟨rfl, hb1⟩
  have HB1 := Aside0.mk (below_step HB0.out hb1)
  have hz1 := blk_below HZ.out hb1
  have HWB := Aside0.mk (blk_new w1 (.cells #[.slice none 0 0] 52))
  have HBB := Aside0.mk (below_alloc HB1.out (.cells #[.slice none 0 0] 52))
  have HW1 : Aside0 (WrAt w w1.heap.size [] (w1.alloc (.cells #[.slice none 0 0] 52))) := ⟨⟨⟨_, HWB.out, Kd.R_nil _ _ _ _ _⟩, HBB.out, HB1.out.size⟩⟩
  have HZ1 := Aside0.mk (blk_alloc hz1 (.cells #[.slice none 0 0] 52))
  obtain ⟨z1, z2, z3, z4⟩ := know hz1
  have hzlt := blk_lt hz1
  clear hb1 hz1
  go_upto_region 5 with fail
  generalize hWW : w1.alloc (.cells #[.slice none 0 0] 52) = W2 at HWB HBB HW1 HZ1 ⊢
  clear hWW z1 z2 z3 z4
  generalize w1.heap.size = B at *
  obtain ⟨y1, y2, y3, y4⟩ := know HZ1.out
  have hzne : w.heap.size ≠ B := by omega
  have hbn := below_alloc (Below.refl W2.heap.size W2) (.cells #[.int .i64 (q.f0.length)] 3)
  have hne_ : W2.heap.size ≠ B := by have := (HW1.out).lt; omega
  go_wp2_with fail
  go_at_call 24
  refine (numbers_told w B _ [(q.f0.length : Int)] (some ⟨W2.heap.size, 0, none⟩) 1 _ ((HW1.out).grow hbn) (fun w' hk _ => C_ints (T := 3) _ (hk _ _ _ hne_ (by decide) (blk_new W2 (.cells #[.int .i64 (q.f0.length)] 3))) (by show 1 ≤ 1000; decide)) (fun n hn => by rw [List.mem_singleton.1 hn]; omega) (by show 0 ≤ 100000; decide) (by show 1 ≤ 1000; decide)).mono ?_
  rintro e wa1 ⟨rfl, hwr, hkp⟩
  rw [HP0.out] at hwr
  have HWwa1 := Aside0.mk hwr
  have HKzwa1 := Aside0.mk (hkp _ _ _ hzne (by decide) (blk_alloc (HZ1.out) _))
  obtain ⟨kzwa1a, kzwa1b, kzwa1c, kzwa1d⟩ := know HKzwa1.out
  clear y1 y2 y3 y4
  clear hwr hkp
  clear hbn hne_
  go_wp2_with fail
  go_loopw [8, 22] (fun _ v22 w' => ∃ k : Nat, v22 = .int .i64 k ∧ k ≤ q.f0.length ∧ WrAt w B (P0 ++ stepsL (q.f0.take k)) w' ∧ w'.heap[w.heap.size]? = some (.cells #[.slice A q.f0.length c, .int .i64 q.f1, .int .i64 q.f2, .int .i64 q.f3, .int .i64 q.f4] 24 (0, 0))) (fun _ i _ => q.f0.length - (intOf i).toNat)
  case atStart => exact ⟨0, rfl, Nat.zero_le _, by rw [show P0 ++ stepsL (q.f0.take 0) = P0 from by simp [stepsL]]; exact HWwa1.out, HKzwa1.out⟩
  case round =>
    obtain ⟨k, rfl, hk, hwr, hz⟩ := hrel
    have HWR := Aside0.mk hwr
    have HZR := Aside0.mk hz
    have HBR := Aside0.mk hwr.below
    clear kzwa1a kzwa1b kzwa1c kzwa1d
    by_cases hlt : k < q.f0.length
    · obtain ⟨ad, A1, c1, A6, c6, e, hx0, hx1, hx2, hx3, hx4, hx5, hx6, hl1, hi1, hl6, hi6⟩ := at_TStep HR.out (k : Int) (by omega) (by omega)
      subst e
      simp only [Int.toNat_natCast] at hx0 hx1 hx2 hx3 hx4 hx5 hx6
      rw [show rd_TStep q.f0 (k : Int) = q.f0.getD k zStep from rfl] at hx0 hx1 hx2 hx3 hx4 hx5 hx6 hl1 hi1 hl6 hi6
      have hin := getD_in zStep hlt
      obtain ⟨fa, fb, hst⟩ := HST.out _ hin
      have HOK := Aside0.mk (HQ.out _ hin)
      have HSN := Aside0.mk (stepsL_snoc q.f0 k hlt)
      have hsl := HSL.out k
      rw [List.length_take] at hsl
      generalize q.f0.getD k zStep = x at *
      replace hx0 := (HBR.out.cell (World.block_lt_of_cell? w _ hx0)).trans hx0
      replace hx1 := (HBR.out.cell (World.block_lt_of_cell? w _ hx1)).trans hx1
      replace hx2 := (HBR.out.cell (World.block_lt_of_cell? w _ hx2)).trans hx2
      replace hx3 := (HBR.out.cell (World.block_lt_of_cell? w _ hx3)).trans hx3
      replace hx4 := (HBR.out.cell (World.block_lt_of_cell? w _ hx4)).trans hx4
      replace hx5 := (HBR.out.cell (World.block_lt_of_cell? w _ hx5)).trans hx5
      replace hx6 := (HBR.out.cell (World.block_lt_of_cell? w _ hx6)).trans hx6
      have HI1 := Aside0.mk hi1
      have HI6 := Aside0.mk hi6
      have HL1 := Aside0.mk hl1
      have HL6 := Aside0.mk hl6
      obtain ⟨hgd, hask, hm1, hm2, hm3, _⟩ := stepB_iff.1 hst
      have has := asked_size hask
      have HAS := Aside0.mk has.1
      have hsz0 := has.2
      obtain ⟨pre, hpre⟩ : ∃ p, P0 ++ stepsL (q.f0.take k) = p := ⟨_, rfl⟩
      have HPRE := Aside0.mk hpre
      have hpl : pre.length ≤ 6000 := by rw [← hpre, List.length_append]; omega
      rw [hpre] at HWR hwr
      have HIA := Aside0.mk (i64B_iff.1 HOK.out.1)
      have HIB := Aside0.mk (i64B_iff.1 HOK.out.2)
      have hla := bytesO_len has.1 HIA.out
      have htl := textL_small hsz0
      obtain ⟨p1, hp1⟩ : ∃ p, pre ++ textL x.f0 = p := ⟨_, rfl⟩
      obtain ⟨p2, hp2⟩ : ∃ p, p1 ++ bytesO x.f1 = p := ⟨_, rfl⟩
      obtain ⟨p3, hp3⟩ : ∃ p, p2 ++ numsL [x.f2, x.f3] = p := ⟨_, rfl⟩
      have hlm := numsL_len (l := [x.f2, x.f3]) (fun n hn => by simp only [List.mem_cons, List.not_mem_nil, or_false] at hn; rcases hn with rfl | rfl <;> omega)
      rw [show [x.f2, x.f3].length = 2 from rfl] at hlm
      have q1 : p1.length ≤ 6013 := by rw [← hp1, List.length_append]; omega
      have q2 : p2.length ≤ 6700 := by rw [← hp2, List.length_append]; omega
      have q3 : p3.length ≤ 6720 := by rw [← hp3, List.length_append]; omega
      have HP1 := Aside0.mk hp1
      have HP2 := Aside0.mk hp2
      have HP3 := Aside0.mk hp3
      have hbx := below_alloc (Below.refl wr.heap.size wr) (.cells #[.string x.f0, .slice A1 x.f1.length c1, .int .i64 x.f2, .int .i64 x.f3, .bool x.f4, .string x.f5, .slice A6 x.f6.length c6] 40)
      have HWX := Aside0.mk (hwr.grow hbx)
      have HX := Aside0.mk (blk_new wr (.cells #[.string x.f0, .slice A1 x.f1.length c1, .int .i64 x.f2, .int .i64 x.f3, .bool x.f4, .string x.f5, .slice A6 x.f6.length c6] 40))
      have HZX := Aside0.mk (blk_alloc hz (.cells #[.string x.f0, .slice A1 x.f1.length c1, .int .i64 x.f2, .int .i64 x.f3, .bool x.f4, .string x.f5, .slice A6 x.f6.length c6] 40))
      have hxne : wr.heap.size ≠ B := by have := hwr.lt; omega
      have hmn : ∀ n ∈ [x.f2, x.f3], 0 ≤ n ∧ n < 9223372036854775808 := fun n hn => by simp only [List.mem_cons, List.not_mem_nil, or_false] at hn; rcases hn with rfl | rfl <;> omega
      have HMN := Aside0.mk hmn
      have hk1 : k + 1 ≤ q.f0.length := hlt
      obtain ⟨kx1, kx2, kx3, kx4⟩ := know HX.out
      clear hpre hi1 hi6 hl1 hl6 hsl hst hask has hla htl hp1 hp2 hp3 hlm hbx hwr hz hmn hin
      go_wp2_with fail
      go_at_call 22
      refine (wtext_told w B _ x.f0 _ (HWX.out) hsz0 (by omega)).mono ?_
      rintro e wb1 ⟨rfl, hwr, hkp⟩
      rw [HP1.out] at hwr
      have HWwb1 := Aside0.mk hwr
      have HKxwb1 := Aside0.mk (hkp _ _ _ hxne (by decide) (HX.out))
      obtain ⟨kxwb1a, kxwb1b, kxwb1c, kxwb1d⟩ := know HKxwb1.out
      have HKzwb1 := Aside0.mk (hkp _ _ _ hzne (by decide) (HZX.out))
      obtain ⟨kzwb1a, kzwb1b, kzwb1c, kzwb1d⟩ := know HKzwb1.out
      clear kx1 kx2 kx3 kx4
      clear hwr hkp
      go_wp2_with fail
      go_at_call 23
      refine (wops_told w B _ x.f1 A1 c1 _ (HWwb1.out) (Kd.C_below HI1.out (HWwb1.out).below) HL1.out HAS.out HIA.out (by omega)).mono ?_
      rintro e wb2 ⟨rfl, hwr, hkp⟩
      rw [HP2.out] at hwr
      have HWwb2 := Aside0.mk hwr
      have HKxwb2 := Aside0.mk (hkp _ _ _ hxne (by decide) (HKxwb1.out))
      obtain ⟨kxwb2a, kxwb2b, kxwb2c, kxwb2d⟩ := know HKxwb2.out
      have HKzwb2 := Aside0.mk (hkp _ _ _ hzne (by decide) (HKzwb1.out))
      obtain ⟨kzwb2a, kzwb2b, kzwb2c, kzwb2d⟩ := know HKzwb2.out
      clear kxwb1a kxwb1b kxwb1c kxwb1d kzwb1a kzwb1b kzwb1c kzwb1d
      clear hwr hkp
      have hbn := below_alloc (Below.refl wb2.heap.size wb2) (.cells #[.int .i64 (x.f2), .int .i64 (x.f3)] 3)
      have hne_ : wb2.heap.size ≠ B := by have := (HWwb2.out).lt; omega
      go_wp2_with fail
      go_at_call 24
      refine (numbers_told w B _ [(x.f2 : Int), (x.f3 : Int)] (some ⟨wb2.heap.size, 0, none⟩) 2 _ ((HWwb2.out).grow hbn) (fun w' hk _ => C_ints (T := 3) _ (hk _ _ _ hne_ (by decide) (blk_new wb2 (.cells #[.int .i64 (x.f2), .int .i64 (x.f3)] 3))) (by show 2 ≤ 1000; decide)) HMN.out (by omega) (by show 2 ≤ 1000; decide)).mono ?_
      rintro e wb3 ⟨rfl, hwr, hkp⟩
      rw [HP3.out] at hwr
      have HWwb3 := Aside0.mk hwr
      have HKxwb3 := Aside0.mk (hkp _ _ _ hxne (by decide) (blk_alloc (HKxwb2.out) _))
      obtain ⟨kxwb3a, kxwb3b, kxwb3c, kxwb3d⟩ := know HKxwb3.out
      have HKzwb3 := Aside0.mk (hkp _ _ _ hzne (by decide) (blk_alloc (HKzwb2.out) _))
      obtain ⟨kzwb3a, kzwb3b, kzwb3c, kzwb3d⟩ := know HKzwb3.out
      clear kxwb2a kxwb2b kxwb2c kxwb2d kzwb2a kzwb2b kzwb2c kzwb2d
      clear hwr hkp
      clear hbn hne_
      rcases hgd with ⟨hg, _, hask2⟩ | ⟨hg, hn5, hn6⟩
      · have has2 := asked_size hask2
        have HAS2 := Aside0.mk has2.1
        have hsz5 := has2.2
        have htl5 := textL_small hsz5
        obtain ⟨p4, hp4⟩ : ∃ p, p3 ++ numsL [(1 : Int)] = p := ⟨_, rfl⟩
        obtain ⟨p5, hp5⟩ : ∃ p, p4 ++ textL x.f5 = p := ⟨_, rfl⟩
        have hl1_ : (numsL [(1 : Int)]).length ≤ 10 := numsL_len (fun n hn => by rw [List.mem_singleton.1 hn]; decide)
        have q4 : p4.length ≤ 6730 := by rw [← hp4, List.length_append]; omega
        have q5 : p5.length ≤ 6750 := by rw [← hp5, List.length_append]; omega
        have HP4 := Aside0.mk hp4
        have HP5 := Aside0.mk hp5
        have HPN : Aside0 (p5 ++ bytesO x.f6 = P0 ++ stepsL (q.f0.take (k + 1))) := ⟨by rw [HSN.out, ← List.append_assoc, HPRE.out, ← HP5.out, ← HP4.out, ← HP3.out, ← HP2.out, ← HP1.out]; unfold bytesSt numsL; rw [if_pos hg]; simp⟩
        clear hask2 has2 htl5 hp4 hp5 hl1_
        have hbn := below_alloc (Below.refl wb3.heap.size wb3) (.cells #[.int .i64 (1)] 3)
        have hne_ : wb3.heap.size ≠ B := by have := (HWwb3.out).lt; omega
        go_wp2_with fail
        go_at_call 24
        refine (numbers_told w B _ [(1 : Int)] (some ⟨wb3.heap.size, 0, none⟩) 1 _ ((HWwb3.out).grow hbn) (fun w' hk _ => C_ints (T := 3) _ (hk _ _ _ hne_ (by decide) (blk_new wb3 (.cells #[.int .i64 (1)] 3))) (by show 1 ≤ 1000; decide)) (fun n hn => by rw [List.mem_singleton.1 hn]; decide) (by omega) (by show 1 ≤ 1000; decide)).mono ?_
        rintro e wc1 ⟨rfl, hwr, hkp⟩
        rw [HP4.out] at hwr
        have HWwc1 := Aside0.mk hwr
        have HKxwc1 := Aside0.mk (hkp _ _ _ hxne (by decide) (blk_alloc (HKxwb3.out) _))
        obtain ⟨kxwc1a, kxwc1b, kxwc1c, kxwc1d⟩ := know HKxwc1.out
        have HKzwc1 := Aside0.mk (hkp _ _ _ hzne (by decide) (blk_alloc (HKzwb3.out) _))
        obtain ⟨kzwc1a, kzwc1b, kzwc1c, kzwc1d⟩ := know HKzwc1.out
        clear kxwb3a kxwb3b kxwb3c kxwb3d kzwb3a kzwb3b kzwb3c kzwb3d
        clear hwr hkp
        clear hbn hne_
        go_wp2_with fail
        go_at_call 22
        refine (wtext_told w B _ x.f5 _ (HWwc1.out) hsz5 (by omega)).mono ?_
        rintro e wc2 ⟨rfl, hwr, hkp⟩
        rw [HP5.out] at hwr
        have HWwc2 := Aside0.mk hwr
        have HKxwc2 := Aside0.mk (hkp _ _ _ hxne (by decide) (HKxwc1.out))
        obtain ⟨kxwc2a, kxwc2b, kxwc2c, kxwc2d⟩ := know HKxwc2.out
        have HKzwc2 := Aside0.mk (hkp _ _ _ hzne (by decide) (HKzwc1.out))
        obtain ⟨kzwc2a, kzwc2b, kzwc2c, kzwc2d⟩ := know HKzwc2.out
        clear kxwc1a kxwc1b kxwc1c kxwc1d kzwc1a kzwc1b kzwc1c kzwc1d
        clear hwr hkp
        go_wp2_with fail
        go_at_call 23
        refine (wops_told w B _ x.f6 A6 c6 _ (HWwc2.out) (Kd.C_below HI6.out (HWwc2.out).below) HL6.out HAS2.out HIB.out (by omega)).mono ?_
        rintro e wc3 ⟨rfl, hwr, hkp⟩
        rw [HPN.out] at hwr
        have HWwc3 := Aside0.mk hwr
        have HKxwc3 := Aside0.mk (hkp _ _ _ hxne (by decide) (HKxwc2.out))
        obtain ⟨kxwc3a, kxwc3b, kxwc3c, kxwc3d⟩ := know HKxwc3.out
        have HKzwc3 := Aside0.mk (hkp _ _ _ hzne (by decide) (HKzwc2.out))
        obtain ⟨kzwc3a, kzwc3b, kzwc3c, kzwc3d⟩ := know HKzwc3.out
        clear kxwc2a kxwc2b kxwc2c kxwc2d kzwc2a kzwc2b kzwc2c kzwc2d
        clear hwr hkp
        go_wp2_with fail
        go_roundw
        case rel => exact ⟨k + 1, by go_num, hk1, HWwc3.out, HKzwc3.out⟩
        case measure => simp [intOf]; omega
      · have HPN : Aside0 (p3 ++ numsL [(0 : Int)] = P0 ++ stepsL (q.f0.take (k + 1))) := ⟨by rw [HSN.out, ← List.append_assoc, HPRE.out, ← HP3.out, ← HP2.out, ← HP1.out]; unfold bytesSt numsL; rw [if_neg (by rw [hg]; decide)]; simp⟩
        have hbn := below_alloc (Below.refl wb3.heap.size wb3) (.cells #[.int .i64 (0)] 3)
        have hne_ : wb3.heap.size ≠ B := by have := (HWwb3.out).lt; omega
        go_wp2_with fail
        go_at_call 24
        refine (numbers_told w B _ [(0 : Int)] (some ⟨wb3.heap.size, 0, none⟩) 1 _ ((HWwb3.out).grow hbn) (fun w' hk _ => C_ints (T := 3) _ (hk _ _ _ hne_ (by decide) (blk_new wb3 (.cells #[.int .i64 (0)] 3))) (by show 1 ≤ 1000; decide)) (fun n hn => by rw [List.mem_singleton.1 hn]; decide) (by omega) (by show 1 ≤ 1000; decide)).mono ?_
        rintro e wd1 ⟨rfl, hwr, hkp⟩
        rw [HPN.out] at hwr
        have HWwd1 := Aside0.mk hwr
        have HKxwd1 := Aside0.mk (hkp _ _ _ hxne (by decide) (blk_alloc (HKxwb3.out) _))
        obtain ⟨kxwd1a, kxwd1b, kxwd1c, kxwd1d⟩ := know HKxwd1.out
        have HKzwd1 := Aside0.mk (hkp _ _ _ hzne (by decide) (blk_alloc (HKzwb3.out) _))
        obtain ⟨kzwd1a, kzwd1b, kzwd1c, kzwd1d⟩ := know HKzwd1.out
        clear kxwb3a kxwb3b kxwb3c kxwb3d kzwb3a kzwb3b kzwb3c kzwb3d
        clear hwr hkp
        clear hbn hne_
        go_wp2_with fail
        go_roundw
        case rel => exact ⟨k + 1, by go_num, hk1, HWwd1.out, HKzwd1.out⟩
        case measure => simp [intOf]; omega
    · obtain rfl : k = q.f0.length := by omega
      rw [List.take_length] at HWR hwr
      have hsl := HSL.out q.f0.length
      rw [List.take_length] at hsl
      have hpl : (P0 ++ stepsL q.f0).length ≤ 6000 := by rw [List.length_append]; omega
      obtain ⟨y1, y2, y3, y4⟩ := know hz
      have HNS : Aside0 (∀ n ∈ [q.f1, q.f2, q.f3, q.f4], 0 ≤ n ∧ n < 9223372036854775808) := ⟨fun n hn => by simp only [List.mem_cons, List.not_mem_nil, or_false] at hn; rcases hn with rfl | rfl | rfl | rfl <;> omega⟩
      clear hsl hwr hz
      have hbn := below_alloc (Below.refl wr.heap.size wr) (.cells #[.int .i64 (q.f1), .int .i64 (q.f2), .int .i64 (q.f3), .int .i64 (q.f4)] 3)
      have hne_ : wr.heap.size ≠ B := by have := (HWR.out).lt; omega
      go_wp2_with fail
      go_at_call 24
      refine (numbers_told w B _ [(q.f1 : Int), (q.f2 : Int), (q.f3 : Int), (q.f4 : Int)] (some ⟨wr.heap.size, 0, none⟩) 4 _ ((HWR.out).grow hbn) (fun w' hk _ => C_ints (T := 3) _ (hk _ _ _ hne_ (by decide) (blk_new wr (.cells #[.int .i64 (q.f1), .int .i64 (q.f2), .int .i64 (q.f3), .int .i64 (q.f4)] 3))) (by show 4 ≤ 1000; decide)) HNS.out (by omega) (by show 4 ≤ 1000; decide)).mono ?_
      rintro e we1 ⟨rfl, hwr, hkp⟩
      rw [← HBQ.out] at hwr
      have HWwe1 := Aside0.mk hwr
      have HKzwe1 := Aside0.mk (hkp _ _ _ hzne (by decide) (blk_alloc (HZR.out) _))
      obtain ⟨kzwe1a, kzwe1b, kzwe1c, kzwe1d⟩ := know HKzwe1.out
      clear y1 y2 y3 y4
      clear hwr hkp
      clear hbn hne_
      obtain ⟨⟨v, h1, h2⟩, h3, h4⟩ := HWwe1.out
      obtain ⟨m1, m2, m3, m4⟩ := know h1
      have H2 := Aside0.mk h2
      have H3 := Aside0.mk h3
      clear h1 h2 h3
      go_wp2_with fail
      go_ret2
      exact ⟨_, rfl, H2.out, H3.out⟩
theorem putQ_told (q : SQuery) (A : Option Addr) (c : Nat) (w : World) (hr : Kd.C kStep w A q.f0.length q.f0) (hc : q.f0.length ≤ c) (hq : okQ q) (hn : q.f0.length < 4611686018427387904) {b : Bool} (hm : mayQ q = b) {P : List Int} (hP : (if b then bytesQ q else []) = P) :
    Calls Try.prog 11 #[.agg #[.slice A q.f0.length c, .int .i64 q.f1, .int .i64 q.f2, .int .i64 q.f3, .int .i64 q.f4]] w (bytesPost 5 P b w) := by
  subst hP
  cases b with
  | false => exact putQ_no q A c w hr hc hq hn hm
  | true => exact putQ_go q A c w hr hc hq hm
end Go.Proofs.Ytooemobolfoefaa.P

namespace Go.Proofs.Ytooemobolfoefaa.P
open Go.RowKit Go.Proofs.YtooemobolfoefaaW.PrintWords Go.Proofs.YtooemobolfoefaaW.PrintLast Go.Proofs.YtooemobolfoefaaW.PrintMore
attribute [local go_sem] max2_int min2_int max_two min_two max_three min_three max_four min_four   -- for this text's walks alone
set_option linter.unusedVariables false
set_option linter.unusedSimpArgs false
structure RdAt (w0 : World) (B : Nat) (s : Option (List Int)) (w : World) : Prop where
  ex : ∃ A c l bad, w.heap[B]? = some (.cells #[.slice A l.length c, .bool bad] 58 (0, 0)) ∧ l.length ≤ c ∧ Kd.C (Kd.int .u8) w0 A l.length l ∧ byteL l ∧ l.length < 4611686018427387904 ∧ s = (if bad = true then none else some l)
  below : Below w0.heap.size w0 w
  hB : w0.heap.size ≤ B
theorem RdAt.grow {w0 w w1 : World} {B : Nat} {s : Option (List Int)} (h : RdAt w0 B s w) (hb : Below w.heap.size w w1) : RdAt w0 B s w1 := by
  obtain ⟨⟨A, c, l, bad, h1, h2⟩, h3, h4⟩ := h
  exact ⟨⟨A, c, l, bad, blk_below h1 hb, h2⟩, below_step h3 hb, h4⟩
theorem RdAt.lt {w0 w : World} {B : Nat} {s : Option (List Int)} (h : RdAt w0 B s w) : B < w.heap.size := by
  obtain ⟨⟨A, c, l, bad, h1, h2⟩, h3, h4⟩ := h
  exact blk_lt h1
def rdPost (w0 : World) (B : Nat) (s : Option (List Int)) (v : Value) (w : World) (e : Ending) (w' : World) : Prop := e = .returned v ∧ RdAt w0 B s w' ∧ Only B w w'
set_option maxHeartbeats 1000000 in
set_option maxRecDepth 100000 in
theorem skip_told (w0 : World) (B : Nat) (s : Option (List Int)) (n : Nat) (is : Bool) (w : World) (h : RdAt w0 B s w) (hn : n < 4611686018427387904) :
    Calls Try.prog 43 #[.pointer (some ⟨B, 0, none⟩), .int .i64 (n : Int), .bool is] w (rdPost w0 B (s.bind (skipR n is)) (.tuple #[]) w) := by
  have hlt := h.lt
  obtain ⟨⟨A, c, l, bad, h1, h2, h3, h4, h5, rfl⟩, h6, h7⟩ := h
  have HK := Aside0.mk h1
  have HR := Aside0.mk h3
  have HBY := Aside0.mk h4
  have HB := Aside0.mk h6
  have HC := Aside0.mk h2
  cases bad with
  | true =>
    obtain ⟨k1, k2, k3, k4⟩ := know h1
    clear h1 h2 h3 h4 h6
    go_enter Try.func43, Try.ntmps43
    go_wp2_with fail
    go_end0
    have hk := blk_put HK.out 1 (Value.bool true) rfl
    exact ⟨rfl, ⟨⟨A, c, l, true, hk, HC.out, HR.out, HBY.out, h5, rfl⟩, below_set HB.out h7, h7⟩, Only.set (Only.refl _ _) _⟩
  | false =>
    rw [if_neg (by decide), Option.bind_some]
    unfold skipR
    cases is with
    | false =>
      rw [if_neg (fun h => by cases h.1)]
      obtain ⟨k1, k2, k3, k4⟩ := know h1
      clear h1 h2 h3 h4 h6
      go_enter Try.func43, Try.ntmps43
      go_wp2_with fail
      go_end0
      have hk := blk_put HK.out 1 (Value.bool true) rfl
      exact ⟨rfl, ⟨⟨A, c, l, true, hk, HC.out, HR.out, HBY.out, h5, rfl⟩, below_set HB.out h7, h7⟩, Only.set (Only.refl _ _) _⟩
    | true =>
      by_cases hl : n ≤ l.length
      · rw [if_pos ⟨rfl, hl⟩]
        obtain ⟨i0, hi0, _, hsz0, _⟩ := info_parts info5
        obtain ⟨A', hcut, hC', hlc⟩ := drop_row (P := Try.prog) (d := Kd.int .u8) Try.underlying25 hi0 hsz0 A c l n (n : Int) rfl hl h2
        have HR2 := Aside0.mk (hC' w0 h3)
        have HLC := Aside0.mk hlc
        obtain ⟨k1, k2, k3, k4⟩ := know h1
        have k5 := blk_put h1 1 (Value.bool false) rfl
        obtain ⟨j1, j2, j3, j4⟩ := know k5
        have hgt : ¬ (n : Int) > (l.length : Int) := by omega
        have hgtd : decide ((l.length : Int) < (n : Int)) = false := decide_eq_false (by omega)
        clear h1 h2 h3 h4 h6 hC' hlc hi0 hsz0
        go_enter Try.func43, Try.ntmps43
        go_wp2_with fail
        go_end0
        have hk := blk_put (blk_put HK.out 1 (Value.bool false) rfl) 0 (Value.slice A' (l.length - n) (c - n)) rfl
        exact ⟨rfl, ⟨⟨A', c - n, l.drop n, false, by rw [List.length_drop]; exact hk, HLC.out, HR2.out, byteL_drop HBY.out n, by rw [List.length_drop]; omega, rfl⟩, below_set (below_set HB.out h7) h7, h7⟩, Only.set (Only.set (Only.refl _ _) _) _⟩
      · rw [if_neg (fun h => hl h.2)]
        obtain ⟨k1, k2, k3, k4⟩ := know h1
        have k5 := blk_put h1 1 (Value.bool true) rfl
        obtain ⟨j1, j2, j3, j4⟩ := know k5
        have hgt : (n : Int) > (l.length : Int) := by omega
        have hgtd : decide ((l.length : Int) < (n : Int)) = true := decide_eq_true (by omega)
        clear h1 h2 h3 h4 h6
        go_enter Try.func43, Try.ntmps43
        go_wp2_with fail
        go_end0
        exact ⟨rfl, ⟨⟨A, c, l, true, k5, HC.out, HR.out, HBY.out, h5, rfl⟩, below_set HB.out h7, h7⟩, Only.set (Only.refl _ _) _⟩
end Go.Proofs.Ytooemobolfoefaa.P
