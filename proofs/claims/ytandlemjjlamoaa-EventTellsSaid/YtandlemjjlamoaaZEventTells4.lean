/- What EventTells's row stands on: words, contracts of the functions that it reaches, plain facts, its walk (part 4): no condition but those that each theorem names. -/
import Derived.Test.YtandlemjjlamoaaZEventTells3
set_option linter.unusedVariables false
set_option linter.unusedSimpArgs false
namespace Go.Proofs.Ytandlemjjlamoaa.P
open Go.RowKit Go.Proofs.YtandlemjjlamoaaW.PrintWords Go.Proofs.YtandlemjjlamoaaW.PrintLast Go.Proofs.YtandlemjjlamoaaW.PrintMore
attribute [local go_sem] max2_int min2_int max_two min_two max_three min_three max_four min_four   -- for this text's walks alone
set_option linter.unusedVariables false
set_option linter.unusedSimpArgs false
attribute [local go_sem high] eqAValue
def slices_Equal_api_Value.l0 : Nat → List (SValue) → List (SValue) → Int → Int → Option (Bool)
  | 0, _, _, _, _ => none
  | k + 1, x0, x1, x12, x13 => if x13 < x12 then (if 0 ≤ x13 then (if x13 < (x0.length : Int) then (if x13 < (x1.length : Int) then (if (!(((rd_TValue x0 x13).f0) == ((rd_TValue x1 x13).f0)) || (!(((rd_TValue x0 x13).f1) == ((rd_TValue x1 x13).f1)) || (!((((rd_TValue x0 x13).f2).toList) == (((rd_TValue x1 x13).f2).toList))))) = true then (some false) else (slices_Equal_api_Value.l0 k x0 x1 x12 (wrap64 (x13 + 1)))) else (none)) else (none)) else (none)) else (some true)
def slices_Equal_api_Value.f (k : Nat) (l0 : List (SValue)) (l1 : List (SValue)) : Option (Bool) := if (l0.length : Int) = (l1.length : Int) then (slices_Equal_api_Value.l0 k l0 l1 (l0.length : Int) 0) else (some false)
set_option maxHeartbeats 8000000 in
set_option maxRecDepth 100000 in
theorem slices_Equal_api_Value.calls (k : Nat) (A0 : Option Addr) (c0 : Nat) (l0 : List (SValue)) (A1 : Option Addr) (c1 : Nat) (l1 : List (SValue)) (r : Bool) (w : World) (hr0 : Kd.C kValue w A0 l0.length l0) (hc0 : l0.length ≤ c0) (hr1 : Kd.C kValue w A1 l1.length l1) (hc1 : l1.length ≤ c1) (h : slices_Equal_api_Value.f k l0 l1 = some r) :
    Calls Try.prog 45 #[.slice A0 l0.length c0, .slice A1 l1.length c1] w fun e w' => e = .returned (.bool r) ∧ Drawn0 w w' := by
  have hu37 := Try.underlying37
  have HR0 := Aside0.mk hr0
  have HC0 := Aside0.mk hc0
  clear hr0 hc0
  have HR1 := Aside0.mk hr1
  have HC1 := Aside0.mk hc1
  clear hr1 hc1
  have H : (if (l0.length : Int) = (l1.length : Int) then (slices_Equal_api_Value.l0 k l0 l1 (l0.length : Int) 0) else (some false)) = some r := h
  clear h
  by_cases c3 : (l0.length : Int) = (l1.length : Int)
  · rw [if_pos c3] at H
    have c3b0 : ((l0.length : Int) == (l1.length : Int)) = true := beq_iff_eq.mpr c3
    have c3b1 : ((l0.length : Int) != (l1.length : Int)) = false := bne_eq_false_iff_eq.mpr c3
    have c3b2 : (l0.length == l1.length) = true := by first | simpa using c3 | (simp at c3 ⊢; omega)
    clear c3
    have H' := Aside0.mk H
    clear H
    go_enter Try.func45, Try.ntmps45
    go_wp2
    repeat (go_quiet (fail); try go_wp2)
    go_loopg [13] k (fun kq v13 w' => ∃ (x13_1 : Int), v13 = .int .i64 x13_1 ∧ Aside0 (slices_Equal_api_Value.l0 kq l0 l1 (l0.length : Int) x13_1 = some r) ∧ Aside0 (kq ≤ k) ∧ Drawn0 w w')
    case atStart => exact ⟨(0), (by first | rfl | (simp; done) | (simp [*]; done)), H', ⟨Nat.le_refl _⟩, by repeat (first | exact Drawn0.refl _ | apply Drawn0.step)⟩
    case round =>
      clear H'
      try clear c1
      try clear p2
      try clear c3
      try clear c3b0
      try clear c3b1
      try clear c3b2
      obtain ⟨x13_1, rfl, HA, HK1, ⟨m1, rfl⟩⟩ := hrel
      cases gk with
      | zero => exact absurd HA.out (by simp [slices_Equal_api_Value.l0])
      | succ k1 =>
        have H := HA.out
        clear HA
        simp only [slices_Equal_api_Value.l0] at H
        by_cases c4 : x13_1 < (l0.length : Int)
        · rw [if_pos c4] at H
          have c4b0 : decide (x13_1 < (l0.length : Int)) = true := decide_eq_true c4
          clear c4
          by_cases c5 : 0 ≤ x13_1
          · rw [if_pos c5] at H
            have c5b0 : decide (0 ≤ x13_1) = true := decide_eq_true c5
            clear c5
            by_cases c6 : x13_1 < (l0.length : Int)
            · rw [if_pos c6] at H
              have c6b0 : decide (x13_1 < (l0.length : Int)) = true := decide_eq_true c6
              clear c6
              by_cases c7 : x13_1 < (l1.length : Int)
              · rw [if_pos c7] at H
                have c7b0 : decide (x13_1 < (l1.length : Int)) = true := decide_eq_true c7
                clear c7
                by_cases c8 : (!(((rd_TValue l0 x13_1).f0) == ((rd_TValue l1 x13_1).f0)) || (!(((rd_TValue l0 x13_1).f1) == ((rd_TValue l1 x13_1).f1)) || (!((((rd_TValue l0 x13_1).f2).toList) == (((rd_TValue l1 x13_1).f2).toList))))) = true
                · rw [if_pos c8] at H
                  have c8b0 : (!(((rd_TValue l0 x13_1).f0) == ((rd_TValue l1 x13_1).f0)) || (!(((rd_TValue l0 x13_1).f1) == ((rd_TValue l1 x13_1).f1)) || (!((((rd_TValue l0 x13_1).f2).toList) == (((rd_TValue l1 x13_1).f2).toList))))) = true := c8
                  clear c8
                  obtain rfl := Option.some.inj H
                  have p120 : 0 ≤ (x13_1 : Int) := of_decide_eq_true (by first | (with_reducible assumption) | assumption)
                  have q120 : x13_1 < (l0.length : Int) := of_decide_eq_true (by first | (with_reducible assumption) | assumption)
                  obtain ⟨ad120, e120, hx120_0, hx120_1, hx120_2⟩ := at_TValue HR0.out x13_1 p120 q120
                  cases e120
                  replace p120 := eq_true p120
                  replace q120 := eq_true q120
                  have p121 : 0 ≤ (x13_1 : Int) := of_decide_eq_true (by first | (with_reducible assumption) | assumption)
                  have q121 : x13_1 < (l1.length : Int) := of_decide_eq_true (by first | (with_reducible assumption) | assumption)
                  obtain ⟨ad121, e121, hx121_0, hx121_1, hx121_2⟩ := at_TValue HR1.out x13_1 p121 q121
                  cases e121
                  replace p121 := eq_true p121
                  replace q121 := eq_true q121
                  go_wp2
                  repeat (go_quiet (fail); try go_wp2)
                  go_ret
                  exact ⟨by first | rfl | (simp; done) | (simp [*]; done), by repeat (first | exact Drawn0.refl _ | apply Drawn0.step)⟩
                · rw [if_neg c8] at H
                  have c8b0 : (!(((rd_TValue l0 x13_1).f0) == ((rd_TValue l1 x13_1).f0)) || (!(((rd_TValue l0 x13_1).f1) == ((rd_TValue l1 x13_1).f1)) || (!((((rd_TValue l0 x13_1).f2).toList) == (((rd_TValue l1 x13_1).f2).toList))))) = false := by simpa using c8
                  clear c8
                  have H' := Aside0.mk H
                  clear H
                  have p120 : 0 ≤ (x13_1 : Int) := of_decide_eq_true (by first | (with_reducible assumption) | assumption)
                  have q120 : x13_1 < (l0.length : Int) := of_decide_eq_true (by first | (with_reducible assumption) | assumption)
                  obtain ⟨ad120, e120, hx120_0, hx120_1, hx120_2⟩ := at_TValue HR0.out x13_1 p120 q120
                  cases e120
                  replace p120 := eq_true p120
                  replace q120 := eq_true q120
                  have p121 : 0 ≤ (x13_1 : Int) := of_decide_eq_true (by first | (with_reducible assumption) | assumption)
                  have q121 : x13_1 < (l1.length : Int) := of_decide_eq_true (by first | (with_reducible assumption) | assumption)
                  obtain ⟨ad121, e121, hx121_0, hx121_1, hx121_2⟩ := at_TValue HR1.out x13_1 p121 q121
                  cases e121
                  replace p121 := eq_true p121
                  replace q121 := eq_true q121
                  go_wp2
                  repeat (go_quiet (fail); try go_wp2)
                  go_roundg k1
                  case measure => have := HK1.out; omega
                  case rel => exact ⟨(wrap64 (x13_1 + 1)), (by first | rfl | (simp; done) | (simp [*]; done)), H', ⟨by have := HK1.out; omega⟩, by repeat (first | exact Drawn0.refl _ | apply Drawn0.step)⟩
              · rw [if_neg c7] at H
                exact absurd H (by simp)
            · rw [if_neg c6] at H
              exact absurd H (by simp)
          · rw [if_neg c5] at H
            exact absurd H (by simp)
        · rw [if_neg c4] at H
          have c4b0 : decide (x13_1 < (l0.length : Int)) = false := decide_eq_false c4
          clear c4
          obtain rfl := Option.some.inj H
          go_wp2
          repeat (go_quiet (fail); try go_wp2)
          go_ret
          exact ⟨by first | rfl | (simp; done) | (simp [*]; done), by repeat (first | exact Drawn0.refl _ | apply Drawn0.step)⟩
  · rw [if_neg c3] at H
    have c3b0 : ((l0.length : Int) == (l1.length : Int)) = false := beq_eq_false_iff_ne.mpr c3
    have c3b1 : ((l0.length : Int) != (l1.length : Int)) = true := bne_iff_ne.mpr c3
    have c3b2 : (l0.length == l1.length) = false := by first | simpa using c3 | (simp at c3 ⊢; omega)
    obtain rfl := Option.some.inj H
    go_enter Try.func45, Try.ntmps45
    go_wp2
    repeat (go_quiet (fail); try go_wp2)
    go_ret
    exact ⟨by first | rfl | (simp; done) | (simp [*]; done), by repeat (first | exact Drawn0.refl _ | apply Drawn0.step)⟩
end Go.Proofs.Ytandlemjjlamoaa.P

namespace Go.Proofs.Ytandlemjjlamoaa.P
open Go.RowKit Go.Proofs.YtandlemjjlamoaaW.PrintWords Go.Proofs.YtandlemjjlamoaaW.PrintLast Go.Proofs.YtandlemjjlamoaaW.PrintMore
attribute [local go_sem] max2_int min2_int max_two min_two max_three min_three max_four min_four   -- for this text's walks alone
set_option linter.unusedVariables false
set_option linter.unusedSimpArgs false
def event_Same.f (k : Nat) (a0_0 : ByteArray) (a0_1 : Int) (l0_2 : List (SValue)) (a1_0 : ByteArray) (a1_1 : Int) (l1_2 : List (SValue)) : Option (Bool) := if a0_0.toList = a1_0.toList then (if a0_1 = a1_1 then ((slices_Equal_api_Value.f k l0_2 l1_2).bind fun t124 => (some t124)) else (some false)) else (some false)
set_option maxHeartbeats 8000000 in
set_option maxRecDepth 100000 in
theorem event_Same.calls (k : Nat) (a0_0 : ByteArray) (a0_1 : Int) (A0_2 : Option Addr) (c0_2 : Nat) (l0_2 : List (SValue)) (a1_0 : ByteArray) (a1_1 : Int) (A1_2 : Option Addr) (c1_2 : Nat) (l1_2 : List (SValue)) (r : Bool) (w : World) (hr0_2 : Kd.C kValue w A0_2 l0_2.length l0_2) (hc0_2 : l0_2.length ≤ c0_2) (hr1_2 : Kd.C kValue w A1_2 l1_2.length l1_2) (hc1_2 : l1_2.length ≤ c1_2) (h : event_Same.f k a0_0 a0_1 l0_2 a1_0 a1_1 l1_2 = some r) :
    Calls Try.prog 21 #[.agg #[.string a0_0, .int .i64 a0_1, .slice A0_2 l0_2.length c0_2], .agg #[.string a1_0, .int .i64 a1_1, .slice A1_2 l1_2.length c1_2]] w fun e w' => e = .returned (.bool r) ∧ Below w.heap.size w w' := by
  have hu24 := Try.underlying24
  have HR0_2 := Aside0.mk hr0_2
  have HC0_2 := Aside0.mk hc0_2
  clear hr0_2 hc0_2
  have HR1_2 := Aside0.mk hr1_2
  have HC1_2 := Aside0.mk hc1_2
  clear hr1_2 hc1_2
  have HB := Aside0.mk (Below.refl w.heap.size w)
  have H : (if a0_0.toList = a1_0.toList then (if a0_1 = a1_1 then ((slices_Equal_api_Value.f k l0_2 l1_2).bind fun t124 => (some t124)) else (some false)) else (some false)) = some r := h
  clear h
  by_cases c3 : a0_0.toList = a1_0.toList
  · rw [if_pos c3] at H
    have c3b0 : (a0_0.toList == a1_0.toList) = true := beq_iff_eq.mpr c3
    have c3b1 : (a0_0.toList != a1_0.toList) = false := bne_eq_false_iff_eq.mpr c3
    clear c3
    by_cases c4 : a0_1 = a1_1
    · rw [if_pos c4] at H
      have c4b0 : (a0_1 == a1_1) = true := beq_iff_eq.mpr c4
      have c4b1 : (a0_1 != a1_1) = false := bne_eq_false_iff_eq.mpr c4
      clear c4
      replace H := Option.bind_eq_some_iff.mp H
      obtain ⟨t124, A50, H⟩ := H
      replace H : (some t124) = some r := H
      have A5 := Aside0.mk A50
      clear A50
      obtain rfl := Option.some.inj H
      go_enter Try.func21, Try.ntmps21
      go_wp2_with (first | ((with_reducible refine gate_dst (N := 2) rfl ?_); refine box_event ?hg (N := 2) ?hd (cs := #[.string a0_0, .int .i64 a0_1, .slice A0_2 l0_2.length c0_2]) (t := 24) ?hr ?_; (case hd => rfl); (case hg => rfl); (case hr => first | (go_simp; done) | (go_simp; rfl)); intro gb122 hg w6 hbox hb; have n0_ := Aside0.mk (below_step (by repeat (first | (with_reducible first | exact HB.out | apply below_alloc | apply pw_below_drewN | apply below_drew1) | exact HB.out)) hb); have n1_ := Aside0.mk (hbox); have n2_ := Aside0.mk ((by rw [hg]; exact (below_size (by repeat (first | (with_reducible first | exact HB.out | apply below_alloc | apply pw_below_drewN | apply below_drew1) | exact HB.out))) : w.heap.size ≤ gb122)); have n3_ := Aside0.mk ((by rw [hg]; exact (below_size (by repeat (first | (with_reducible first | exact HB.out | apply below_alloc | apply pw_below_drewN | apply below_drew1) | exact HB.out))) : w.heap.size ≤ gb122)); clear HB; have HB := n0_; have BK122 := n1_; have GW122 := n2_; have GE122 := n3_; clear n0_ n1_ n2_ n3_; clear hb hbox hg) | ((with_reducible refine gate_dst (N := 3) rfl ?_); refine box_event ?hg (N := 3) ?hd (cs := #[.string a1_0, .int .i64 a1_1, .slice A1_2 l1_2.length c1_2]) (t := 24) ?hr ?_; (case hd => rfl); (case hg => rfl); (case hr => first | (go_simp; done) | (go_simp; rfl)); intro gb123 hg w7 hbox hb; have n0_ := Aside0.mk (blk_below (g := gb122) (o := .cells #[.string a0_0, .int .i64 a0_1, .slice A0_2 l0_2.length c0_2] 24 (0, 0)) (by (with_reducible repeat (first | refine blk_drewN ?_ _ | refine blk_drew ?_ | refine blk_alloc ?_ _)); exact BK122.out) hb); have n1_ := Aside0.mk (below_step (by repeat (first | (with_reducible first | exact HB.out | apply below_alloc | apply pw_below_drewN | apply below_drew1 | refine below_set ?_ GE122.out) | exact HB.out)) hb); have n2_ := Aside0.mk (hbox); have n3_ := Aside0.mk ((by rw [hg]; exact (below_size (by repeat (first | (with_reducible first | exact HB.out | apply below_alloc | apply pw_below_drewN | apply below_drew1 | refine below_set ?_ GE122.out) | exact HB.out))) : w.heap.size ≤ gb123)); have n4_ := Aside0.mk ((by rw [hg]; exact (below_size (by repeat (first | (with_reducible first | exact HB.out | apply below_alloc | apply pw_below_drewN | apply below_drew1 | refine below_set ?_ GE122.out) | exact HB.out))) : w.heap.size ≤ gb123)); have n5_ := Aside0.mk ((by rw [hg]; exact Nat.ne_of_lt (blk_lt (g := gb122) (o := .cells #[.string a0_0, .int .i64 a0_1, .slice A0_2 l0_2.length c0_2] 24 (0, 0)) (by (with_reducible repeat (first | refine blk_drewN ?_ _ | refine blk_drew ?_ | refine blk_alloc ?_ _)); exact BK122.out)) : gb122 ≠ gb123)); have n6_ := Aside0.mk ((by rw [hg]; exact Nat.ne_of_gt (blk_lt (g := gb122) (o := .cells #[.string a0_0, .int .i64 a0_1, .slice A0_2 l0_2.length c0_2] 24 (0, 0)) (by (with_reducible repeat (first | refine blk_drewN ?_ _ | refine blk_drew ?_ | refine blk_alloc ?_ _)); exact BK122.out)) : gb123 ≠ gb122)); clear BK122; clear HB; have BK122 := n0_; have HB := n1_; have BK123 := n2_; have GW123 := n3_; have GE123 := n4_; have NB122_123 := n5_; have NB123_122 := n6_; clear n0_ n1_ n2_ n3_ n4_ n5_ n6_; clear hb hbox hg; have hnb8 := NB122_123.out; have hnc8 := NB123_122.out; have hcz9_0 : w7.cell? ⟨gb122, 0, none⟩ = some (.string a0_0) := (blk_cell BK122.out 0).trans rfl; have hcz9_1 : w7.cell? ⟨gb122, 1, none⟩ = some (.int .i64 a0_1) := (blk_cell BK122.out 1).trans rfl; have hcz9_2 : w7.cell? ⟨gb122, 2, none⟩ = some (.slice A0_2 l0_2.length c0_2) := (blk_cell BK122.out 2).trans rfl; have hfz9_0 := blk_frozen BK122.out 0; have hfz9_1 := blk_frozen BK122.out 1; have hfz9_2 := blk_frozen BK122.out 2; have hcz10_0 : w7.cell? ⟨gb123, 0, none⟩ = some (.string a1_0) := (blk_cell BK123.out 0).trans rfl; have hcz10_1 : w7.cell? ⟨gb123, 1, none⟩ = some (.int .i64 a1_1) := (blk_cell BK123.out 1).trans rfl; have hcz10_2 : w7.cell? ⟨gb123, 2, none⟩ = some (.slice A1_2 l1_2.length c1_2) := (blk_cell BK123.out 2).trans rfl; have hfz10_0 := blk_frozen BK123.out 0; have hfz10_1 := blk_frozen BK123.out 1; have hfz10_2 := blk_frozen BK123.out 2) | (go_at_call 45; (with_reducible refine (slices_Equal_api_Value.calls k _ _ l0_2 _ _ l1_2 t124 _ ?side1 ?side2 ?side3 ?side4 A5.out).mono ?_); (case side1 => repeat (first | exact (Kd.C_below HR0_2.out HB.out) | (with_reducible refine Kd.C_alloc ?_ _) | (with_reducible refine Kd.C_drewN ?_ _) | (with_reducible refine Kd.C_drew ?_))); (case side2 => exact HC0_2.out); (case side3 => repeat (first | exact (Kd.C_below HR1_2.out HB.out) | (with_reducible refine Kd.C_alloc ?_ _) | (with_reducible refine Kd.C_drewN ?_ _) | (with_reducible refine Kd.C_drew ?_))); (case side4 => exact HC1_2.out); rintro e w' ⟨rfl, ⟨nd, rfl⟩⟩))
      go_ret
      exact ⟨by first | rfl | (simp [errW_none, errW_some] <;> rfl) | (simp [*, errW_none, errW_some] <;> rfl), by repeat (first | (with_reducible first | exact HB.out | apply below_alloc | apply pw_below_drewN | apply below_drew1 | refine below_set ?_ GE122.out | refine below_set ?_ GE123.out) | exact HB.out)⟩
    · rw [if_neg c4] at H
      have c4b0 : (a0_1 == a1_1) = false := beq_eq_false_iff_ne.mpr c4
      have c4b1 : (a0_1 != a1_1) = true := bne_iff_ne.mpr c4
      obtain rfl := Option.some.inj H
      go_enter Try.func21, Try.ntmps21
      go_wp2_with (first | ((with_reducible refine gate_dst (N := 2) rfl ?_); refine box_event ?hg (N := 2) ?hd (cs := #[.string a0_0, .int .i64 a0_1, .slice A0_2 l0_2.length c0_2]) (t := 24) ?hr ?_; (case hd => rfl); (case hg => rfl); (case hr => first | (go_simp; done) | (go_simp; rfl)); intro gb122 hg w11 hbox hb; have n0_ := Aside0.mk (below_step (by repeat (first | (with_reducible first | exact HB.out | apply below_alloc | apply pw_below_drewN | apply below_drew1) | exact HB.out)) hb); have n1_ := Aside0.mk (hbox); have n2_ := Aside0.mk ((by rw [hg]; exact (below_size (by repeat (first | (with_reducible first | exact HB.out | apply below_alloc | apply pw_below_drewN | apply below_drew1) | exact HB.out))) : w.heap.size ≤ gb122)); have n3_ := Aside0.mk ((by rw [hg]; exact (below_size (by repeat (first | (with_reducible first | exact HB.out | apply below_alloc | apply pw_below_drewN | apply below_drew1) | exact HB.out))) : w.heap.size ≤ gb122)); clear HB; have HB := n0_; have BK122 := n1_; have GW122 := n2_; have GE122 := n3_; clear n0_ n1_ n2_ n3_; clear hb hbox hg) | ((with_reducible refine gate_dst (N := 3) rfl ?_); refine box_event ?hg (N := 3) ?hd (cs := #[.string a1_0, .int .i64 a1_1, .slice A1_2 l1_2.length c1_2]) (t := 24) ?hr ?_; (case hd => rfl); (case hg => rfl); (case hr => first | (go_simp; done) | (go_simp; rfl)); intro gb123 hg w12 hbox hb; have n0_ := Aside0.mk (blk_below (g := gb122) (o := .cells #[.string a0_0, .int .i64 a0_1, .slice A0_2 l0_2.length c0_2] 24 (0, 0)) (by (with_reducible repeat (first | refine blk_drewN ?_ _ | refine blk_drew ?_ | refine blk_alloc ?_ _)); exact BK122.out) hb); have n1_ := Aside0.mk (below_step (by repeat (first | (with_reducible first | exact HB.out | apply below_alloc | apply pw_below_drewN | apply below_drew1 | refine below_set ?_ GE122.out) | exact HB.out)) hb); have n2_ := Aside0.mk (hbox); have n3_ := Aside0.mk ((by rw [hg]; exact (below_size (by repeat (first | (with_reducible first | exact HB.out | apply below_alloc | apply pw_below_drewN | apply below_drew1 | refine below_set ?_ GE122.out) | exact HB.out))) : w.heap.size ≤ gb123)); have n4_ := Aside0.mk ((by rw [hg]; exact (below_size (by repeat (first | (with_reducible first | exact HB.out | apply below_alloc | apply pw_below_drewN | apply below_drew1 | refine below_set ?_ GE122.out) | exact HB.out))) : w.heap.size ≤ gb123)); have n5_ := Aside0.mk ((by rw [hg]; exact Nat.ne_of_lt (blk_lt (g := gb122) (o := .cells #[.string a0_0, .int .i64 a0_1, .slice A0_2 l0_2.length c0_2] 24 (0, 0)) (by (with_reducible repeat (first | refine blk_drewN ?_ _ | refine blk_drew ?_ | refine blk_alloc ?_ _)); exact BK122.out)) : gb122 ≠ gb123)); have n6_ := Aside0.mk ((by rw [hg]; exact Nat.ne_of_gt (blk_lt (g := gb122) (o := .cells #[.string a0_0, .int .i64 a0_1, .slice A0_2 l0_2.length c0_2] 24 (0, 0)) (by (with_reducible repeat (first | refine blk_drewN ?_ _ | refine blk_drew ?_ | refine blk_alloc ?_ _)); exact BK122.out)) : gb123 ≠ gb122)); clear BK122; clear HB; have BK122 := n0_; have HB := n1_; have BK123 := n2_; have GW123 := n3_; have GE123 := n4_; have NB122_123 := n5_; have NB123_122 := n6_; clear n0_ n1_ n2_ n3_ n4_ n5_ n6_; clear hb hbox hg; have hnb13 := NB122_123.out; have hnc13 := NB123_122.out; have hcz14_0 : w12.cell? ⟨gb122, 0, none⟩ = some (.string a0_0) := (blk_cell BK122.out 0).trans rfl; have hcz14_1 : w12.cell? ⟨gb122, 1, none⟩ = some (.int .i64 a0_1) := (blk_cell BK122.out 1).trans rfl; have hcz14_2 : w12.cell? ⟨gb122, 2, none⟩ = some (.slice A0_2 l0_2.length c0_2) := (blk_cell BK122.out 2).trans rfl; have hfz14_0 := blk_frozen BK122.out 0; have hfz14_1 := blk_frozen BK122.out 1; have hfz14_2 := blk_frozen BK122.out 2; have hcz15_0 : w12.cell? ⟨gb123, 0, none⟩ = some (.string a1_0) := (blk_cell BK123.out 0).trans rfl; have hcz15_1 : w12.cell? ⟨gb123, 1, none⟩ = some (.int .i64 a1_1) := (blk_cell BK123.out 1).trans rfl; have hcz15_2 : w12.cell? ⟨gb123, 2, none⟩ = some (.slice A1_2 l1_2.length c1_2) := (blk_cell BK123.out 2).trans rfl; have hfz15_0 := blk_frozen BK123.out 0; have hfz15_1 := blk_frozen BK123.out 1; have hfz15_2 := blk_frozen BK123.out 2))
      go_ret
      exact ⟨by first | rfl | (simp [errW_none, errW_some] <;> rfl) | (simp [*, errW_none, errW_some] <;> rfl), by repeat (first | (with_reducible first | exact HB.out | apply below_alloc | apply pw_below_drewN | apply below_drew1 | refine below_set ?_ GE122.out | refine below_set ?_ GE123.out) | exact HB.out)⟩
  · rw [if_neg c3] at H
    have c3b0 : (a0_0.toList == a1_0.toList) = false := beq_eq_false_iff_ne.mpr c3
    have c3b1 : (a0_0.toList != a1_0.toList) = true := bne_iff_ne.mpr c3
    obtain rfl := Option.some.inj H
    go_enter Try.func21, Try.ntmps21
    go_wp2_with (first | ((with_reducible refine gate_dst (N := 2) rfl ?_); refine box_event ?hg (N := 2) ?hd (cs := #[.string a0_0, .int .i64 a0_1, .slice A0_2 l0_2.length c0_2]) (t := 24) ?hr ?_; (case hd => rfl); (case hg => rfl); (case hr => first | (go_simp; done) | (go_simp; rfl)); intro gb122 hg w16 hbox hb; have n0_ := Aside0.mk (below_step (by repeat (first | (with_reducible first | exact HB.out | apply below_alloc | apply pw_below_drewN | apply below_drew1) | exact HB.out)) hb); have n1_ := Aside0.mk (hbox); have n2_ := Aside0.mk ((by rw [hg]; exact (below_size (by repeat (first | (with_reducible first | exact HB.out | apply below_alloc | apply pw_below_drewN | apply below_drew1) | exact HB.out))) : w.heap.size ≤ gb122)); have n3_ := Aside0.mk ((by rw [hg]; exact (below_size (by repeat (first | (with_reducible first | exact HB.out | apply below_alloc | apply pw_below_drewN | apply below_drew1) | exact HB.out))) : w.heap.size ≤ gb122)); clear HB; have HB := n0_; have BK122 := n1_; have GW122 := n2_; have GE122 := n3_; clear n0_ n1_ n2_ n3_; clear hb hbox hg) | ((with_reducible refine gate_dst (N := 3) rfl ?_); refine box_event ?hg (N := 3) ?hd (cs := #[.string a1_0, .int .i64 a1_1, .slice A1_2 l1_2.length c1_2]) (t := 24) ?hr ?_; (case hd => rfl); (case hg => rfl); (case hr => first | (go_simp; done) | (go_simp; rfl)); intro gb123 hg w17 hbox hb; have n0_ := Aside0.mk (blk_below (g := gb122) (o := .cells #[.string a0_0, .int .i64 a0_1, .slice A0_2 l0_2.length c0_2] 24 (0, 0)) (by (with_reducible repeat (first | refine blk_drewN ?_ _ | refine blk_drew ?_ | refine blk_alloc ?_ _)); exact BK122.out) hb); have n1_ := Aside0.mk (below_step (by repeat (first | (with_reducible first | exact HB.out | apply below_alloc | apply pw_below_drewN | apply below_drew1 | refine below_set ?_ GE122.out) | exact HB.out)) hb); have n2_ := Aside0.mk (hbox); have n3_ := Aside0.mk ((by rw [hg]; exact (below_size (by repeat (first | (with_reducible first | exact HB.out | apply below_alloc | apply pw_below_drewN | apply below_drew1 | refine below_set ?_ GE122.out) | exact HB.out))) : w.heap.size ≤ gb123)); have n4_ := Aside0.mk ((by rw [hg]; exact (below_size (by repeat (first | (with_reducible first | exact HB.out | apply below_alloc | apply pw_below_drewN | apply below_drew1 | refine below_set ?_ GE122.out) | exact HB.out))) : w.heap.size ≤ gb123)); have n5_ := Aside0.mk ((by rw [hg]; exact Nat.ne_of_lt (blk_lt (g := gb122) (o := .cells #[.string a0_0, .int .i64 a0_1, .slice A0_2 l0_2.length c0_2] 24 (0, 0)) (by (with_reducible repeat (first | refine blk_drewN ?_ _ | refine blk_drew ?_ | refine blk_alloc ?_ _)); exact BK122.out)) : gb122 ≠ gb123)); have n6_ := Aside0.mk ((by rw [hg]; exact Nat.ne_of_gt (blk_lt (g := gb122) (o := .cells #[.string a0_0, .int .i64 a0_1, .slice A0_2 l0_2.length c0_2] 24 (0, 0)) (by (with_reducible repeat (first | refine blk_drewN ?_ _ | refine blk_drew ?_ | refine blk_alloc ?_ _)); exact BK122.out)) : gb123 ≠ gb122)); clear BK122; clear HB; have BK122 := n0_; have HB := n1_; have BK123 := n2_; have GW123 := n3_; have GE123 := n4_; have NB122_123 := n5_; have NB123_122 := n6_; clear n0_ n1_ n2_ n3_ n4_ n5_ n6_; clear hb hbox hg; have hnb18 := NB122_123.out; have hnc18 := NB123_122.out; have hcz19_0 : w17.cell? ⟨gb122, 0, none⟩ = some (.string a0_0) := (blk_cell BK122.out 0).trans rfl; have hcz19_1 : w17.cell? ⟨gb122, 1, none⟩ = some (.int .i64 a0_1) := (blk_cell BK122.out 1).trans rfl; have hcz19_2 : w17.cell? ⟨gb122, 2, none⟩ = some (.slice A0_2 l0_2.length c0_2) := (blk_cell BK122.out 2).trans rfl; have hfz19_0 := blk_frozen BK122.out 0; have hfz19_1 := blk_frozen BK122.out 1; have hfz19_2 := blk_frozen BK122.out 2; have hcz20_0 : w17.cell? ⟨gb123, 0, none⟩ = some (.string a1_0) := (blk_cell BK123.out 0).trans rfl; have hcz20_1 : w17.cell? ⟨gb123, 1, none⟩ = some (.int .i64 a1_1) := (blk_cell BK123.out 1).trans rfl; have hcz20_2 : w17.cell? ⟨gb123, 2, none⟩ = some (.slice A1_2 l1_2.length c1_2) := (blk_cell BK123.out 2).trans rfl; have hfz20_0 := blk_frozen BK123.out 0; have hfz20_1 := blk_frozen BK123.out 1; have hfz20_2 := blk_frozen BK123.out 2))
    go_ret
    exact ⟨by first | rfl | (simp [errW_none, errW_some] <;> rfl) | (simp [*, errW_none, errW_some] <;> rfl), by repeat (first | (with_reducible first | exact HB.out | apply below_alloc | apply pw_below_drewN | apply below_drew1 | refine below_set ?_ GE122.out | refine below_set ?_ GE123.out) | exact HB.out)⟩
end Go.Proofs.Ytandlemjjlamoaa.P

namespace Go.Proofs.Ytandlemjjlamoaa.P
open Go.RowKit Go.Proofs.YtandlemjjlamoaaW.PrintWords Go.Proofs.YtandlemjjlamoaaW.PrintLast Go.Proofs.YtandlemjjlamoaaW.PrintMore
attribute [local go_sem] max2_int min2_int max_two min_two max_three min_three max_four min_four   -- for this text's walks alone
set_option linter.unusedVariables false
set_option linter.unusedSimpArgs false
mutual
def towncrierref06_Valid.j0 : Nat → Bool → ByteArray → Int → List (SField) → ByteArray → Int → List (SValue) → Option (Int)
  | 0, _, _, _, _, _, _, _ => none
  | k + 1, x17, x134000, x134001, x134002, x135000, x135001, x135002 => if x17 = true then (some 1) else (if x134000.toList = x135000.toList then (if (x134002.length : Int) = (x135002.length : Int) then (towncrierref06_Valid.l0 k 0 x134000 x134001 x134002 x135000 x135001 x135002) else (some 5)) else (some 3))
def towncrierref06_Valid.l0 : Nat → Int → ByteArray → Int → List (SField) → ByteArray → Int → List (SValue) → Option (Int)
  | 0, _, _, _, _, _, _, _ => none
  | k + 1, x7, x134000, x134001, x134002, x135000, x135001, x135002 => if x7 < (x134002.length : Int) then (if 0 ≤ x7 then (if x7 < (x135002.length : Int) then (if ((rd_TField x134002 x7).f1) = ((rd_TValue x135002 x7).f0) then (towncrierref06_Valid.l0 k (wrap64 (x7 + 1)) x134000 x134001 x134002 x135000 x135001 x135002) else (some 5)) else (none)) else (none)) else (some 0)
end
def towncrierref06_Valid.f (k : Nat) (a0_0 : ByteArray) (a0_1 : Int) (l0_2 : List (SField)) (a1_0 : ByteArray) (a1_1 : Int) (l1_2 : List (SValue)) : Option (Int) := (towncrierref05_May.f k a0_0 a0_1 l0_2).bind fun t135 => ((towncrierref06_May.f k a1_0 a1_1 l1_2).bind fun t136 => (if t135 = true then (towncrierref06_Valid.j0 k (!t136) a0_0 a0_1 l0_2 a1_0 a1_1 l1_2) else (towncrierref06_Valid.j0 k true a0_0 a0_1 l0_2 a1_0 a1_1 l1_2)))
set_option maxHeartbeats 8000000 in
set_option maxRecDepth 100000 in
theorem towncrierref06_Valid.calls (k : Nat) (a0_0 : ByteArray) (a0_1 : Int) (A0_2 : Option Addr) (c0_2 : Nat) (l0_2 : List (SField)) (a1_0 : ByteArray) (a1_1 : Int) (A1_2 : Option Addr) (c1_2 : Nat) (l1_2 : List (SValue)) (r : Int) (w : World) (hr0_2 : Kd.C kField w A0_2 l0_2.length l0_2) (hc0_2 : l0_2.length ≤ c0_2) (hr1_2 : Kd.C kValue w A1_2 l1_2.length l1_2) (hc1_2 : l1_2.length ≤ c1_2) (h : towncrierref06_Valid.f k a0_0 a0_1 l0_2 a1_0 a1_1 l1_2 = some r) :
    Calls Try.prog 22 #[.agg #[.string a0_0, .int .i64 a0_1, .slice A0_2 l0_2.length c0_2], .agg #[.string a1_0, .int .i64 a1_1, .slice A1_2 l1_2.length c1_2]] w fun e w' => e = .returned (.int .i64 r) ∧ Below w.heap.size w w' := by
  have hu35 := Try.underlying35
  have hu24 := Try.underlying24
  have HR0_2 := Aside0.mk hr0_2
  have HC0_2 := Aside0.mk hc0_2
  clear hr0_2 hc0_2
  have HR1_2 := Aside0.mk hr1_2
  have HC1_2 := Aside0.mk hc1_2
  clear hr1_2 hc1_2
  have HB := Aside0.mk (Below.refl w.heap.size w)
  have H : ((towncrierref05_May.f k a0_0 a0_1 l0_2).bind fun t135 => ((towncrierref06_May.f k a1_0 a1_1 l1_2).bind fun t136 => (if t135 = true then (towncrierref06_Valid.j0 k (!t136) a0_0 a0_1 l0_2 a1_0 a1_1 l1_2) else (towncrierref06_Valid.j0 k true a0_0 a0_1 l0_2 a1_0 a1_1 l1_2)))) = some r := h
  clear h
  replace H := Option.bind_eq_some_iff.mp H
  obtain ⟨t135, A30, H⟩ := H
  replace H : ((towncrierref06_May.f k a1_0 a1_1 l1_2).bind fun t136 => (if t135 = true then (towncrierref06_Valid.j0 k (!t136) a0_0 a0_1 l0_2 a1_0 a1_1 l1_2) else (towncrierref06_Valid.j0 k true a0_0 a0_1 l0_2 a1_0 a1_1 l1_2))) = some r := H
  have A3 := Aside0.mk A30
  clear A30
  replace H := Option.bind_eq_some_iff.mp H
  obtain ⟨t136, A40, H⟩ := H
  replace H : (if t135 = true then (towncrierref06_Valid.j0 k (!t136) a0_0 a0_1 l0_2 a1_0 a1_1 l1_2) else (towncrierref06_Valid.j0 k true a0_0 a0_1 l0_2 a1_0 a1_1 l1_2)) = some r := H
  have A4 := Aside0.mk A40
  clear A40
  have HC5 := Aside0.mk H
  clear H
  go_enter Try.func22, Try.ntmps22
  go_upto_region 3 with (first | ((with_reducible refine gate_dst (N := 2) rfl ?_); refine box_event ?hg (N := 2) ?hd (cs := #[.string a0_0, .int .i64 a0_1, .slice A0_2 l0_2.length c0_2]) (t := 35) ?hr ?_; (case hd => rfl); (case hg => rfl); (case hr => first | (go_simp; done) | (go_simp; rfl)); intro gb133 hg w6 hbox hb; have n0_ := Aside0.mk (below_step (by repeat (first | (with_reducible first | exact HB.out | apply below_alloc | apply pw_below_drewN | apply below_drew1) | exact HB.out)) hb); have n1_ := Aside0.mk (hbox); have n2_ := Aside0.mk ((by rw [hg]; exact (below_size (by repeat (first | (with_reducible first | exact HB.out | apply below_alloc | apply pw_below_drewN | apply below_drew1) | exact HB.out))) : w.heap.size ≤ gb133)); have n3_ := Aside0.mk ((by rw [hg]; exact (below_size (by repeat (first | (with_reducible first | exact HB.out | apply below_alloc | apply pw_below_drewN | apply below_drew1) | exact HB.out))) : w.heap.size ≤ gb133)); clear HB; have HB := n0_; have BK133 := n1_; have GW133 := n2_; have GE133 := n3_; clear n0_ n1_ n2_ n3_; clear hb hbox hg) | ((with_reducible refine gate_dst (N := 3) rfl ?_); refine box_event ?hg (N := 3) ?hd (cs := #[.string a1_0, .int .i64 a1_1, .slice A1_2 l1_2.length c1_2]) (t := 24) ?hr ?_; (case hd => rfl); (case hg => rfl); (case hr => first | (go_simp; done) | (go_simp; rfl)); intro gb134 hg w7 hbox hb; have n0_ := Aside0.mk (blk_below (g := gb133) (o := .cells #[.string a0_0, .int .i64 a0_1, .slice A0_2 l0_2.length c0_2] 35 (0, 0)) (by (with_reducible repeat (first | refine blk_drewN ?_ _ | refine blk_drew ?_ | refine blk_alloc ?_ _)); exact BK133.out) hb); have n1_ := Aside0.mk (below_step (by repeat (first | (with_reducible first | exact HB.out | apply below_alloc | apply pw_below_drewN | apply below_drew1 | refine below_set ?_ GE133.out) | exact HB.out)) hb); have n2_ := Aside0.mk (hbox); have n3_ := Aside0.mk ((by rw [hg]; exact (below_size (by repeat (first | (with_reducible first | exact HB.out | apply below_alloc | apply pw_below_drewN | apply below_drew1 | refine below_set ?_ GE133.out) | exact HB.out))) : w.heap.size ≤ gb134)); have n4_ := Aside0.mk ((by rw [hg]; exact (below_size (by repeat (first | (with_reducible first | exact HB.out | apply below_alloc | apply pw_below_drewN | apply below_drew1 | refine below_set ?_ GE133.out) | exact HB.out))) : w.heap.size ≤ gb134)); have n5_ := Aside0.mk ((by rw [hg]; exact Nat.ne_of_lt (blk_lt (g := gb133) (o := .cells #[.string a0_0, .int .i64 a0_1, .slice A0_2 l0_2.length c0_2] 35 (0, 0)) (by (with_reducible repeat (first | refine blk_drewN ?_ _ | refine blk_drew ?_ | refine blk_alloc ?_ _)); exact BK133.out)) : gb133 ≠ gb134)); have n6_ := Aside0.mk ((by rw [hg]; exact Nat.ne_of_gt (blk_lt (g := gb133) (o := .cells #[.string a0_0, .int .i64 a0_1, .slice A0_2 l0_2.length c0_2] 35 (0, 0)) (by (with_reducible repeat (first | refine blk_drewN ?_ _ | refine blk_drew ?_ | refine blk_alloc ?_ _)); exact BK133.out)) : gb134 ≠ gb133)); clear BK133; clear HB; have BK133 := n0_; have HB := n1_; have BK134 := n2_; have GW134 := n3_; have GE134 := n4_; have NB133_134 := n5_; have NB134_133 := n6_; clear n0_ n1_ n2_ n3_ n4_ n5_ n6_; clear hb hbox hg; have hnb8 := NB133_134.out; have hnc8 := NB134_133.out; have hcz9_0 : w7.cell? ⟨gb133, 0, none⟩ = some (.string a0_0) := (blk_cell BK133.out 0).trans rfl; have hcz9_1 : w7.cell? ⟨gb133, 1, none⟩ = some (.int .i64 a0_1) := (blk_cell BK133.out 1).trans rfl; have hcz9_2 : w7.cell? ⟨gb133, 2, none⟩ = some (.slice A0_2 l0_2.length c0_2) := (blk_cell BK133.out 2).trans rfl; have hfz9_0 := blk_frozen BK133.out 0; have hfz9_1 := blk_frozen BK133.out 1; have hfz9_2 := blk_frozen BK133.out 2) | (go_at_call 46; (with_reducible refine (towncrierref05_May.calls k a0_0 a0_1 _ _ l0_2 t135 _ ?side1 ?side2 A3.out).mono ?_); (case side1 => repeat (first | exact (Kd.C_below HR0_2.out HB.out) | (with_reducible refine Kd.C_alloc ?_ _) | (with_reducible refine Kd.C_drewN ?_ _) | (with_reducible refine Kd.C_drew ?_))); (case side2 => exact HC0_2.out); rintro e w10 ⟨rfl, hb⟩; have n0_ := Aside0.mk (blk_below (g := gb133) (o := .cells #[.string a0_0, .int .i64 a0_1, .slice A0_2 l0_2.length c0_2] 35 (0, 0)) (by (with_reducible repeat (first | refine blk_drewN ?_ _ | refine blk_drew ?_ | refine blk_alloc ?_ _)); exact BK133.out) hb); have n1_ := Aside0.mk (blk_below (g := gb134) (o := .cells #[.string a1_0, .int .i64 a1_1, .slice A1_2 l1_2.length c1_2] 24 (0, 0)) (by (with_reducible repeat (first | refine blk_drewN ?_ _ | refine blk_drew ?_ | refine blk_alloc ?_ _)); exact BK134.out) hb); have n2_ := Aside0.mk (below_step (by repeat (first | (with_reducible first | exact HB.out | apply below_alloc | apply pw_below_drewN | apply below_drew1 | refine below_set ?_ GE133.out | refine below_set ?_ GE134.out) | exact HB.out)) hb); clear BK133; clear BK134; clear HB; have BK133 := n0_; have BK134 := n1_; have HB := n2_; clear n0_ n1_ n2_; (try clear hb); (try clear hb2); (try clear hk); (try clear hi); have hcz11_0 : w10.cell? ⟨gb134, 0, none⟩ = some (.string a1_0) := (blk_cell BK134.out 0).trans rfl; have hcz11_1 : w10.cell? ⟨gb134, 1, none⟩ = some (.int .i64 a1_1) := (blk_cell BK134.out 1).trans rfl; have hcz11_2 : w10.cell? ⟨gb134, 2, none⟩ = some (.slice A1_2 l1_2.length c1_2) := (blk_cell BK134.out 2).trans rfl; have hfz11_0 := blk_frozen BK134.out 0; have hfz11_1 := blk_frozen BK134.out 1; have hfz11_2 := blk_frozen BK134.out 2) | (go_at_call 20; (with_reducible refine (towncrierref06_May.calls k a1_0 a1_1 _ _ l1_2 t136 _ ?side1 ?side2 A4.out).mono ?_); (case side1 => repeat (first | exact (Kd.C_below HR1_2.out HB.out) | (with_reducible refine Kd.C_alloc ?_ _) | (with_reducible refine Kd.C_drewN ?_ _) | (with_reducible refine Kd.C_drew ?_))); (case side2 => exact HC1_2.out); rintro e w12 ⟨rfl, hb⟩; have n0_ := Aside0.mk (blk_below (g := gb133) (o := .cells #[.string a0_0, .int .i64 a0_1, .slice A0_2 l0_2.length c0_2] 35 (0, 0)) (by (with_reducible repeat (first | refine blk_drewN ?_ _ | refine blk_drew ?_ | refine blk_alloc ?_ _)); exact BK133.out) hb); have n1_ := Aside0.mk (blk_below (g := gb134) (o := .cells #[.string a1_0, .int .i64 a1_1, .slice A1_2 l1_2.length c1_2] 24 (0, 0)) (by (with_reducible repeat (first | refine blk_drewN ?_ _ | refine blk_drew ?_ | refine blk_alloc ?_ _)); exact BK134.out) hb); have n2_ := Aside0.mk (below_step (by repeat (first | (with_reducible first | exact HB.out | apply below_alloc | apply pw_below_drewN | apply below_drew1 | refine below_set ?_ GE133.out | refine below_set ?_ GE134.out) | exact HB.out)) hb); clear BK133; clear BK134; clear HB; have BK133 := n0_; have BK134 := n1_; have HB := n2_; clear n0_ n1_ n2_; (try clear hb); (try clear hb2); (try clear hk); (try clear hi)))
  repeat (go_quiet (first | ((with_reducible refine gate_dst (N := 2) rfl ?_); refine box_event ?hg (N := 2) ?hd (cs := #[.string a0_0, .int .i64 a0_1, .slice A0_2 l0_2.length c0_2]) (t := 35) ?hr ?_; (case hd => rfl); (case hg => rfl); (case hr => first | (go_simp; done) | (go_simp; rfl)); intro gb133 hg w6 hbox hb; have n0_ := Aside0.mk (below_step (by repeat (first | (with_reducible first | exact HB.out | apply below_alloc | apply pw_below_drewN | apply below_drew1) | exact HB.out)) hb); have n1_ := Aside0.mk (hbox); have n2_ := Aside0.mk ((by rw [hg]; exact (below_size (by repeat (first | (with_reducible first | exact HB.out | apply below_alloc | apply pw_below_drewN | apply below_drew1) | exact HB.out))) : w.heap.size ≤ gb133)); have n3_ := Aside0.mk ((by rw [hg]; exact (below_size (by repeat (first | (with_reducible first | exact HB.out | apply below_alloc | apply pw_below_drewN | apply below_drew1) | exact HB.out))) : w.heap.size ≤ gb133)); clear HB; have HB := n0_; have BK133 := n1_; have GW133 := n2_; have GE133 := n3_; clear n0_ n1_ n2_ n3_; clear hb hbox hg) | ((with_reducible refine gate_dst (N := 3) rfl ?_); refine box_event ?hg (N := 3) ?hd (cs := #[.string a1_0, .int .i64 a1_1, .slice A1_2 l1_2.length c1_2]) (t := 24) ?hr ?_; (case hd => rfl); (case hg => rfl); (case hr => first | (go_simp; done) | (go_simp; rfl)); intro gb134 hg w7 hbox hb; have n0_ := Aside0.mk (blk_below (g := gb133) (o := .cells #[.string a0_0, .int .i64 a0_1, .slice A0_2 l0_2.length c0_2] 35 (0, 0)) (by (with_reducible repeat (first | refine blk_drewN ?_ _ | refine blk_drew ?_ | refine blk_alloc ?_ _)); exact BK133.out) hb); have n1_ := Aside0.mk (below_step (by repeat (first | (with_reducible first | exact HB.out | apply below_alloc | apply pw_below_drewN | apply below_drew1 | refine below_set ?_ GE133.out) | exact HB.out)) hb); have n2_ := Aside0.mk (hbox); have n3_ := Aside0.mk ((by rw [hg]; exact (below_size (by repeat (first | (with_reducible first | exact HB.out | apply below_alloc | apply pw_below_drewN | apply below_drew1 | refine below_set ?_ GE133.out) | exact HB.out))) : w.heap.size ≤ gb134)); have n4_ := Aside0.mk ((by rw [hg]; exact (below_size (by repeat (first | (with_reducible first | exact HB.out | apply below_alloc | apply pw_below_drewN | apply below_drew1 | refine below_set ?_ GE133.out) | exact HB.out))) : w.heap.size ≤ gb134)); have n5_ := Aside0.mk ((by rw [hg]; exact Nat.ne_of_lt (blk_lt (g := gb133) (o := .cells #[.string a0_0, .int .i64 a0_1, .slice A0_2 l0_2.length c0_2] 35 (0, 0)) (by (with_reducible repeat (first | refine blk_drewN ?_ _ | refine blk_drew ?_ | refine blk_alloc ?_ _)); exact BK133.out)) : gb133 ≠ gb134)); have n6_ := Aside0.mk ((by rw [hg]; exact Nat.ne_of_gt (blk_lt (g := gb133) (o := .cells #[.string a0_0, .int .i64 a0_1, .slice A0_2 l0_2.length c0_2] 35 (0, 0)) (by (with_reducible repeat (first | refine blk_drewN ?_ _ | refine blk_drew ?_ | refine blk_alloc ?_ _)); exact BK133.out)) : gb134 ≠ gb133)); clear BK133; clear HB; have BK133 := n0_; have HB := n1_; have BK134 := n2_; have GW134 := n3_; have GE134 := n4_; have NB133_134 := n5_; have NB134_133 := n6_; clear n0_ n1_ n2_ n3_ n4_ n5_ n6_; clear hb hbox hg; have hnb8 := NB133_134.out; have hnc8 := NB134_133.out; have hcz9_0 : w7.cell? ⟨gb133, 0, none⟩ = some (.string a0_0) := (blk_cell BK133.out 0).trans rfl; have hcz9_1 : w7.cell? ⟨gb133, 1, none⟩ = some (.int .i64 a0_1) := (blk_cell BK133.out 1).trans rfl; have hcz9_2 : w7.cell? ⟨gb133, 2, none⟩ = some (.slice A0_2 l0_2.length c0_2) := (blk_cell BK133.out 2).trans rfl; have hfz9_0 := blk_frozen BK133.out 0; have hfz9_1 := blk_frozen BK133.out 1; have hfz9_2 := blk_frozen BK133.out 2) | (go_at_call 46; (with_reducible refine (towncrierref05_May.calls k a0_0 a0_1 _ _ l0_2 t135 _ ?side1 ?side2 A3.out).mono ?_); (case side1 => repeat (first | exact (Kd.C_below HR0_2.out HB.out) | (with_reducible refine Kd.C_alloc ?_ _) | (with_reducible refine Kd.C_drewN ?_ _) | (with_reducible refine Kd.C_drew ?_))); (case side2 => exact HC0_2.out); rintro e w10 ⟨rfl, hb⟩; have n0_ := Aside0.mk (blk_below (g := gb133) (o := .cells #[.string a0_0, .int .i64 a0_1, .slice A0_2 l0_2.length c0_2] 35 (0, 0)) (by (with_reducible repeat (first | refine blk_drewN ?_ _ | refine blk_drew ?_ | refine blk_alloc ?_ _)); exact BK133.out) hb); have n1_ := Aside0.mk (blk_below (g := gb134) (o := .cells #[.string a1_0, .int .i64 a1_1, .slice A1_2 l1_2.length c1_2] 24 (0, 0)) (by (with_reducible repeat (first | refine blk_drewN ?_ _ | refine blk_drew ?_ | refine blk_alloc ?_ _)); exact BK134.out) hb); have n2_ := Aside0.mk (below_step (by repeat (first | (with_reducible first | exact HB.out | apply below_alloc | apply pw_below_drewN | apply below_drew1 | refine below_set ?_ GE133.out | refine below_set ?_ GE134.out) | exact HB.out)) hb); clear BK133; clear BK134; clear HB; have BK133 := n0_; have BK134 := n1_; have HB := n2_; clear n0_ n1_ n2_; (try clear hb); (try clear hb2); (try clear hk); (try clear hi); have hcz11_0 : w10.cell? ⟨gb134, 0, none⟩ = some (.string a1_0) := (blk_cell BK134.out 0).trans rfl; have hcz11_1 : w10.cell? ⟨gb134, 1, none⟩ = some (.int .i64 a1_1) := (blk_cell BK134.out 1).trans rfl; have hcz11_2 : w10.cell? ⟨gb134, 2, none⟩ = some (.slice A1_2 l1_2.length c1_2) := (blk_cell BK134.out 2).trans rfl; have hfz11_0 := blk_frozen BK134.out 0; have hfz11_1 := blk_frozen BK134.out 1; have hfz11_2 := blk_frozen BK134.out 2) | (go_at_call 20; (with_reducible refine (towncrierref06_May.calls k a1_0 a1_1 _ _ l1_2 t136 _ ?side1 ?side2 A4.out).mono ?_); (case side1 => repeat (first | exact (Kd.C_below HR1_2.out HB.out) | (with_reducible refine Kd.C_alloc ?_ _) | (with_reducible refine Kd.C_drewN ?_ _) | (with_reducible refine Kd.C_drew ?_))); (case side2 => exact HC1_2.out); rintro e w12 ⟨rfl, hb⟩; have n0_ := Aside0.mk (blk_below (g := gb133) (o := .cells #[.string a0_0, .int .i64 a0_1, .slice A0_2 l0_2.length c0_2] 35 (0, 0)) (by (with_reducible repeat (first | refine blk_drewN ?_ _ | refine blk_drew ?_ | refine blk_alloc ?_ _)); exact BK133.out) hb); have n1_ := Aside0.mk (blk_below (g := gb134) (o := .cells #[.string a1_0, .int .i64 a1_1, .slice A1_2 l1_2.length c1_2] 24 (0, 0)) (by (with_reducible repeat (first | refine blk_drewN ?_ _ | refine blk_drew ?_ | refine blk_alloc ?_ _)); exact BK134.out) hb); have n2_ := Aside0.mk (below_step (by repeat (first | (with_reducible first | exact HB.out | apply below_alloc | apply pw_below_drewN | apply below_drew1 | refine below_set ?_ GE133.out | refine below_set ?_ GE134.out) | exact HB.out)) hb); clear BK133; clear BK134; clear HB; have BK133 := n0_; have BK134 := n1_; have HB := n2_; clear n0_ n1_ n2_; (try clear hb); (try clear hb2); (try clear hk); (try clear hi))); go_upto_region 3 with (first | ((with_reducible refine gate_dst (N := 2) rfl ?_); refine box_event ?hg (N := 2) ?hd (cs := #[.string a0_0, .int .i64 a0_1, .slice A0_2 l0_2.length c0_2]) (t := 35) ?hr ?_; (case hd => rfl); (case hg => rfl); (case hr => first | (go_simp; done) | (go_simp; rfl)); intro gb133 hg w6 hbox hb; have n0_ := Aside0.mk (below_step (by repeat (first | (with_reducible first | exact HB.out | apply below_alloc | apply pw_below_drewN | apply below_drew1) | exact HB.out)) hb); have n1_ := Aside0.mk (hbox); have n2_ := Aside0.mk ((by rw [hg]; exact (below_size (by repeat (first | (with_reducible first | exact HB.out | apply below_alloc | apply pw_below_drewN | apply below_drew1) | exact HB.out))) : w.heap.size ≤ gb133)); have n3_ := Aside0.mk ((by rw [hg]; exact (below_size (by repeat (first | (with_reducible first | exact HB.out | apply below_alloc | apply pw_below_drewN | apply below_drew1) | exact HB.out))) : w.heap.size ≤ gb133)); clear HB; have HB := n0_; have BK133 := n1_; have GW133 := n2_; have GE133 := n3_; clear n0_ n1_ n2_ n3_; clear hb hbox hg) | ((with_reducible refine gate_dst (N := 3) rfl ?_); refine box_event ?hg (N := 3) ?hd (cs := #[.string a1_0, .int .i64 a1_1, .slice A1_2 l1_2.length c1_2]) (t := 24) ?hr ?_; (case hd => rfl); (case hg => rfl); (case hr => first | (go_simp; done) | (go_simp; rfl)); intro gb134 hg w7 hbox hb; have n0_ := Aside0.mk (blk_below (g := gb133) (o := .cells #[.string a0_0, .int .i64 a0_1, .slice A0_2 l0_2.length c0_2] 35 (0, 0)) (by (with_reducible repeat (first | refine blk_drewN ?_ _ | refine blk_drew ?_ | refine blk_alloc ?_ _)); exact BK133.out) hb); have n1_ := Aside0.mk (below_step (by repeat (first | (with_reducible first | exact HB.out | apply below_alloc | apply pw_below_drewN | apply below_drew1 | refine below_set ?_ GE133.out) | exact HB.out)) hb); have n2_ := Aside0.mk (hbox); have n3_ := Aside0.mk ((by rw [hg]; exact (below_size (by repeat (first | (with_reducible first | exact HB.out | apply below_alloc | apply pw_below_drewN | apply below_drew1 | refine below_set ?_ GE133.out) | exact HB.out))) : w.heap.size ≤ gb134)); have n4_ := Aside0.mk ((by rw [hg]; exact (below_size (by repeat (first | (with_reducible first | exact HB.out | apply below_alloc | apply pw_below_drewN | apply below_drew1 | refine below_set ?_ GE133.out) | exact HB.out))) : w.heap.size ≤ gb134)); have n5_ := Aside0.mk ((by rw [hg]; exact Nat.ne_of_lt (blk_lt (g := gb133) (o := .cells #[.string a0_0, .int .i64 a0_1, .slice A0_2 l0_2.length c0_2] 35 (0, 0)) (by (with_reducible repeat (first | refine blk_drewN ?_ _ | refine blk_drew ?_ | refine blk_alloc ?_ _)); exact BK133.out)) : gb133 ≠ gb134)); have n6_ := Aside0.mk ((by rw [hg]; exact Nat.ne_of_gt (blk_lt (g := gb133) (o := .cells #[.string a0_0, .int .i64 a0_1, .slice A0_2 l0_2.length c0_2] 35 (0, 0)) (by (with_reducible repeat (first | refine blk_drewN ?_ _ | refine blk_drew ?_ | refine blk_alloc ?_ _)); exact BK133.out)) : gb134 ≠ gb133)); clear BK133; clear HB; have BK133 := n0_; have HB := n1_; have BK134 := n2_; have GW134 := n3_; have GE134 := n4_; have NB133_134 := n5_; have NB134_133 := n6_; clear n0_ n1_ n2_ n3_ n4_ n5_ n6_; clear hb hbox hg; have hnb8 := NB133_134.out; have hnc8 := NB134_133.out; have hcz9_0 : w7.cell? ⟨gb133, 0, none⟩ = some (.string a0_0) := (blk_cell BK133.out 0).trans rfl; have hcz9_1 : w7.cell? ⟨gb133, 1, none⟩ = some (.int .i64 a0_1) := (blk_cell BK133.out 1).trans rfl; have hcz9_2 : w7.cell? ⟨gb133, 2, none⟩ = some (.slice A0_2 l0_2.length c0_2) := (blk_cell BK133.out 2).trans rfl; have hfz9_0 := blk_frozen BK133.out 0; have hfz9_1 := blk_frozen BK133.out 1; have hfz9_2 := blk_frozen BK133.out 2) | (go_at_call 46; (with_reducible refine (towncrierref05_May.calls k a0_0 a0_1 _ _ l0_2 t135 _ ?side1 ?side2 A3.out).mono ?_); (case side1 => repeat (first | exact (Kd.C_below HR0_2.out HB.out) | (with_reducible refine Kd.C_alloc ?_ _) | (with_reducible refine Kd.C_drewN ?_ _) | (with_reducible refine Kd.C_drew ?_))); (case side2 => exact HC0_2.out); rintro e w10 ⟨rfl, hb⟩; have n0_ := Aside0.mk (blk_below (g := gb133) (o := .cells #[.string a0_0, .int .i64 a0_1, .slice A0_2 l0_2.length c0_2] 35 (0, 0)) (by (with_reducible repeat (first | refine blk_drewN ?_ _ | refine blk_drew ?_ | refine blk_alloc ?_ _)); exact BK133.out) hb); have n1_ := Aside0.mk (blk_below (g := gb134) (o := .cells #[.string a1_0, .int .i64 a1_1, .slice A1_2 l1_2.length c1_2] 24 (0, 0)) (by (with_reducible repeat (first | refine blk_drewN ?_ _ | refine blk_drew ?_ | refine blk_alloc ?_ _)); exact BK134.out) hb); have n2_ := Aside0.mk (below_step (by repeat (first | (with_reducible first | exact HB.out | apply below_alloc | apply pw_below_drewN | apply below_drew1 | refine below_set ?_ GE133.out | refine below_set ?_ GE134.out) | exact HB.out)) hb); clear BK133; clear BK134; clear HB; have BK133 := n0_; have BK134 := n1_; have HB := n2_; clear n0_ n1_ n2_; (try clear hb); (try clear hb2); (try clear hk); (try clear hi); have hcz11_0 : w10.cell? ⟨gb134, 0, none⟩ = some (.string a1_0) := (blk_cell BK134.out 0).trans rfl; have hcz11_1 : w10.cell? ⟨gb134, 1, none⟩ = some (.int .i64 a1_1) := (blk_cell BK134.out 1).trans rfl; have hcz11_2 : w10.cell? ⟨gb134, 2, none⟩ = some (.slice A1_2 l1_2.length c1_2) := (blk_cell BK134.out 2).trans rfl; have hfz11_0 := blk_frozen BK134.out 0; have hfz11_1 := blk_frozen BK134.out 1; have hfz11_2 := blk_frozen BK134.out 2) | (go_at_call 20; (with_reducible refine (towncrierref06_May.calls k a1_0 a1_1 _ _ l1_2 t136 _ ?side1 ?side2 A4.out).mono ?_); (case side1 => repeat (first | exact (Kd.C_below HR1_2.out HB.out) | (with_reducible refine Kd.C_alloc ?_ _) | (with_reducible refine Kd.C_drewN ?_ _) | (with_reducible refine Kd.C_drew ?_))); (case side2 => exact HC1_2.out); rintro e w12 ⟨rfl, hb⟩; have n0_ := Aside0.mk (blk_below (g := gb133) (o := .cells #[.string a0_0, .int .i64 a0_1, .slice A0_2 l0_2.length c0_2] 35 (0, 0)) (by (with_reducible repeat (first | refine blk_drewN ?_ _ | refine blk_drew ?_ | refine blk_alloc ?_ _)); exact BK133.out) hb); have n1_ := Aside0.mk (blk_below (g := gb134) (o := .cells #[.string a1_0, .int .i64 a1_1, .slice A1_2 l1_2.length c1_2] 24 (0, 0)) (by (with_reducible repeat (first | refine blk_drewN ?_ _ | refine blk_drew ?_ | refine blk_alloc ?_ _)); exact BK134.out) hb); have n2_ := Aside0.mk (below_step (by repeat (first | (with_reducible first | exact HB.out | apply below_alloc | apply pw_below_drewN | apply below_drew1 | refine below_set ?_ GE133.out | refine below_set ?_ GE134.out) | exact HB.out)) hb); clear BK133; clear BK134; clear HB; have BK133 := n0_; have BK134 := n1_; have HB := n2_; clear n0_ n1_ n2_; (try clear hb); (try clear hb2); (try clear hk); (try clear hi))))
  (try simp only [Act.put, List.setIfInBounds_toArray, List.set_cons_zero, List.set_cons_succ])
  go_cut [17] (fun v17 wc => ∃ (kq : Nat) (x17_4 : Bool), v17 = .bool x17_4 ∧ Aside0 (towncrierref06_Valid.j0 kq x17_4 a0_0 a0_1 l0_2 a1_0 a1_1 l1_2 = some r) ∧ Aside0 (kq ≤ k) ∧ Aside0 (wc.heap[gb133]? = some (.cells #[.string a0_0, .int .i64 a0_1, (.slice A0_2 l0_2.length c0_2)] 35 (0, 0))) ∧ Aside0 (wc.heap[gb134]? = some (.cells #[.string a1_0, .int .i64 a1_1, (.slice A1_2 l1_2.length c1_2)] 24 (0, 0))) ∧ Aside0 (Below w.heap.size w wc))
  case first =>
    have H := HC5.out
    clear HC5
    by_cases c13 : t135 = true
    · subst c13
      have H1 : (towncrierref06_Valid.j0 k (!t136) a0_0 a0_1 l0_2 a1_0 a1_1 l1_2) = some r := by rw [if_pos rfl] at H; exact H
      clear H
      have H := H1
      clear H1
      have H' := Aside0.mk H
      clear H
      go_wp2
      repeat (go_quiet (fail); try go_wp2)
      go_meet
      case rel => exact ⟨_, (!t136), (by first | rfl | (simp; done) | (simp [*]; done)), H', ⟨by first | omega | exact Nat.le_refl _⟩, ⟨by (with_reducible repeat (first | refine blk_drewN ?_ _ | refine blk_drew ?_ | refine blk_alloc ?_ _)); exact BK133.out⟩, ⟨by (with_reducible repeat (first | refine blk_drewN ?_ _ | refine blk_drew ?_ | refine blk_alloc ?_ _)); exact BK134.out⟩, ⟨by repeat (first | (with_reducible first | exact HB.out | apply below_alloc | apply pw_below_drewN | apply below_drew1 | refine below_set ?_ GE133.out | refine below_set ?_ GE134.out) | exact HB.out)⟩⟩
    · replace c13 := Bool.eq_false_iff.mpr c13
      subst c13
      have H1 : (towncrierref06_Valid.j0 k true a0_0 a0_1 l0_2 a1_0 a1_1 l1_2) = some r := by rw [if_neg (show ¬ (false = true) by decide)] at H; exact H
      clear H
      have H := H1
      clear H1
      have H' := Aside0.mk H
      clear H
      go_wp2
      repeat (go_quiet (fail); try go_wp2)
      go_meet
      case rel => exact ⟨_, (true), (by first | rfl | (simp; done) | (simp [*]; done)), H', ⟨by first | omega | exact Nat.le_refl _⟩, ⟨by (with_reducible repeat (first | refine blk_drewN ?_ _ | refine blk_drew ?_ | refine blk_alloc ?_ _)); exact BK133.out⟩, ⟨by (with_reducible repeat (first | refine blk_drewN ?_ _ | refine blk_drew ?_ | refine blk_alloc ?_ _)); exact BK134.out⟩, ⟨by repeat (first | (with_reducible first | exact HB.out | apply below_alloc | apply pw_below_drewN | apply below_drew1 | refine below_set ?_ GE133.out | refine below_set ?_ GE134.out) | exact HB.out)⟩⟩
  case rest =>
    clear HC5
    try clear c1
    try clear c2
    try clear p2
    try clear c8
    try clear c13
    try clear hcz11_0
    try clear hcz11_1
    try clear hcz11_2
    try clear hcz9_0
    try clear hcz9_1
    try clear hcz9_2
    try clear hfz11_0
    try clear hfz11_1
    try clear hfz11_2
    try clear hfz9_0
    try clear hfz9_1
    try clear hfz9_2
    obtain ⟨kq, x17_4, rfl, HA, HJ4, BK133, BK134, HB⟩ := hcut
    cases kq with
    | zero => exact absurd HA.out (by simp [towncrierref06_Valid.j0])
    | succ kj4 =>
      have H := HA.out
      clear HA
      simp only [towncrierref06_Valid.j0] at H
      by_cases c14 : x17_4 = true
      · subst c14
        have H1 : (some 1) = some r := by rw [if_pos rfl] at H; exact H
        clear H
        have H := H1
        clear H1
        obtain rfl := Option.some.inj H
        go_wp2
        repeat (go_quiet (fail); try go_wp2)
        go_ret
        exact ⟨by first | rfl | (simp [errW_none, errW_some] <;> rfl) | (simp [*, errW_none, errW_some] <;> rfl), by repeat (first | (with_reducible first | exact HB.out | apply below_alloc | apply pw_below_drewN | apply below_drew1 | refine below_set ?_ GE133.out | refine below_set ?_ GE134.out) | exact HB.out)⟩
      · replace c14 := Bool.eq_false_iff.mpr c14
        subst c14
        have H1 : (if a0_0.toList = a1_0.toList then (if (l0_2.length : Int) = (l1_2.length : Int) then (towncrierref06_Valid.l0 kj4 0 a0_0 a0_1 l0_2 a1_0 a1_1 l1_2) else (some 5)) else (some 3)) = some r := by rw [if_neg (show ¬ (false = true) by decide)] at H; exact H
        clear H
        have H := H1
        clear H1
        by_cases c15 : a0_0.toList = a1_0.toList
        · rw [if_pos c15] at H
          have c15b0 : (a0_0.toList == a1_0.toList) = true := beq_iff_eq.mpr c15
          have c15b1 : (a0_0.toList != a1_0.toList) = false := bne_eq_false_iff_eq.mpr c15
          clear c15
          by_cases c16 : (l0_2.length : Int) = (l1_2.length : Int)
          · rw [if_pos c16] at H
            have c16b0 : ((l0_2.length : Int) == (l1_2.length : Int)) = true := beq_iff_eq.mpr c16
            have c16b1 : ((l0_2.length : Int) != (l1_2.length : Int)) = false := bne_eq_false_iff_eq.mpr c16
            have c16b2 : (l0_2.length == l1_2.length) = true := by first | simpa using c16 | (simp at c16 ⊢; omega)
            clear c16
            have H' := Aside0.mk H
            clear H
            have hnb17 := NB133_134.out
            have hnc17 := NB134_133.out
            have hcz18_0 : wc.cell? ⟨gb133, 0, none⟩ = some (.string a0_0) := (blk_cell BK133.out 0).trans rfl
            have hcz18_1 : wc.cell? ⟨gb133, 1, none⟩ = some (.int .i64 a0_1) := (blk_cell BK133.out 1).trans rfl
            have hcz18_2 : wc.cell? ⟨gb133, 2, none⟩ = some (.slice A0_2 l0_2.length c0_2) := (blk_cell BK133.out 2).trans rfl
            have hfz18_0 := blk_frozen BK133.out 0
            have hfz18_1 := blk_frozen BK133.out 1
            have hfz18_2 := blk_frozen BK133.out 2
            have hcz19_0 : wc.cell? ⟨gb134, 0, none⟩ = some (.string a1_0) := (blk_cell BK134.out 0).trans rfl
            have hcz19_1 : wc.cell? ⟨gb134, 1, none⟩ = some (.int .i64 a1_1) := (blk_cell BK134.out 1).trans rfl
            have hcz19_2 : wc.cell? ⟨gb134, 2, none⟩ = some (.slice A1_2 l1_2.length c1_2) := (blk_cell BK134.out 2).trans rfl
            have hfz19_0 := blk_frozen BK134.out 0
            have hfz19_1 := blk_frozen BK134.out 1
            have hfz19_2 := blk_frozen BK134.out 2
            go_wp2
            repeat (go_quiet (fail); try go_wp2)
            go_loopg [7] kj4 (fun kq v7 w' => ∃ (x7_2 : Int), v7 = .int .i64 x7_2 ∧ Aside0 (towncrierref06_Valid.l0 kq x7_2 a0_0 a0_1 l0_2 a1_0 a1_1 l1_2 = some r) ∧ Aside0 (kq ≤ kj4) ∧ Aside0 (w'.heap[gb133]? = some (.cells #[.string a0_0, .int .i64 a0_1, (.slice A0_2 l0_2.length c0_2)] 35 (0, 0))) ∧ Aside0 (w'.heap[gb134]? = some (.cells #[.string a1_0, .int .i64 a1_1, (.slice A1_2 l1_2.length c1_2)] 24 (0, 0))) ∧ Aside0 (Below w.heap.size w w'))
            case atStart => exact ⟨(0), (by first | rfl | (simp; done) | (simp [*]; done)), H', ⟨Nat.le_refl _⟩, ⟨by (with_reducible repeat (first | refine blk_drewN ?_ _ | refine blk_drew ?_ | refine blk_alloc ?_ _)); exact BK133.out⟩, ⟨by (with_reducible repeat (first | refine blk_drewN ?_ _ | refine blk_drew ?_ | refine blk_alloc ?_ _)); exact BK134.out⟩, ⟨by repeat (first | (with_reducible first | exact HB.out | apply below_alloc | apply pw_below_drewN | apply below_drew1 | refine below_set ?_ GE133.out | refine below_set ?_ GE134.out) | exact HB.out)⟩⟩
            case round =>
              clear H'
              try clear c1
              try clear c2
              try clear p2
              try clear c8
              try clear c13
              try clear c14
              try clear c15
              try clear c15b0
              try clear c15b1
              try clear c16
              try clear c16b0
              try clear c16b1
              try clear c16b2
              try clear c17
              try clear hcz11_0
              try clear hcz11_1
              try clear hcz11_2
              try clear hcz18_0
              try clear hcz18_1
              try clear hcz18_2
              try clear hcz19_0
              try clear hcz19_1
              try clear hcz19_2
              try clear hcz9_0
              try clear hcz9_1
              try clear hcz9_2
              try clear hfz11_0
              try clear hfz11_1
              try clear hfz11_2
              try clear hfz18_0
              try clear hfz18_1
              try clear hfz18_2
              try clear hfz19_0
              try clear hfz19_1
              try clear hfz19_2
              try clear hfz9_0
              try clear hfz9_1
              try clear hfz9_2
              try clear p2
              obtain ⟨x7_2, rfl, HA, HK2, BK133, BK134, HB⟩ := hrel
              cases gk with
              | zero => exact absurd HA.out (by simp [towncrierref06_Valid.l0])
              | succ k2 =>
                have H := HA.out
                clear HA
                simp only [towncrierref06_Valid.l0] at H
                by_cases c20 : x7_2 < (l0_2.length : Int)
                · rw [if_pos c20] at H
                  have c20b0 : decide (x7_2 < (l0_2.length : Int)) = true := decide_eq_true c20
                  clear c20
                  by_cases c21 : 0 ≤ x7_2
                  · rw [if_pos c21] at H
                    have c21b0 : decide (0 ≤ x7_2) = true := decide_eq_true c21
                    clear c21
                    by_cases c22 : x7_2 < (l1_2.length : Int)
                    · rw [if_pos c22] at H
                      have c22b0 : decide (x7_2 < (l1_2.length : Int)) = true := decide_eq_true c22
                      clear c22
                      by_cases c23 : ((rd_TField l0_2 x7_2).f1) = ((rd_TValue l1_2 x7_2).f0)
                      · rw [if_pos c23] at H
                        have c23b0 : (((rd_TField l0_2 x7_2).f1) == ((rd_TValue l1_2 x7_2).f0)) = true := beq_iff_eq.mpr c23
                        have c23b1 : (((rd_TField l0_2 x7_2).f1) != ((rd_TValue l1_2 x7_2).f0)) = false := bne_eq_false_iff_eq.mpr c23
                        clear c23
                        have H' := Aside0.mk H
                        clear H
                        have hnb24 := NB133_134.out
                        have hnc24 := NB134_133.out
                        have hcz25_0 : wr.cell? ⟨gb133, 0, none⟩ = some (.string a0_0) := (blk_cell BK133.out 0).trans rfl
                        have hcz25_1 : wr.cell? ⟨gb133, 1, none⟩ = some (.int .i64 a0_1) := (blk_cell BK133.out 1).trans rfl
                        have hcz25_2 : wr.cell? ⟨gb133, 2, none⟩ = some (.slice A0_2 l0_2.length c0_2) := (blk_cell BK133.out 2).trans rfl
                        have hfz25_0 := blk_frozen BK133.out 0
                        have hfz25_1 := blk_frozen BK133.out 1
                        have hfz25_2 := blk_frozen BK133.out 2
                        have p137 : 0 ≤ (x7_2 : Int) := of_decide_eq_true (by first | (with_reducible assumption) | assumption)
                        have q137 : x7_2 < (l0_2.length : Int) := of_decide_eq_true (by first | (with_reducible assumption) | assumption)
                        obtain ⟨ad137, e137, hx137_0, hx137_1⟩ := at_TField HR0_2.out x7_2 p137 q137
                        cases e137
                        replace hx137_0 := (HB.out.cell (World.block_lt_of_cell? w _ hx137_0)).trans hx137_0
                        replace hx137_1 := (HB.out.cell (World.block_lt_of_cell? w _ hx137_1)).trans hx137_1
                        replace p137 := eq_true p137
                        replace q137 := eq_true q137
                        have hcz26_0 : wr.cell? ⟨gb134, 0, none⟩ = some (.string a1_0) := (blk_cell BK134.out 0).trans rfl
                        have hcz26_1 : wr.cell? ⟨gb134, 1, none⟩ = some (.int .i64 a1_1) := (blk_cell BK134.out 1).trans rfl
                        have hcz26_2 : wr.cell? ⟨gb134, 2, none⟩ = some (.slice A1_2 l1_2.length c1_2) := (blk_cell BK134.out 2).trans rfl
                        have hfz26_0 := blk_frozen BK134.out 0
                        have hfz26_1 := blk_frozen BK134.out 1
                        have hfz26_2 := blk_frozen BK134.out 2
                        have p138 : 0 ≤ (x7_2 : Int) := of_decide_eq_true (by first | (with_reducible assumption) | assumption)
                        have q138 : x7_2 < (l1_2.length : Int) := of_decide_eq_true (by first | (with_reducible assumption) | assumption)
                        obtain ⟨ad138, e138, hx138_0, hx138_1, hx138_2⟩ := at_TValue HR1_2.out x7_2 p138 q138
                        cases e138
                        replace hx138_0 := (HB.out.cell (World.block_lt_of_cell? w _ hx138_0)).trans hx138_0
                        replace hx138_1 := (HB.out.cell (World.block_lt_of_cell? w _ hx138_1)).trans hx138_1
                        replace hx138_2 := (HB.out.cell (World.block_lt_of_cell? w _ hx138_2)).trans hx138_2
                        replace p138 := eq_true p138
                        replace q138 := eq_true q138
                        go_wp2
                        repeat (go_quiet (fail); try go_wp2)
                        go_roundg k2
                        case measure => have := HJ4.out; have := HK2.out; omega
                        case rel => exact ⟨(wrap64 (x7_2 + 1)), (by first | rfl | (simp; done) | (simp [*]; done)), H', ⟨by have := HJ4.out; have := HK2.out; omega⟩, ⟨by (with_reducible repeat (first | refine blk_drewN ?_ _ | refine blk_drew ?_ | refine blk_alloc ?_ _)); exact BK133.out⟩, ⟨by (with_reducible repeat (first | refine blk_drewN ?_ _ | refine blk_drew ?_ | refine blk_alloc ?_ _)); exact BK134.out⟩, ⟨by repeat (first | (with_reducible first | exact HB.out | apply below_alloc | apply pw_below_drewN | apply below_drew1 | refine below_set ?_ GE133.out | refine below_set ?_ GE134.out) | exact HB.out)⟩⟩
                      · rw [if_neg c23] at H
                        have c23b0 : (((rd_TField l0_2 x7_2).f1) == ((rd_TValue l1_2 x7_2).f0)) = false := beq_eq_false_iff_ne.mpr c23
                        have c23b1 : (((rd_TField l0_2 x7_2).f1) != ((rd_TValue l1_2 x7_2).f0)) = true := bne_iff_ne.mpr c23
                        obtain rfl := Option.some.inj H
                        have hnb27 := NB133_134.out
                        have hnc27 := NB134_133.out
                        have hcz28_0 : wr.cell? ⟨gb133, 0, none⟩ = some (.string a0_0) := (blk_cell BK133.out 0).trans rfl
                        have hcz28_1 : wr.cell? ⟨gb133, 1, none⟩ = some (.int .i64 a0_1) := (blk_cell BK133.out 1).trans rfl
                        have hcz28_2 : wr.cell? ⟨gb133, 2, none⟩ = some (.slice A0_2 l0_2.length c0_2) := (blk_cell BK133.out 2).trans rfl
                        have hfz28_0 := blk_frozen BK133.out 0
                        have hfz28_1 := blk_frozen BK133.out 1
                        have hfz28_2 := blk_frozen BK133.out 2
                        have p137 : 0 ≤ (x7_2 : Int) := of_decide_eq_true (by first | (with_reducible assumption) | assumption)
                        have q137 : x7_2 < (l0_2.length : Int) := of_decide_eq_true (by first | (with_reducible assumption) | assumption)
                        obtain ⟨ad137, e137, hx137_0, hx137_1⟩ := at_TField HR0_2.out x7_2 p137 q137
                        cases e137
                        replace hx137_0 := (HB.out.cell (World.block_lt_of_cell? w _ hx137_0)).trans hx137_0
                        replace hx137_1 := (HB.out.cell (World.block_lt_of_cell? w _ hx137_1)).trans hx137_1
                        replace p137 := eq_true p137
                        replace q137 := eq_true q137
                        have hcz29_0 : wr.cell? ⟨gb134, 0, none⟩ = some (.string a1_0) := (blk_cell BK134.out 0).trans rfl
                        have hcz29_1 : wr.cell? ⟨gb134, 1, none⟩ = some (.int .i64 a1_1) := (blk_cell BK134.out 1).trans rfl
                        have hcz29_2 : wr.cell? ⟨gb134, 2, none⟩ = some (.slice A1_2 l1_2.length c1_2) := (blk_cell BK134.out 2).trans rfl
                        have hfz29_0 := blk_frozen BK134.out 0
                        have hfz29_1 := blk_frozen BK134.out 1
                        have hfz29_2 := blk_frozen BK134.out 2
                        have p138 : 0 ≤ (x7_2 : Int) := of_decide_eq_true (by first | (with_reducible assumption) | assumption)
                        have q138 : x7_2 < (l1_2.length : Int) := of_decide_eq_true (by first | (with_reducible assumption) | assumption)
                        obtain ⟨ad138, e138, hx138_0, hx138_1, hx138_2⟩ := at_TValue HR1_2.out x7_2 p138 q138
                        cases e138
                        replace hx138_0 := (HB.out.cell (World.block_lt_of_cell? w _ hx138_0)).trans hx138_0
                        replace hx138_1 := (HB.out.cell (World.block_lt_of_cell? w _ hx138_1)).trans hx138_1
                        replace hx138_2 := (HB.out.cell (World.block_lt_of_cell? w _ hx138_2)).trans hx138_2
                        replace p138 := eq_true p138
                        replace q138 := eq_true q138
                        go_wp2
                        repeat (go_quiet (fail); try go_wp2)
                        go_ret
                        exact ⟨by first | rfl | (simp [errW_none, errW_some] <;> rfl) | (simp [*, errW_none, errW_some] <;> rfl), by repeat (first | (with_reducible first | exact HB.out | apply below_alloc | apply pw_below_drewN | apply below_drew1 | refine below_set ?_ GE133.out | refine below_set ?_ GE134.out) | exact HB.out)⟩
                    · rw [if_neg c22] at H
                      exact absurd H (by simp)
                  · rw [if_neg c21] at H
                    exact absurd H (by simp)
                · rw [if_neg c20] at H
                  have c20b0 : decide (x7_2 < (l0_2.length : Int)) = false := decide_eq_false c20
                  clear c20
                  obtain rfl := Option.some.inj H
                  have hnb30 := NB133_134.out
                  have hnc30 := NB134_133.out
                  have hcz31_0 : wr.cell? ⟨gb133, 0, none⟩ = some (.string a0_0) := (blk_cell BK133.out 0).trans rfl
                  have hcz31_1 : wr.cell? ⟨gb133, 1, none⟩ = some (.int .i64 a0_1) := (blk_cell BK133.out 1).trans rfl
                  have hcz31_2 : wr.cell? ⟨gb133, 2, none⟩ = some (.slice A0_2 l0_2.length c0_2) := (blk_cell BK133.out 2).trans rfl
                  have hfz31_0 := blk_frozen BK133.out 0
                  have hfz31_1 := blk_frozen BK133.out 1
                  have hfz31_2 := blk_frozen BK133.out 2
                  go_wp2
                  repeat (go_quiet (fail); try go_wp2)
                  go_ret
                  exact ⟨by first | rfl | (simp [errW_none, errW_some] <;> rfl) | (simp [*, errW_none, errW_some] <;> rfl), by repeat (first | (with_reducible first | exact HB.out | apply below_alloc | apply pw_below_drewN | apply below_drew1 | refine below_set ?_ GE133.out | refine below_set ?_ GE134.out) | exact HB.out)⟩
          · rw [if_neg c16] at H
            have c16b0 : ((l0_2.length : Int) == (l1_2.length : Int)) = false := beq_eq_false_iff_ne.mpr c16
            have c16b1 : ((l0_2.length : Int) != (l1_2.length : Int)) = true := bne_iff_ne.mpr c16
            have c16b2 : (l0_2.length == l1_2.length) = false := by first | simpa using c16 | (simp at c16 ⊢; omega)
            obtain rfl := Option.some.inj H
            have hnb32 := NB133_134.out
            have hnc32 := NB134_133.out
            have hcz33_0 : wc.cell? ⟨gb133, 0, none⟩ = some (.string a0_0) := (blk_cell BK133.out 0).trans rfl
            have hcz33_1 : wc.cell? ⟨gb133, 1, none⟩ = some (.int .i64 a0_1) := (blk_cell BK133.out 1).trans rfl
            have hcz33_2 : wc.cell? ⟨gb133, 2, none⟩ = some (.slice A0_2 l0_2.length c0_2) := (blk_cell BK133.out 2).trans rfl
            have hfz33_0 := blk_frozen BK133.out 0
            have hfz33_1 := blk_frozen BK133.out 1
            have hfz33_2 := blk_frozen BK133.out 2
            have hcz34_0 : wc.cell? ⟨gb134, 0, none⟩ = some (.string a1_0) := (blk_cell BK134.out 0).trans rfl
            have hcz34_1 : wc.cell? ⟨gb134, 1, none⟩ = some (.int .i64 a1_1) := (blk_cell BK134.out 1).trans rfl
            have hcz34_2 : wc.cell? ⟨gb134, 2, none⟩ = some (.slice A1_2 l1_2.length c1_2) := (blk_cell BK134.out 2).trans rfl
            have hfz34_0 := blk_frozen BK134.out 0
            have hfz34_1 := blk_frozen BK134.out 1
            have hfz34_2 := blk_frozen BK134.out 2
            go_wp2
            repeat (go_quiet (fail); try go_wp2)
            go_ret
            exact ⟨by first | rfl | (simp [errW_none, errW_some] <;> rfl) | (simp [*, errW_none, errW_some] <;> rfl), by repeat (first | (with_reducible first | exact HB.out | apply below_alloc | apply pw_below_drewN | apply below_drew1 | refine below_set ?_ GE133.out | refine below_set ?_ GE134.out) | exact HB.out)⟩
        · rw [if_neg c15] at H
          have c15b0 : (a0_0.toList == a1_0.toList) = false := beq_eq_false_iff_ne.mpr c15
          have c15b1 : (a0_0.toList != a1_0.toList) = true := bne_iff_ne.mpr c15
          obtain rfl := Option.some.inj H
          have hnb35 := NB133_134.out
          have hnc35 := NB134_133.out
          have hcz36_0 : wc.cell? ⟨gb133, 0, none⟩ = some (.string a0_0) := (blk_cell BK133.out 0).trans rfl
          have hcz36_1 : wc.cell? ⟨gb133, 1, none⟩ = some (.int .i64 a0_1) := (blk_cell BK133.out 1).trans rfl
          have hcz36_2 : wc.cell? ⟨gb133, 2, none⟩ = some (.slice A0_2 l0_2.length c0_2) := (blk_cell BK133.out 2).trans rfl
          have hfz36_0 := blk_frozen BK133.out 0
          have hfz36_1 := blk_frozen BK133.out 1
          have hfz36_2 := blk_frozen BK133.out 2
          have hcz37_0 : wc.cell? ⟨gb134, 0, none⟩ = some (.string a1_0) := (blk_cell BK134.out 0).trans rfl
          have hcz37_1 : wc.cell? ⟨gb134, 1, none⟩ = some (.int .i64 a1_1) := (blk_cell BK134.out 1).trans rfl
          have hcz37_2 : wc.cell? ⟨gb134, 2, none⟩ = some (.slice A1_2 l1_2.length c1_2) := (blk_cell BK134.out 2).trans rfl
          have hfz37_0 := blk_frozen BK134.out 0
          have hfz37_1 := blk_frozen BK134.out 1
          have hfz37_2 := blk_frozen BK134.out 2
          go_wp2
          repeat (go_quiet (fail); try go_wp2)
          go_ret
          exact ⟨by first | rfl | (simp [errW_none, errW_some] <;> rfl) | (simp [*, errW_none, errW_some] <;> rfl), by repeat (first | (with_reducible first | exact HB.out | apply below_alloc | apply pw_below_drewN | apply below_drew1 | refine below_set ?_ GE133.out | refine below_set ?_ GE134.out) | exact HB.out)⟩
end Go.Proofs.Ytandlemjjlamoaa.P

namespace Go.Proofs.Ytandlemjjlamoaa.P
open Go.RowKit Go.Proofs.YtandlemjjlamoaaW.PrintWords Go.Proofs.YtandlemjjlamoaaW.PrintLast Go.Proofs.YtandlemjjlamoaaW.PrintMore
set_option linter.unusedVariables false
theorem i64V_of {v : SValue} (h : wfValue v) : i64V v := lit_i64 h.2.1
theorem getV_put {x : SValue} (rest : List Int) (hb : i64V x) (h : mayV x = true) : getV (bytesV x ++ rest) = some (x, (bytesV x).length) := by
  have hn := numV_lt hb h
  have hg : getN ((lePut (numV x) ++ bytesOf x.f2) ++ rest) = some (numV x, (lePut (numV x)).length) := by rw [List.append_assoc]; exact getN_put _ _ hn
  have hl : (bytesV x).length = (lePut (numV x)).length + 1 + x.f2.size := by unfold bytesV; simp [bytesOf_length]; omega
  unfold getV
  rw [show bytesV x ++ rest = x.f0 :: ((lePut (numV x) ++ bytesOf x.f2) ++ rest) from rfl]
  simp only [hg]
  have hm := mayV_iff.1 h
  obtain ⟨k, n, s⟩ := x
  rcases hm with ⟨h0, hs⟩ | ⟨h0, hs, h1, h2⟩ | ⟨h0, h1, h2⟩ | ⟨h0, hs, h1, h2⟩
  · replace h0 : k = 0 := h0
    obtain rfl : s = ⟨#[]⟩ := toList_nil hs
    subst h0
    rw [if_pos rfl, hl, show numV ⟨0, n, ⟨#[]⟩⟩ = zigN n from rfl, zag_zig]
    rfl
  · replace h0 : k = 1 := h0
    obtain rfl : s = ⟨#[]⟩ := toList_nil hs
    subst h0
    replace h1 : 0 ≤ n := h1
    replace h2 : n < 2 := h2
    rw [if_neg (show ¬ (1 : Int) = 0 by decide), if_neg (show ¬ (1 : Int) = 2 by decide), hl, show numV ⟨1, n, ⟨#[]⟩⟩ = n.toNat from rfl, if_pos (.inl ⟨rfl, by omega⟩), Int.toNat_of_nonneg h1]
    rfl
  · replace h0 : k = 2 := h0
    replace h1 : n = 0 := h1
    replace h2 : s.size ≤ 40 := h2
    subst h0
    subst h1
    rw [show numV ⟨2, 0, s⟩ = s.size from rfl] at hl ⊢
    rw [if_neg (show ¬ (2 : Int) = 0 by decide), if_pos rfl, if_pos ⟨h2, by simp only [List.length_append, bytesOf_length]; omega⟩, hl]
    have e : ((lePut s.size ++ bytesOf s ++ rest).drop (lePut s.size).length).take s.size = bytesOf s := by
      rw [List.append_assoc, List.drop_left, ← bytesOf_length s, List.take_left]
    show some ((⟨2, 0, strOfNums (((lePut s.size ++ bytesOf s ++ rest).drop (lePut s.size).length).take s.size)⟩ : SValue), _) = _
    rw [e, str_bytesOf]
  · replace h0 : k = 3 := h0
    obtain rfl : s = ⟨#[]⟩ := toList_nil hs
    subst h0
    replace h1 : 0 ≤ n := h1
    replace h2 : n ≤ 1125899906842624 := h2
    rw [if_neg (show ¬ (3 : Int) = 0 by decide), if_neg (show ¬ (3 : Int) = 2 by decide), hl, show numV ⟨3, n, ⟨#[]⟩⟩ = n.toNat from rfl, if_pos (.inr ⟨rfl, by omega⟩), Int.toNat_of_nonneg h1]
    rfl
theorem getVs_put : ∀ (F : List SValue) (rest : List Int), (∀ v ∈ F, i64V v) → (∀ v ∈ F, mayV v = true) → getVs F.length (valsL F ++ rest) = some (F, (valsL F).length)
  | [], rest, _, _ => by simp [getVs, valsL]
  | v :: F, rest, h, h2 => by
    have e : valsL (v :: F) ++ rest = bytesV v ++ (valsL F ++ rest) := by simp [valsL]
    have e2 : (valsL (v :: F)).length = (bytesV v).length + (valsL F).length := by simp [valsL]
    rw [List.length_cons, getVs, e, getV_put _ (h v (by simp)) (h2 v (by simp))]
    simp only [List.drop_left]
    rw [getVs_put F rest (fun w hw => h w (by simp [hw])) (fun w hw => h2 w (by simp [hw]))]
    simp only [e2]
theorem getRawE_put {x : SEvent} (rest : List Int) (hw : ∀ v ∈ x.f2, i64V v) (h : mayE x = true) : getRawE (bytesE x ++ rest) = some (x, (bytesE x).length) := by
  obtain ⟨hn, h1, h2, h3, h4⟩ := mayE_iff.1 h
  obtain ⟨vn, hv⟩ := Int.eq_ofNat_of_zero_le h1
  have e : bytesE x ++ rest = textL x.f0 ++ (lePut vn ++ (lePut x.f2.length ++ (valsL x.f2 ++ rest))) := by simp [bytesE, hv]
  have hlen : (bytesE x).length = (textL x.f0).length + (lePut vn).length + (lePut x.f2.length).length + (valsL x.f2).length := by simp [bytesE, hv]; omega
  have hd1 : (bytesE x ++ rest).drop (textL x.f0).length = lePut vn ++ (lePut x.f2.length ++ (valsL x.f2 ++ rest)) := by rw [e, List.drop_left]
  have hd2 : (bytesE x ++ rest).drop ((textL x.f0).length + (lePut vn).length) = lePut x.f2.length ++ (valsL x.f2 ++ rest) := by rw [← List.drop_drop, hd1, List.drop_left]
  have hd3 : (bytesE x ++ rest).drop ((textL x.f0).length + (lePut vn).length + (lePut x.f2.length).length) = valsL x.f2 ++ rest := by rw [← List.drop_drop, hd2, List.drop_left]
  unfold getRawE
  rw [show readT (bytesE x ++ rest) 12 = some (bytesOf x.f0, (textL x.f0).length) from by rw [e]; exact readT_put _ (nameB_size hn).2 (by decide)]
  simp only
  unfold contT
  rw [hd1, getM_put _ (by omega) (by decide)]
  simp only
  unfold contN
  rw [hd2, getM_put _ h3 (by decide)]
  simp only
  unfold contE
  rw [hd3, getVs_put x.f2 rest hw h4]
  simp only [List.nil_append, str_bytesOf, hlen, Option.some.injEq, Prod.mk.injEq]
  refine ⟨?_, trivial⟩
  cases x
  simp at hv ⊢
  exact hv.symm
theorem getE_put {x : SEvent} (rest : List Int) (hw : ∀ v ∈ x.f2, i64V v) (h : mayE x = true) : getE (bytesE x ++ rest) = some (x, (bytesE x).length) := by
  unfold getE
  rw [getRawE_put rest hw h]
  simp only
  rw [if_pos h]
def eqV (x y : SValue) : Bool := (x.f0 == y.f0) && ((x.f1 == y.f1) && (x.f2.toList == y.f2.toList))
theorem eqV_iff {x y : SValue} : eqV x y = true ↔ x = y := by
  unfold eqV
  simp only [Bool.and_eq_true, beq_iff_eq]
  constructor
  · rintro ⟨h1, h2, h3⟩
    obtain ⟨a, b, c⟩ := x
    obtain ⟨d, e, f⟩ := y
    obtain rfl : a = d := h1
    obtain rfl : b = e := h2
    obtain rfl : c = f := toList_inj h3
    rfl
  · rintro rfl
    exact ⟨rfl, rfl, rfl⟩
def eqE (x y : SEvent) : Bool := (x.f0.toList == y.f0.toList) && ((x.f1 == y.f1) && eqf eqV zValue x.f2 y.f2)
theorem eqfV_iff {a b : List SValue} : eqf eqV zValue a b = true ↔ a = b := by
  rw [eqf_iff]
  constructor
  · rintro ⟨h1, h2⟩
    refine List.ext_getElem h1 (fun i hi hj => ?_)
    have := eqV_iff.1 (h2 i hi)
    simpa [List.getD, hi, hj] using this
  · rintro rfl
    exact ⟨rfl, fun i _ => eqV_iff.2 rfl⟩
theorem eqE_iff {x y : SEvent} : eqE x y = true ↔ x = y := by
  unfold eqE
  simp only [Bool.and_eq_true, beq_iff_eq, eqfV_iff]
  constructor
  · rintro ⟨h1, h2, h3⟩
    obtain ⟨a, b, c⟩ := x
    obtain ⟨d, e, f⟩ := y
    obtain rfl : a = d := toList_inj h1
    obtain rfl : b = e := h2
    obtain rfl : c = f := h3
    rfl
  · rintro rfl
    exact ⟨rfl, rfl, rfl⟩
theorem eqE_refl (x : SEvent) : eqE x x = true := eqE_iff.2 rfl
theorem neV {x y : SValue} : (!(x.f0 == y.f0) || (!(x.f1 == y.f1) || !(x.f2.toList == y.f2.toList))) = !(eqV x y) := by
  unfold eqV
  cases (x.f0 == y.f0) <;> cases (x.f1 == y.f1) <;> cases (x.f2.toList == y.f2.toList) <;> rfl
theorem equalV_loop (a b : List SValue) (hl : a.length ≤ 9223372036854775807) (he : a.length = b.length) : ∀ (d i k : Nat), i + d = a.length → d < k → (∀ j, j < i → eqV (a.getD j zValue) (b.getD j zValue) = true) → slices_Equal_api_Value.l0 k a b (a.length : Int) (i : Int) = some (eqf eqV zValue a b) := by
  intro d
  induction d with
  | zero =>
    intro i k hi hk hj
    obtain ⟨k, rfl⟩ := rounds_of hk
    simp only [slices_Equal_api_Value.l0]
    rw [if_neg (by omega), eqf_all he (fun j h => hj j (by omega))]
  | succ d ih =>
    intro i k hi hk hj
    obtain ⟨k, rfl⟩ := rounds_of hk
    simp only [slices_Equal_api_Value.l0]
    rw [if_pos (by omega), if_pos (by omega), if_pos (by omega), if_pos (by omega), show rd_TValue a (i : Int) = a.getD i zValue from rfl, show rd_TValue b (i : Int) = b.getD i zValue from rfl, neV]
    cases hq : eqV (a.getD i zValue) (b.getD i zValue) with
    | true =>
      rw [if_neg (by simp), wrap_succ (by omega)]
      exact ih (i + 1) k (by omega) (by omega) (all_next hj hq)
    | false => rw [if_pos (by simp), eqf_hit i (by omega) hq]
theorem equalV_is (a b : List SValue) (hl : a.length ≤ 9223372036854775807) {k : Nat} (hk : a.length < k) : slices_Equal_api_Value.f k a b = some (eqf eqV zValue a b) := by
  unfold slices_Equal_api_Value.f
  by_cases he : a.length = b.length
  · rw [if_pos (by omega)]
    exact equalV_loop a b hl he a.length 0 k (by omega) hk (fun j h => by omega)
  · rw [if_neg (by omega), eqf_len he]
theorem sameE_is (x y : SEvent) (hl : x.f2.length ≤ 9223372036854775807) {k : Nat} (hk : x.f2.length < k) : event_Same.f k x.f0 x.f1 x.f2 y.f0 y.f1 y.f2 = some (eqE x y) := by
  unfold event_Same.f eqE
  by_cases h1 : x.f0.toList = y.f0.toList
  · rw [if_pos h1]
    by_cases h2 : x.f1 = y.f1
    · rw [if_pos h2, equalV_is _ _ hl hk, h1, h2]
      simp
    · rw [if_neg h2]; simp [h2]
  · rw [if_neg h1]; simp [h1]
theorem sameE_told (x y : SEvent) (A0 : Option Addr) (c0 : Nat) (A1 : Option Addr) (c1 : Nat) (w : World) (hr0 : Kd.C kValue w A0 x.f2.length x.f2) (hc0 : x.f2.length ≤ c0) (hr1 : Kd.C kValue w A1 y.f2.length y.f2) (hc1 : y.f2.length ≤ c1) {b : Bool} (hb : eqE x y = b) :
    Calls Try.prog 21 #[.agg #[.string x.f0, .int .i64 x.f1, .slice A0 x.f2.length c0], .agg #[.string y.f0, .int .i64 y.f1, .slice A1 y.f2.length c1]] w (boolPost b w) := by
  subst hb
  exact event_Same.calls (x.f2.length + 1) _ _ _ _ _ _ _ _ _ _ (eqE x y) w hr0 hc0 hr1 hc1 (sameE_is x y hr0.2.1 (by omega))
theorem refSameE_loop (x y : SEvent) (hl : x.f2.length ≤ 9223372036854775807) (h1 : x.f0.toList = y.f0.toList) (h2 : x.f1 = y.f1) (he : x.f2.length = y.f2.length) : ∀ (d i k : Nat), i + d = x.f2.length → d < k → (∀ j, j < i → eqV (x.f2.getD j zValue) (y.f2.getD j zValue) = true) → towncrierref06_Same.l0 k (i : Int) x.f0 x.f1 x.f2 y.f0 y.f1 y.f2 = some (eqE x y) := by
  intro d
  induction d with
  | zero =>
    intro i k hi hk hj
    obtain ⟨k, rfl⟩ := rounds_of hk
    simp only [towncrierref06_Same.l0]
    rw [if_neg (by omega)]
    unfold eqE
    rw [eqf_all he (fun j h => hj j (by omega)), h1, h2]
    simp
  | succ d ih =>
    intro i k hi hk hj
    obtain ⟨k, rfl⟩ := rounds_of hk
    simp only [towncrierref06_Same.l0]
    rw [if_pos (by omega), if_pos (by omega), if_pos (by omega), show rd_TValue x.f2 (i : Int) = x.f2.getD i zValue from rfl, show rd_TValue y.f2 (i : Int) = y.f2.getD i zValue from rfl, neV]
    cases hq : eqV (x.f2.getD i zValue) (y.f2.getD i zValue) with
    | true =>
      rw [if_neg (by simp), wrap_succ (by omega)]
      exact ih (i + 1) k (by omega) (by omega) (all_next hj hq)
    | false =>
      rw [if_pos (by simp)]
      unfold eqE
      rw [eqf_hit i (by omega) hq]
      simp
theorem refSameE_is (x y : SEvent) (hl : x.f2.length ≤ 9223372036854775807) {k : Nat} (hk : x.f2.length + 1 < k) : towncrierref06_Same.f k x.f0 x.f1 x.f2 y.f0 y.f1 y.f2 = some (eqE x y) := by
  obtain ⟨k, rfl⟩ : ∃ m, k = m + 1 := ⟨k - 1, by omega⟩
  unfold towncrierref06_Same.f
  by_cases h1 : x.f0.toList = y.f0.toList
  · rw [if_pos h1]
    by_cases h2 : x.f1 = y.f1
    · rw [if_pos h2]
      by_cases he : x.f2.length = y.f2.length
      · rw [show ((x.f2.length : Int) != (y.f2.length : Int)) = false from by simp [he]]
        simp only [towncrierref06_Same.j0]
        rw [if_neg (by simp)]
        exact refSameE_loop x y hl h1 h2 he x.f2.length 0 k (by omega) (by omega) (fun j h => by omega)
      · rw [show ((x.f2.length : Int) != (y.f2.length : Int)) = true from by simp; omega]
        simp only [towncrierref06_Same.j0]
        unfold eqE
        rw [eqf_len he]
        simp
    · rw [if_neg h2]
      simp only [towncrierref06_Same.j0]
      unfold eqE
      simp [h2]
  · rw [if_neg h1]
    simp only [towncrierref06_Same.j0]
    unfold eqE
    simp [h1]
theorem refSameE_told (x y : SEvent) (A0 : Option Addr) (c0 : Nat) (A1 : Option Addr) (c1 : Nat) (w : World) (hr0 : Kd.C kValue w A0 x.f2.length x.f2) (hc0 : x.f2.length ≤ c0) (hr1 : Kd.C kValue w A1 y.f2.length y.f2) (hc1 : y.f2.length ≤ c1) {b : Bool} (hb : eqE x y = b) :
    Calls Try.prog 19 #[.agg #[.string x.f0, .int .i64 x.f1, .slice A0 x.f2.length c0], .agg #[.string y.f0, .int .i64 y.f1, .slice A1 y.f2.length c1]] w (boolPost b w) := by
  subst hb
  exact towncrierref06_Same.calls (x.f2.length + 2) _ _ _ _ _ _ _ _ _ _ (eqE x y) w hr0 hc0 hr1 hc1 (refSameE_is x y hr0.2.1 (by omega))
theorem refValid_loop (s : SSchema) (x : SEvent) (hl : s.f2.length < 4611686018427387904) (he : s.f2.length = x.f2.length) : ∀ (d i k : Nat), i + d = s.f2.length → d < k → (∀ j, j < i → ((s.f2.getD j zField).f1 == (x.f2.getD j zValue).f0) = true) → towncrierref06_Valid.l0 k (i : Int) s.f0 s.f1 s.f2 x.f0 x.f1 x.f2 = some (if kindsB s.f2 x.f2 = true then 0 else 5) := by
  intro d
  induction d with
  | zero =>
    intro i k hi hk hj
    obtain ⟨k, rfl⟩ := rounds_of hk
    simp only [towncrierref06_Valid.l0]
    rw [if_neg (by omega), if_pos]
    unfold kindsB
    exact range_all_none _ _ (fun j h => hj j (by omega))
  | succ d ih =>
    intro i k hi hk hj
    obtain ⟨k, rfl⟩ := rounds_of hk
    simp only [towncrierref06_Valid.l0]
    rw [if_pos (by omega), if_pos (by omega), if_pos (by omega), show rd_TField s.f2 (i : Int) = s.f2.getD i zField from rfl, show rd_TValue x.f2 (i : Int) = x.f2.getD i zValue from rfl]
    by_cases hq : (s.f2.getD i zField).f1 = (x.f2.getD i zValue).f0
    · rw [if_pos hq, wrap_succ (by omega)]
      exact ih (i + 1) k (by omega) (by omega) (all_next hj (beq_iff_eq.2 hq))
    · rw [if_neg hq, if_neg]
      unfold kindsB
      rw [range_all_hit (fun j => (s.f2.getD j zField).f1 == (x.f2.getD j zValue).f0) _ i (by omega) (beq_eq_false_iff_ne.2 hq)]
      simp
theorem refValid_is (s : SSchema) (x : SEvent) {S k : Nat} (hs : s.f0.size ≤ S ∧ ∀ i, i < s.f2.length → (s.f2.getD i zField).f0.size ≤ S) (hx : x.f0.size ≤ S) (hS : S < 4611686018427387904) (hl : s.f2.length < 4611686018427387904) (hlx : x.f2.length < 4611686018427387904) (hk : S + 200 < k) : towncrierref06_Valid.f k s.f0 s.f1 s.f2 x.f0 x.f1 x.f2 = some (validE s x) := by
  obtain ⟨k, rfl⟩ : ∃ m, k = m + 1 := ⟨k - 1, by omega⟩
  unfold towncrierref06_Valid.f
  rw [refMay_is s.f0 s.f1 s.f2 hs.1 hS hs.2 (by omega), Option.bind_some, refMayE_is x hx hS hlx (by omega), Option.bind_some]
  rw [show mayB s.f0 s.f1 s.f2 = mayS s from rfl]
  unfold validE
  cases hm : mayS s with
  | false => rw [if_neg (by simp), if_neg (by simp)]; simp [towncrierref06_Valid.j0]
  | true =>
    rw [if_pos rfl]
    cases hn : mayE x with
    | false => rw [if_neg (by simp)]; simp [towncrierref06_Valid.j0]
    | true =>
      rw [if_pos ⟨rfl, rfl⟩]
      simp only [towncrierref06_Valid.j0]
      rw [if_neg (by simp)]
      by_cases h1 : s.f0.toList = x.f0.toList
      · rw [if_pos h1, if_pos h1]
        by_cases h2 : s.f2.length = x.f2.length
        · rw [if_pos (by omega), if_pos h2]
          have h6 := (mayS_iff.1 hm).2.2.2.1
          exact refValid_loop s x hl h2 s.f2.length 0 k (by omega) (by omega) (fun j h => by omega)
        · rw [if_neg (by omega), if_neg h2]
      · rw [if_neg h1, if_neg h1]
theorem refValid_told (s : SSchema) (x : SEvent) (A0 : Option Addr) (c0 : Nat) (A1 : Option Addr) (c1 : Nat) (w : World) (hs : okNames s) (hx : x.f0.size ≤ 140737488351232) (hlx : x.f2.length < 4611686018427387904) (hr0 : Kd.C kField w A0 s.f2.length s.f2) (hc0 : s.f2.length ≤ c0) (hr1 : Kd.C kValue w A1 x.f2.length x.f2) (hc1 : x.f2.length ≤ c1) {r : Int} (hb : validE s x = r) :
    Calls Try.prog 22 #[.agg #[.string s.f0, .int .i64 s.f1, .slice A0 s.f2.length c0], .agg #[.string x.f0, .int .i64 x.f1, .slice A1 x.f2.length c1]] w (intPost r w) := by
  subst hb
  exact towncrierref06_Valid.calls 140737488361300 _ _ _ _ _ _ _ _ _ _ (validE s x) w hr0 hc0 hr1 hc1 (refValid_is s x ⟨hs.1, hs.2.1⟩ hx (by decide) hs.2.2 hlx (by decide))
theorem few6_loop (nm : ByteArray) (tm : Int) (l : List SValue) (hl : l.length ≤ 10) : ∀ (d i k : Nat), i + d = l.length → d < k → ∃ b, towncrierlaw06_Few.l0 k (i : Int) nm tm l = some b := by
  intro d
  induction d with
  | zero =>
    intro i k hi hk
    obtain ⟨k, rfl⟩ := rounds_of hk
    exact ⟨true, by simp only [towncrierlaw06_Few.l0]; rw [if_neg (by omega)]⟩
  | succ d ih =>
    intro i k hi hk
    obtain ⟨k, rfl⟩ := rounds_of hk
    simp only [towncrierlaw06_Few.l0]
    rw [if_pos (by omega), if_pos (by omega)]
    split
    · exact ⟨false, rfl⟩
    · rw [wrap_succ (by omega)]
      exact ih (i + 1) k (by omega) (by omega)
theorem few6_some (nm : ByteArray) (tm : Int) (l : List SValue) {k : Nat} (hk : 20 ≤ k) : ∃ b, towncrierlaw06_Few.f k nm tm l = some b ∧ (b = true → l.length ≤ 10) := by
  obtain ⟨k, rfl⟩ : ∃ m, k = m + 1 := ⟨k - 1, by omega⟩
  unfold towncrierlaw06_Few.f
  by_cases h1 : (nm.size : Int) > 60
  · rw [if_pos h1]
    exact ⟨false, by simp [towncrierlaw06_Few.j0], fun h => by cases h⟩
  · rw [if_neg h1]
    by_cases h2 : l.length ≤ 10
    · rw [decide_eq_false (show ¬ (l.length : Int) > 10 by omega)]
      simp only [towncrierlaw06_Few.j0]
      rw [if_neg (by simp)]
      obtain ⟨b, hb⟩ := few6_loop nm tm l h2 l.length 0 k (by omega) (by omega)
      exact ⟨b, hb, fun _ => h2⟩
    · rw [decide_eq_true (show (l.length : Int) > 10 by omega)]
      exact ⟨false, by simp [towncrierlaw06_Few.j0], fun h => by cases h⟩
theorem few6_told (x : SEvent) : ∃ b, (b = true → x.f2.length ≤ 10) ∧ ∀ (A : Option Addr) (c : Nat) (w : World), Kd.C kValue w A x.f2.length x.f2 → x.f2.length ≤ c → Calls Try.prog 10 #[.agg #[.string x.f0, .int .i64 x.f1, .slice A x.f2.length c]] w (boolPost b w) := by
  obtain ⟨b, h1, h2⟩ := few6_some x.f0 x.f1 x.f2 (k := 20) (by decide)
  exact ⟨b, h2, fun A c w hr hc => towncrierlaw06_Few.calls 20 x.f0 x.f1 A c x.f2 b w hr hc h1⟩
end Go.Proofs.Ytandlemjjlamoaa.P

namespace Go.Proofs.Ytandlemjjlamoaa.P
open Go.RowKit Go.Proofs.YtandlemjjlamoaaW.PrintWords Go.Proofs.YtandlemjjlamoaaW.PrintLast Go.Proofs.YtandlemjjlamoaaW.PrintMore
set_option linter.unusedVariables false
theorem few5_told (x : SSchema) : ∃ b, (b = true → x.f2.length ≤ 10) ∧ ∀ (A : Option Addr) (c : Nat) (w : World), Kd.C kField w A x.f2.length x.f2 → x.f2.length ≤ c → Calls Try.prog 16 #[.agg #[.string x.f0, .int .i64 x.f1, .slice A x.f2.length c]] w (boolPost b w) := by
  obtain ⟨b, h1, h2⟩ := few5_some x.f0 x.f1 x.f2 (k := 20) (by decide)
  exact ⟨b, h2, fun A c w hr hc => towncrierlaw05_Few.calls 20 x.f0 x.f1 A c x.f2 b w hr hc h1⟩
end Go.Proofs.Ytandlemjjlamoaa.P

namespace Go.Proofs.Ytandlemjjlamoaa.P
open Go.RowKit Go.Proofs.YtandlemjjlamoaaW.PrintWords Go.Proofs.YtandlemjjlamoaaW.PrintLast Go.Proofs.YtandlemjjlamoaaW.PrintMore
attribute [local go_sem] max2_int min2_int max_two min_two max_three min_three max_four min_four   -- for this text's walks alone
set_option linter.unusedVariables false
set_option linter.unusedSimpArgs false
def towncrierref01_Put.f (a0 : Int) : Option (List Int) := if 0 ≤ a0 then (if a0 < 18446744073709551616 then some (lePut a0.toNat) else none) else none
def ref01PutRel (a : Nat) (w : World) (n : Nat) (v : Value) (w' : World) : Prop := ∃ acc : List Int, (1 ≤ n ∨ acc = []) ∧ acc ++ lePut n = lePut a ∧ n * 128 ^ acc.length ≤ a ∧ Kd.R (Kd.int .u8) 5 w' w.heap.size (fun _ => True) v acc ∧ Below w.heap.size w w'
set_option maxHeartbeats 1000000 in
set_option maxRecDepth 100000 in
theorem towncrierref01_Put.calls (a0 : Int) (r : List Int) (w : World) (h : towncrierref01_Put.f a0 = some r) :
    Calls Try.prog 38 #[.int .u64 a0] w fun e w' => ∃ v0_ : Value, e = .returned v0_ ∧ Kd.R (Kd.int .u8) 5 w' w.heap.size (fun _ => True) v0_ r ∧ Below w.heap.size w w' := by
  unfold towncrierref01_Put.f at h
  by_cases h0 : 0 ≤ a0
  · rw [if_pos h0] at h
    by_cases h1 : a0 < 18446744073709551616
    · rw [if_pos h1] at h
      obtain rfl := Option.some.inj h
      clear h
      obtain ⟨a, rfl⟩ := Int.eq_ofNat_of_zero_le h0
      have ha : a < 18446744073709551616 := by omega
      rw [Int.toNat_natCast]
      show Calls _ _ _ _ (rowPost (Kd.int .u8) 5 (lePut a) w)
      have HA := Aside0.mk ha
      clear h0 h1 ha
      go_enter Try.func38, Try.ntmps38
      go_wp2
      go_loopg [0, 3] (a + 1) (fun kq v0 v3 w' => ∃ n : Nat, v0 = .int .u64 (n : Int) ∧ ref01PutRel a w n v3 w' ∧ Aside0 (n < kq))
      case atStart => exact ⟨a, rfl, ⟨[], .inr rfl, rfl, by simp, Kd.R_nil _ _ _ _ _, Below.refl _ _⟩, ⟨by omega⟩⟩
      case round =>
        obtain ⟨n, rfl, HR, HK⟩ := hrel
        obtain ⟨acc, h1n, hacc, hle, ho, hb⟩ := HR
        have HACC := Aside0.mk hacc
        have HLE := Aside0.mk hle
        have HO := Aside0.mk ho
        have HB := Aside0.mk hb
        clear hacc hle ho hb
        have hlen : acc.length ≤ 64 := by
          rcases h1n with h | rfl
          · have := lePut_few HLE.out HA.out h; omega
          · simp
        clear h1n
        by_cases hn : n < 128
        · have hn' : ((n : Nat) : Int) < 128 := by omega
          have hm' : ((n : Nat) : Int) % 256 = ((n : Nat) : Int) := by omega
          go_wp2_with ((with_reducible refine gate_builtin (b := .append) (xs := #[.tmp 15, .tmp 18]) rfl ?_); at_builtin; refine Kd.R_append (Kd.int .u8) (w0 := w) w.heap.size rfl (.tmp 15) (.tmp 18) 27 5 (.int .u8 0) 1 rfl Try.underlying27 info5 rfl (by decide) (by omega) u3 acc (n : Int) [.int .u8 (n : Int)] (fun _ => True) (fun _ => False) rfl rfl ?aP (fun _ hk => hk.elim) (fun _ _ => trivial) ?aO ?aB ?aS ?aL ?_; (case aP => exact rfl); (case aO => exact HO.out); (case aB => exact HB.out); (case aS => exact below_size HB.out); (case aL => omega); intro v1 w2 ho hb hg hat)
          go_ret
          exact ⟨v1, rfl, by have h := HACC.out; rw [lePut_small hn] at h; rw [← h]; exact ho, hb⟩
        · have hn' : ¬ ((n : Nat) : Int) < 128 := by omega
          obtain ⟨m, hm⟩ : ∃ m, n % 128 = m := ⟨_, rfl⟩
          obtain ⟨q, hq⟩ : ∃ q, n / 128 = q := ⟨_, rfl⟩
          have hm1 : ((n : Nat) : Int).tmod 128 = (m : Int) := by rw [Int.tmod_eq_emod_of_nonneg (by omega)]; omega
          have hq1 : ((n : Nat) : Int).tdiv 128 = (q : Int) := by rw [Int.tdiv_eq_ediv_of_nonneg (by omega)]; omega
          have hm0 : m < 128 := by omega
          have hm2 : ((m : Nat) : Int) % 256 = (m : Int) := by omega
          have hm3 : (((m : Nat) : Int) + 128) % 256 = (m : Int) + 128 := by omega
          have HM := Aside0.mk hm
          have HQ := Aside0.mk hq
          clear hm hq
          go_wp2_with ((with_reducible refine gate_builtin (b := .append) (xs := #[.tmp 6, .tmp 11]) rfl ?_); at_builtin; refine Kd.R_append (Kd.int .u8) (w0 := w) w.heap.size rfl (.tmp 6) (.tmp 11) 27 5 (.int .u8 0) 1 rfl Try.underlying27 info5 rfl (by decide) (by omega) u3 acc ((m : Int) + 128) [.int .u8 ((m : Int) + 128)] (fun _ => True) (fun _ => False) rfl rfl ?aP (fun _ hk => hk.elim) (fun _ _ => trivial) ?aO ?aB ?aS ?aL ?_; (case aP => exact rfl); (case aO => exact HO.out); (case aB => exact HB.out); (case aS => exact below_size HB.out); (case aL => omega); intro v1 w2 ho hb hg hat)
          cases gk with
          | zero => exact absurd HK.out (by omega)
          | succ k1 =>
            have hqn := HQ.out
            have hmn := HM.out
            have hn64 : n < 18446744073709551616 := by { have h1 := HLE.out; have h2 := HA.out; have h3 : n ≤ n * 128 ^ acc.length := Nat.le_mul_of_pos_right _ (Nat.pow_pos (by decide)); omega }
            go_roundg k1
            case measure => omega
            case rel => exact ⟨q, by first | go_num | (congr 1; simp [IntKind.wrap, IntKind.bits, IntKind.signed]; omega), ⟨acc ++ [(m : Int) + 128], .inl (by omega), by have h := HACC.out; rw [lePut_more hn, hmn, hqn] at h; simpa using h, by have h := HLE.out; rw [List.length_append, List.length_singleton, Nat.pow_succ, Nat.mul_comm (128 ^ _) 128, ← Nat.mul_assoc, ← hqn]; exact Nat.le_trans (Nat.mul_le_mul_right _ (Nat.div_mul_le_self n 128)) h, ho, hb⟩, ⟨by have := HK.out; omega⟩⟩
    · rw [if_neg h1] at h
      exact absurd h (by simp)
  · rw [if_neg h0] at h
    exact absurd h (by simp)
theorem towncrierref01_Put.told (a : Nat) (w : World) (h : a < 18446744073709551616) : Calls Try.prog 38 #[.int .u64 (a : Int)] w (rowPost (Kd.int .u8) 5 (lePut a) w) :=
  towncrierref01_Put.calls (a : Int) (lePut a) w (by unfold towncrierref01_Put.f; rw [if_pos (by omega), if_pos (by omega), Int.toNat_natCast])
end Go.Proofs.Ytandlemjjlamoaa.P

namespace Go.Proofs.Ytandlemjjlamoaa.P
open Go.RowKit Go.Proofs.YtandlemjjlamoaaW.PrintWords Go.Proofs.YtandlemjjlamoaaW.PrintLast Go.Proofs.YtandlemjjlamoaaW.PrintMore
attribute [local go_sem] max2_int min2_int max_two min_two max_three min_three max_four min_four   -- for this text's walks alone
set_option linter.unusedVariables false
set_option linter.unusedSimpArgs false
def towncrierref05_Text.f (a0 : ByteArray) : Option (List Int) := (towncrierref01_Put.f (IntKind.u64.wrap ((a0.size : Int)))).bind fun t110 => (if t110.length + a0.size < 140737488355328 then (some (t110 ++ bytesOf a0)) else (none))
set_option maxHeartbeats 8000000 in
set_option maxRecDepth 100000 in
theorem towncrierref05_Text.calls (a0 : ByteArray) (r : List Int) (w : World) (h : towncrierref05_Text.f a0 = some r) :
    Calls Try.prog 37 #[.string a0] w fun e w' => ∃ v0_ : Value, e = .returned (v0_) ∧ Kd.R (Kd.int .u8) 5 w' w.heap.size (fun _ => True) v0_ r ∧ Below w.heap.size w w' := by
  have HB := Aside0.mk (Below.refl w.heap.size w)
  have H : ((towncrierref01_Put.f (IntKind.u64.wrap ((a0.size : Int)))).bind fun t110 => (if t110.length + a0.size < 140737488355328 then (some (t110 ++ bytesOf a0)) else (none))) = some r := h
  clear h
  replace H := Option.bind_eq_some_iff.mp H
  obtain ⟨t110, A20, H⟩ := H
  replace H : (if t110.length + a0.size < 140737488355328 then (some (t110 ++ bytesOf a0)) else (none)) = some r := H
  have A2 := Aside0.mk A20
  clear A20
  by_cases c3 : t110.length + a0.size < 140737488355328
  · rw [if_pos c3] at H
    have LMc3 := Aside0.mk c3
    clear c3
    obtain ⟨y113, hy113⟩ : ∃ y_ : List Int, y_ = (t110 ++ bytesOf a0) := ⟨_, rfl⟩
    replace H : (some y113) = some r := by first | (rw [hy113]; with_reducible exact H) | (have H2_ := (Option.bind_some _ _).symm.trans H; rw [hy113]; with_reducible exact H2_) | (have H2_ := (Option.bind_some _ _).symm.trans H; with_reducible exact H2_) | with_reducible exact H | (rw [hy113]; exact H) | exact H
    have Ny113 := Aside0.mk hy113
    clear hy113
    obtain rfl := Option.some.inj H
    go_enter Try.func37, Try.ntmps37
    go_wp2_with (first | ((with_reducible refine gate_callee (f := 38) rfl ?_); refine goesL_ (some 6) rfl rfl Try.func38 (by kernel_rfl) rfl #[.int .u64 (IntKind.u64.wrap ((a0.size : Int)))] rfl (by (try simp only [List.map_toArray, List.map_cons, List.map_nil]); first | done | rfl | (simp only [List.length_drop, List.length_take]; rfl)) ?_; (with_reducible refine (towncrierref01_Put.calls (IntKind.u64.wrap ((a0.size : Int))) t110 _ A2.out).mono ?_); rintro e w4 ⟨v111, rfl, ho0, hb⟩; refine ⟨_, rfl, ?_⟩; have n0_ := Aside0.mk (Kd.R_lower ho0 (below_size (by repeat (first | (with_reducible first | exact HB.out | apply below_alloc | apply pw_below_drewN | apply below_drew1) | exact HB.out)))); have n1_ := Aside0.mk (below_step (by repeat (first | (with_reducible first | exact HB.out | apply below_alloc | apply pw_below_drewN | apply below_drew1) | exact HB.out)) hb); clear HB; have HO112 := n0_; have HB := n1_; clear n0_ n1_; (try clear hb); (try clear hb2); (try clear hk); (try clear hi); (try clear ho0)) | (at_builtin; refine print_append_str (w0 := w) w.heap.size rfl (.tmp 6) _ 27 9 5 rfl Try.underlying27 Try.underlying9 info5 v111 t110 a0 rfl rfl ?aO ?aB ?aS ?aL ?_; (case aB => exact (by repeat (first | (with_reducible first | exact HB.out | apply below_alloc | apply pw_below_drewN | apply below_drew1) | exact HB.out))); (case aO => exact (Kd.own_of_R (by (with_reducible repeat (first | apply Kd.R_alloc | apply Kd.R_drewN | apply Kd.R_drew)); exact HO112.out))); (case aS => exact (below_size (by repeat (first | (with_reducible first | exact HB.out | apply below_alloc | apply pw_below_drewN | apply below_drew1) | exact HB.out)))); (case aL => have := LMc3.out; omega); intro v114 w5 ho0 hb hg; have ho := Kd.R_of_own (h1 := fun _ => rfl) (ok := fun _ => True) ho0 (fun _ _ => trivial); clear ho0; have hat := True.intro; rw [← Ny113.out] at ho; change Kd.R (Kd.int .u8) 5 w5 w.heap.size (fun _ => True) v114 y113 at ho; have n0_ := Aside0.mk (hb); have n1_ := Aside0.mk (ho); clear HB; clear HO112; have HB := n0_; have HO115 := n1_; clear n0_ n1_; clear ho hb hg hat))
    go_ret
    exact ⟨_, by first | rfl | (simp [errW_none, errW_some] <;> rfl) | (simp [*, errW_none, errW_some] <;> rfl), by (with_reducible repeat (first | apply Kd.R_alloc | apply Kd.R_drewN | apply Kd.R_drew)); exact HO115.out, by repeat (first | (with_reducible first | exact HB.out | apply below_alloc | apply pw_below_drewN | apply below_drew1) | exact HB.out)⟩
  · rw [if_neg c3] at H
    exact absurd H (by simp)
theorem refText_told (s : ByteArray) (w : World) (h : s.size ≤ 12) : Calls Try.prog 37 #[.string s] w (rowPost (Kd.int .u8) 5 (textL s) w) :=
  towncrierref05_Text.calls s (textL s) w (by
    unfold towncrierref05_Text.f towncrierref01_Put.f
    rw [u64_small' (by omega), if_pos (by omega), if_pos (by omega), Int.toNat_natCast, Option.bind_some, if_pos (by have := lePut_short (n := s.size) (by omega); omega)]
    rfl)
end Go.Proofs.Ytandlemjjlamoaa.P

namespace Go.Proofs.Ytandlemjjlamoaa.P
open Go.RowKit Go.Proofs.YtandlemjjlamoaaW.PrintWords Go.Proofs.YtandlemjjlamoaaW.PrintLast Go.Proofs.YtandlemjjlamoaaW.PrintMore
attribute [local go_sem] max2_int min2_int max_two min_two max_three min_three max_four min_four   -- for this text's walks alone
set_option linter.unusedVariables false
set_option linter.unusedSimpArgs false
def towncrierref01_Zig.f (a0 : Int) : Option (Int) := if a0 ≥ 0 then (some (IntKind.u64.wrap (2 * (IntKind.u64.wrap (a0))))) else (some (IntKind.u64.wrap ((IntKind.u64.wrap (2 * (IntKind.u64.wrap (wrap64 (-(wrap64 (a0 + 1))))))) + 1)))
set_option maxHeartbeats 8000000 in
set_option maxRecDepth 100000 in
theorem towncrierref01_Zig.calls (a0 : Int) (r : Int) (w : World) (h : towncrierref01_Zig.f a0 = some r) :
    Calls Try.prog 55 #[.int .i64 a0] w fun e w' => e = .returned (.int .u64 r) ∧ Drawn0 w w' := by
  have H : (if a0 ≥ 0 then (some (IntKind.u64.wrap (2 * (IntKind.u64.wrap (a0))))) else (some (IntKind.u64.wrap ((IntKind.u64.wrap (2 * (IntKind.u64.wrap (wrap64 (-(wrap64 (a0 + 1))))))) + 1)))) = some r := h
  clear h
  by_cases c2 : a0 ≥ 0
  · rw [if_pos c2] at H
    have c2b0 : decide (0 ≤ a0) = true := decide_eq_true c2
    clear c2
    obtain rfl := Option.some.inj H
    go_enter Try.func55, Try.ntmps55
    go_wp2
    go_ret
    exact ⟨by first | rfl | (simp; done) | (simp [*]; done), by repeat (first | exact Drawn0.refl _ | apply Drawn0.step)⟩
  · rw [if_neg c2] at H
    have c2b0 : decide (0 ≤ a0) = false := decide_eq_false c2
    clear c2
    obtain rfl := Option.some.inj H
    go_enter Try.func55, Try.ntmps55
    go_wp2
    go_ret
    exact ⟨by first | rfl | (simp; done) | (simp [*]; done), by repeat (first | exact Drawn0.refl _ | apply Drawn0.step)⟩
theorem refZig_is {n : Int} (h0 : -9223372036854775808 ≤ n) (h1 : n ≤ 9223372036854775807) : towncrierref01_Zig.f n = some (zigN n : Int) := by
  unfold towncrierref01_Zig.f zigN
  by_cases h : 0 ≤ n
  · rw [if_pos h, if_pos h, wrap_u64, wrap_u64]
    congr 1
    omega
  · rw [if_neg h, if_neg h]
    simp only [wrap_u64]
    congr 1
    unfold wrap64
    omega
end Go.Proofs.Ytandlemjjlamoaa.P

namespace Go.Proofs.Ytandlemjjlamoaa.P
open Go.RowKit Go.Proofs.YtandlemjjlamoaaW.PrintWords Go.Proofs.YtandlemjjlamoaaW.PrintLast Go.Proofs.YtandlemjjlamoaaW.PrintMore
attribute [local go_sem] max2_int min2_int max_two min_two max_three min_three max_four min_four   -- for this text's walks alone
set_option linter.unusedVariables false
set_option linter.unusedSimpArgs false
set_option maxHeartbeats 4000000 in
set_option maxRecDepth 100000 in
theorem towncrierref04_Put.told (x : SValue) (w : World) (hb : -9223372036854775808 ≤ x.f1 ∧ x.f1 ≤ 9223372036854775807) {b : Bool} (hm : mayV x = b) {P : List Int} (hP : (if b then bytesV x else []) = P) : Calls Try.prog 39 #[.agg #[.int .i64 x.f0, .int .i64 x.f1, .string x.f2]] w (bytesPost 5 P b w) := by
  obtain ⟨k, n, s⟩ := x
  replace hb : -9223372036854775808 ≤ n ∧ n ≤ 9223372036854775807 := hb
  show Calls _ _ #[.agg #[.int .i64 k, .int .i64 n, .string s]] w _
  cases b with
  | false =>
    subst hP
    have HV := Aside0.mk hm
    clear hm hb
    go_enter Try.func39, Try.ntmps39
    go_wp2_with (go_at_call 44; refine (refMayV_told ⟨k, n, s⟩ _ HV.out).mono ?_; rintro e w1 ⟨rfl, hb1⟩)
    go_ret2
    exact ⟨_, rfl, Kd.R_nil _ _ _ _ _, below_step (below_alloc (Below.refl _ _) _) hb1⟩
  | true =>
    have hiff := mayV_iff.1 hm
    have hnum := numV_lt (x := ⟨k, n, s⟩) hb hm
    have HV := Aside0.mk hm
    have hP2 : k :: (lePut (numV ⟨k, n, s⟩) ++ bytesOf s) = P := hP
    have hlen := lePut_len hnum
    clear hm hP
    rcases hiff with ⟨h0, hs⟩ | ⟨h0, hs, h1, h2⟩ | ⟨h0, h1, h2⟩ | ⟨h0, hs, h1, h2⟩
    · replace h0 : k = 0 := h0
      subst h0
      replace hs : s.toList = [] := hs
      obtain rfl := toList_nil hs
      clear hs
      have hq : numV ⟨0, n, ⟨#[]⟩⟩ = zigN n := rfl
      rw [hq] at hP2 hlen hnum
      clear hq
      subst hP2
      have HZ := Aside0.mk (refZig_is hb.1 hb.2)
      have hbb := hb.1
      have hbb2 := hb.2
      have hs0 : (⟨#[]⟩ : ByteArray).size = 0 := rfl
      have HBI := Aside0.mk hb
      clear hb
      go_enter Try.func39, Try.ntmps39
      go_wp2_with (first
        | (go_at_call 44; refine (refMayV_told ⟨0, n, ⟨#[]⟩⟩ _ HV.out).mono ?_; rintro e w1 ⟨rfl, hb1⟩; have HB1 := Aside0.mk (below_step (below_alloc (Below.refl _ _) _) hb1); have HK1 := Aside0.mk (blk_below (blk_new w (.cells #[.int .i64 0, .int .i64 n, .string ⟨#[]⟩] 37)) hb1); have hc1 : ∀ i, w1.cell? ⟨w.heap.size, i, none⟩ = (#[.int .i64 0, .int .i64 n, .string ⟨#[]⟩] : Array Value)[i]? := fun i => blk_cell HK1.out i; clear hb1)
        | (go_at_call 55; refine (towncrierref01_Zig.calls n _ _ HZ.out).mono ?_; rintro e w2 ⟨rfl, hd2⟩; have hb2 := hd2.below; have HB2 := Aside0.mk (below_step HB1.out hb2); have HK2 := Aside0.mk (blk_below HK1.out hb2); have hc2 : ∀ i, w2.cell? ⟨w.heap.size, i, none⟩ = (#[.int .i64 0, .int .i64 n, .string ⟨#[]⟩] : Array Value)[i]? := fun i => blk_cell HK2.out i; clear hb2 hd2)
        )
      have h8 : IntKind.wrap .u8 0 = 0 := rfl
      go_region_held3 (fun w' => w'.cell? ⟨w.heap.size, 0, none⟩ = some (.int .i64 0))
        (first | go_keep | exact hc40 | (apply pw_cell_below; (first | exact hb3); go_keep) | (apply pw_cell_below; (first | exact hb3); assumption))
        (first
          | (go_at_call 38; refine (towncrierref01_Put.told (zigN n) _ hnum).mono ?_; rintro e w3 ⟨v3, rfl, ho3, hb3⟩; obtain ⟨A3, c3, rfl, hc3, hr3⟩ := Own8.reads ho3; have HR3 := Aside0.mk hr3; clear ho3 hr3)
          | (refine app8_step (o := ⟨some 33, _, _, _, _, _⟩) (w0 := w) w.heap.size ?hw (.tmp 30) (.tmp 32) 27 5 rfl Try.underlying27 info5 (.slice (some ⟨w2.heap.size, 0, none⟩) 1 1) [0] (lePut (zigN n)) A3 (lePut (zigN n)).length c3 ?hs ?hx ?HO ?HR ?HB ?hZ ?hL ?_; (case hw => rfl); (case hs => rfl); (case hx => rfl); (case hL => simp only [List.length_singleton]; omega); (case HO => exact Own8.below (w := World.drew _) (own8_one w2 0 (below_size HB2.out)) hb3); (case HR => exact HR3.out); (case HB => exact below_step (below_drew (below_alloc HB2.out _)) hb3); (case hZ => exact below_size (below_step (below_drew (below_alloc HB2.out _)) hb3)); intro v4 w4 ho4 hb4 hg4; have HO4 := Aside0.mk ho4; have HB4 := Aside0.mk hb4; have HK4 := Aside0.mk (blk_grown (blk_below (blk_drew (blk_alloc HK2.out _)) hb3) hg4 (ne_slice (blk_lt HK2.out))); have hc40 := blk_cell HK4.out 0; clear ho4 hb4 hg4)
          | (refine app8_step (o := ⟨some 33, _, _, _, _, _⟩) (w0 := w) w.heap.size ?hw (.tmp 30) (.tmp 32) 27 5 rfl Try.underlying27 info5 (.slice (some ⟨w3.heap.size, 0, none⟩) 1 1) [0] (lePut (zigN n)) A3 (lePut (zigN n)).length c3 ?hs ?hx ?HO ?HR ?HB ?hZ ?hL ?_; (case hw => rfl); (case hs => rfl); (case hx => rfl); (case hL => simp only [List.length_singleton]; omega); (case HO => exact own8_one _ 0 (by have := below_size (below_step (below_drew HB2.out) hb3); simpa using this)); (case HR => exact Kd.C_alloc HR3.out _); (case HB => exact below_alloc (below_step (below_drew HB2.out) hb3) _); (case hZ => exact below_size (below_alloc (below_step (below_drew HB2.out) hb3) _)); intro v4 w4 ho4 hb4 hg4; have HO4 := Aside0.mk ho4; have HB4 := Aside0.mk hb4; have HK4 := Aside0.mk (blk_grown (blk_alloc (blk_below (blk_drew HK2.out) hb3) _) hg4 (ne_slice (Nat.lt_of_lt_of_le (blk_lt HK2.out) (by have := below_size hb3; simpa using this)))); have hc40 := blk_cell HK4.out 0; clear ho4 hb4 hg4)
          )
      all_goals
        have hc4 : ∀ i, w4.cell? ⟨w.heap.size, i, none⟩ = (#[.int .i64 0, .int .i64 n, .string ⟨#[]⟩] : Array Value)[i]? := fun i => blk_cell HK4.out i
        go_wp2_with ((with_reducible refine gate_builtin (b := .append) (xs := #[.tmp 34, .tmp 36]) rfl ?_); at_builtin; refine app8s (w0 := w) w.heap.size rfl _ _ 27 9 5 rfl Try.underlying27 Try.underlying9 info5 v4 _ ⟨#[]⟩ rfl rfl HO4.out HB4.out (below_size HB4.out) (by simp only [List.length_append, List.length_singleton]; omega) ?_; intro v5 w5 ho5 hb5 hg5; have HO5 := Aside0.mk ho5; have HB5 := Aside0.mk hb5; clear ho5 hb5 hg5)
        go_ret2
        exact ⟨_, rfl, HO5.out, HB5.out⟩
    · replace h0 : k = 1 := h0
      subst h0
      replace hs : s.toList = [] := hs
      obtain rfl := toList_nil hs
      clear hs
      replace h1 : 0 ≤ n := h1
      obtain ⟨m, rfl⟩ := Int.eq_ofNat_of_zero_le h1
      have hq : numV ⟨1, (m : Int), ⟨#[]⟩⟩ = m := rfl
      rw [hq] at hP2 hlen hnum
      clear hq
      subst hP2
      have hu := u64_small' (n := m) (by omega)
      have hu0 : (0 : Int) ≤ (m : Int) := by omega
      clear h1 h2
      have hs0 : (⟨#[]⟩ : ByteArray).size = 0 := rfl
      have HBI := Aside0.mk hb
      clear hb
      go_enter Try.func39, Try.ntmps39
      go_wp2_with (first
        | (go_at_call 44; refine (refMayV_told ⟨1, (m : Int), ⟨#[]⟩⟩ _ HV.out).mono ?_; rintro e w1 ⟨rfl, hb1⟩; have HB1 := Aside0.mk (below_step (below_alloc (Below.refl _ _) _) hb1); have HK1 := Aside0.mk (blk_below (blk_new w (.cells #[.int .i64 1, .int .i64 (m : Int), .string ⟨#[]⟩] 37)) hb1); have hc1 : ∀ i, w1.cell? ⟨w.heap.size, i, none⟩ = (#[.int .i64 1, .int .i64 (m : Int), .string ⟨#[]⟩] : Array Value)[i]? := fun i => blk_cell HK1.out i; clear hb1)
        )
      have h8 : IntKind.wrap .u8 1 = 1 := rfl
      go_region_held3 (fun w' => w'.cell? ⟨w.heap.size, 0, none⟩ = some (.int .i64 1))
        (first | go_keep | exact hc40 | (apply pw_cell_below; (first | exact hb3); go_keep) | (apply pw_cell_below; (first | exact hb3); assumption))
        (first
          | (go_at_call 38; refine (towncrierref01_Put.told (m) _ hnum).mono ?_; rintro e w3 ⟨v3, rfl, ho3, hb3⟩; obtain ⟨A3, c3, rfl, hc3, hr3⟩ := Own8.reads ho3; have HR3 := Aside0.mk hr3; clear ho3 hr3)
          | (refine app8_step (o := ⟨some 33, _, _, _, _, _⟩) (w0 := w) w.heap.size ?hw (.tmp 30) (.tmp 32) 27 5 rfl Try.underlying27 info5 (.slice (some ⟨w1.heap.size, 0, none⟩) 1 1) [1] (lePut (m)) A3 (lePut (m)).length c3 ?hs ?hx ?HO ?HR ?HB ?hZ ?hL ?_; (case hw => rfl); (case hs => rfl); (case hx => rfl); (case hL => simp only [List.length_singleton]; omega); (case HO => exact Own8.below (w := World.drew _) (own8_one w1 1 (below_size HB1.out)) hb3); (case HR => exact HR3.out); (case HB => exact below_step (below_drew (below_alloc HB1.out _)) hb3); (case hZ => exact below_size (below_step (below_drew (below_alloc HB1.out _)) hb3)); intro v4 w4 ho4 hb4 hg4; have HO4 := Aside0.mk ho4; have HB4 := Aside0.mk hb4; have HK4 := Aside0.mk (blk_grown (blk_below (blk_drew (blk_alloc HK1.out _)) hb3) hg4 (ne_slice (blk_lt HK1.out))); have hc40 := blk_cell HK4.out 0; clear ho4 hb4 hg4)
          | (refine app8_step (o := ⟨some 33, _, _, _, _, _⟩) (w0 := w) w.heap.size ?hw (.tmp 30) (.tmp 32) 27 5 rfl Try.underlying27 info5 (.slice (some ⟨w3.heap.size, 0, none⟩) 1 1) [1] (lePut (m)) A3 (lePut (m)).length c3 ?hs ?hx ?HO ?HR ?HB ?hZ ?hL ?_; (case hw => rfl); (case hs => rfl); (case hx => rfl); (case hL => simp only [List.length_singleton]; omega); (case HO => exact own8_one _ 1 (by have := below_size (below_step (below_drew HB1.out) hb3); simpa using this)); (case HR => exact Kd.C_alloc HR3.out _); (case HB => exact below_alloc (below_step (below_drew HB1.out) hb3) _); (case hZ => exact below_size (below_alloc (below_step (below_drew HB1.out) hb3) _)); intro v4 w4 ho4 hb4 hg4; have HO4 := Aside0.mk ho4; have HB4 := Aside0.mk hb4; have HK4 := Aside0.mk (blk_grown (blk_alloc (blk_below (blk_drew HK1.out) hb3) _) hg4 (ne_slice (Nat.lt_of_lt_of_le (blk_lt HK1.out) (by have := below_size hb3; simpa using this)))); have hc40 := blk_cell HK4.out 0; clear ho4 hb4 hg4)
          )
      all_goals
        have hc4 : ∀ i, w4.cell? ⟨w.heap.size, i, none⟩ = (#[.int .i64 1, .int .i64 (m : Int), .string ⟨#[]⟩] : Array Value)[i]? := fun i => blk_cell HK4.out i
        go_wp2_with ((with_reducible refine gate_builtin (b := .append) (xs := #[.tmp 34, .tmp 36]) rfl ?_); at_builtin; refine app8s (w0 := w) w.heap.size rfl _ _ 27 9 5 rfl Try.underlying27 Try.underlying9 info5 v4 _ ⟨#[]⟩ rfl rfl HO4.out HB4.out (below_size HB4.out) (by simp only [List.length_append, List.length_singleton]; omega) ?_; intro v5 w5 ho5 hb5 hg5; have HO5 := Aside0.mk ho5; have HB5 := Aside0.mk hb5; clear ho5 hb5 hg5)
        go_ret2
        exact ⟨_, rfl, HO5.out, HB5.out⟩
    · replace h0 : k = 2 := h0
      subst h0
      replace h1 : n = 0 := h1
      replace h2 : s.size ≤ 40 := h2
      subst h1
      have hq : numV ⟨2, 0, s⟩ = s.size := rfl
      rw [hq] at hP2 hlen hnum
      clear hq
      subst hP2
      have hu := u64_small' (n := s.size) (by omega)
      have HBI := Aside0.mk hb
      clear hb
      go_enter Try.func39, Try.ntmps39
      go_wp2_with (first
        | (go_at_call 44; refine (refMayV_told ⟨2, 0, s⟩ _ HV.out).mono ?_; rintro e w1 ⟨rfl, hb1⟩; have HB1 := Aside0.mk (below_step (below_alloc (Below.refl _ _) _) hb1); have HK1 := Aside0.mk (blk_below (blk_new w (.cells #[.int .i64 2, .int .i64 0, .string s] 37)) hb1); have hc1 : ∀ i, w1.cell? ⟨w.heap.size, i, none⟩ = (#[.int .i64 2, .int .i64 0, .string s] : Array Value)[i]? := fun i => blk_cell HK1.out i; clear hb1)
        )
      have h8 : IntKind.wrap .u8 2 = 2 := rfl
      go_region_held3 (fun w' => w'.cell? ⟨w.heap.size, 0, none⟩ = some (.int .i64 2))
        (first | go_keep | exact hc40 | (apply pw_cell_below; (first | exact hb3); go_keep) | (apply pw_cell_below; (first | exact hb3); assumption))
        (first
          | (go_at_call 38; refine (towncrierref01_Put.told (s.size) _ hnum).mono ?_; rintro e w3 ⟨v3, rfl, ho3, hb3⟩; obtain ⟨A3, c3, rfl, hc3, hr3⟩ := Own8.reads ho3; have HR3 := Aside0.mk hr3; clear ho3 hr3)
          | (refine app8_step (o := ⟨some 33, _, _, _, _, _⟩) (w0 := w) w.heap.size ?hw (.tmp 30) (.tmp 32) 27 5 rfl Try.underlying27 info5 (.slice (some ⟨w1.heap.size, 0, none⟩) 1 1) [2] (lePut (s.size)) A3 (lePut (s.size)).length c3 ?hs ?hx ?HO ?HR ?HB ?hZ ?hL ?_; (case hw => rfl); (case hs => rfl); (case hx => rfl); (case hL => simp only [List.length_singleton]; omega); (case HO => exact Own8.below (w := World.drew _) (own8_one w1 2 (below_size HB1.out)) hb3); (case HR => exact HR3.out); (case HB => exact below_step (below_drew (below_alloc HB1.out _)) hb3); (case hZ => exact below_size (below_step (below_drew (below_alloc HB1.out _)) hb3)); intro v4 w4 ho4 hb4 hg4; have HO4 := Aside0.mk ho4; have HB4 := Aside0.mk hb4; have HK4 := Aside0.mk (blk_grown (blk_below (blk_drew (blk_alloc HK1.out _)) hb3) hg4 (ne_slice (blk_lt HK1.out))); have hc40 := blk_cell HK4.out 0; clear ho4 hb4 hg4)
          | (refine app8_step (o := ⟨some 33, _, _, _, _, _⟩) (w0 := w) w.heap.size ?hw (.tmp 30) (.tmp 32) 27 5 rfl Try.underlying27 info5 (.slice (some ⟨w3.heap.size, 0, none⟩) 1 1) [2] (lePut (s.size)) A3 (lePut (s.size)).length c3 ?hs ?hx ?HO ?HR ?HB ?hZ ?hL ?_; (case hw => rfl); (case hs => rfl); (case hx => rfl); (case hL => simp only [List.length_singleton]; omega); (case HO => exact own8_one _ 2 (by have := below_size (below_step (below_drew HB1.out) hb3); simpa using this)); (case HR => exact Kd.C_alloc HR3.out _); (case HB => exact below_alloc (below_step (below_drew HB1.out) hb3) _); (case hZ => exact below_size (below_alloc (below_step (below_drew HB1.out) hb3) _)); intro v4 w4 ho4 hb4 hg4; have HO4 := Aside0.mk ho4; have HB4 := Aside0.mk hb4; have HK4 := Aside0.mk (blk_grown (blk_alloc (blk_below (blk_drew HK1.out) hb3) _) hg4 (ne_slice (Nat.lt_of_lt_of_le (blk_lt HK1.out) (by have := below_size hb3; simpa using this)))); have hc40 := blk_cell HK4.out 0; clear ho4 hb4 hg4)
          )
      all_goals
        have hc4 : ∀ i, w4.cell? ⟨w.heap.size, i, none⟩ = (#[.int .i64 2, .int .i64 0, .string s] : Array Value)[i]? := fun i => blk_cell HK4.out i
        go_wp2_with ((with_reducible refine gate_builtin (b := .append) (xs := #[.tmp 34, .tmp 36]) rfl ?_); at_builtin; refine app8s (w0 := w) w.heap.size rfl _ _ 27 9 5 rfl Try.underlying27 Try.underlying9 info5 v4 _ s rfl rfl HO4.out HB4.out (below_size HB4.out) (by simp only [List.length_append, List.length_singleton]; omega) ?_; intro v5 w5 ho5 hb5 hg5; have HO5 := Aside0.mk ho5; have HB5 := Aside0.mk hb5; clear ho5 hb5 hg5)
        go_ret2
        exact ⟨_, rfl, HO5.out, HB5.out⟩
    · replace h0 : k = 3 := h0
      subst h0
      replace hs : s.toList = [] := hs
      obtain rfl := toList_nil hs
      clear hs
      replace h1 : 0 ≤ n := h1
      obtain ⟨m, rfl⟩ := Int.eq_ofNat_of_zero_le h1
      have hq : numV ⟨3, (m : Int), ⟨#[]⟩⟩ = m := rfl
      rw [hq] at hP2 hlen hnum
      clear hq
      subst hP2
      have hu := u64_small' (n := m) (by omega)
      have hu0 : (0 : Int) ≤ (m : Int) := by omega
      clear h1 h2
      have hs0 : (⟨#[]⟩ : ByteArray).size = 0 := rfl
      have HBI := Aside0.mk hb
      clear hb
      go_enter Try.func39, Try.ntmps39
      go_wp2_with (first
        | (go_at_call 44; refine (refMayV_told ⟨3, (m : Int), ⟨#[]⟩⟩ _ HV.out).mono ?_; rintro e w1 ⟨rfl, hb1⟩; have HB1 := Aside0.mk (below_step (below_alloc (Below.refl _ _) _) hb1); have HK1 := Aside0.mk (blk_below (blk_new w (.cells #[.int .i64 3, .int .i64 (m : Int), .string ⟨#[]⟩] 37)) hb1); have hc1 : ∀ i, w1.cell? ⟨w.heap.size, i, none⟩ = (#[.int .i64 3, .int .i64 (m : Int), .string ⟨#[]⟩] : Array Value)[i]? := fun i => blk_cell HK1.out i; clear hb1)
        )
      have h8 : IntKind.wrap .u8 3 = 3 := rfl
      go_region_held3 (fun w' => w'.cell? ⟨w.heap.size, 0, none⟩ = some (.int .i64 3))
        (first | go_keep | exact hc40 | (apply pw_cell_below; (first | exact hb3); go_keep) | (apply pw_cell_below; (first | exact hb3); assumption))
        (first
          | (go_at_call 38; refine (towncrierref01_Put.told (m) _ hnum).mono ?_; rintro e w3 ⟨v3, rfl, ho3, hb3⟩; obtain ⟨A3, c3, rfl, hc3, hr3⟩ := Own8.reads ho3; have HR3 := Aside0.mk hr3; clear ho3 hr3)
          | (refine app8_step (o := ⟨some 33, _, _, _, _, _⟩) (w0 := w) w.heap.size ?hw (.tmp 30) (.tmp 32) 27 5 rfl Try.underlying27 info5 (.slice (some ⟨w1.heap.size, 0, none⟩) 1 1) [3] (lePut (m)) A3 (lePut (m)).length c3 ?hs ?hx ?HO ?HR ?HB ?hZ ?hL ?_; (case hw => rfl); (case hs => rfl); (case hx => rfl); (case hL => simp only [List.length_singleton]; omega); (case HO => exact Own8.below (w := World.drew _) (own8_one w1 3 (below_size HB1.out)) hb3); (case HR => exact HR3.out); (case HB => exact below_step (below_drew (below_alloc HB1.out _)) hb3); (case hZ => exact below_size (below_step (below_drew (below_alloc HB1.out _)) hb3)); intro v4 w4 ho4 hb4 hg4; have HO4 := Aside0.mk ho4; have HB4 := Aside0.mk hb4; have HK4 := Aside0.mk (blk_grown (blk_below (blk_drew (blk_alloc HK1.out _)) hb3) hg4 (ne_slice (blk_lt HK1.out))); have hc40 := blk_cell HK4.out 0; clear ho4 hb4 hg4)
          | (refine app8_step (o := ⟨some 33, _, _, _, _, _⟩) (w0 := w) w.heap.size ?hw (.tmp 30) (.tmp 32) 27 5 rfl Try.underlying27 info5 (.slice (some ⟨w3.heap.size, 0, none⟩) 1 1) [3] (lePut (m)) A3 (lePut (m)).length c3 ?hs ?hx ?HO ?HR ?HB ?hZ ?hL ?_; (case hw => rfl); (case hs => rfl); (case hx => rfl); (case hL => simp only [List.length_singleton]; omega); (case HO => exact own8_one _ 3 (by have := below_size (below_step (below_drew HB1.out) hb3); simpa using this)); (case HR => exact Kd.C_alloc HR3.out _); (case HB => exact below_alloc (below_step (below_drew HB1.out) hb3) _); (case hZ => exact below_size (below_alloc (below_step (below_drew HB1.out) hb3) _)); intro v4 w4 ho4 hb4 hg4; have HO4 := Aside0.mk ho4; have HB4 := Aside0.mk hb4; have HK4 := Aside0.mk (blk_grown (blk_alloc (blk_below (blk_drew HK1.out) hb3) _) hg4 (ne_slice (Nat.lt_of_lt_of_le (blk_lt HK1.out) (by have := below_size hb3; simpa using this)))); have hc40 := blk_cell HK4.out 0; clear ho4 hb4 hg4)
          )
      all_goals
        have hc4 : ∀ i, w4.cell? ⟨w.heap.size, i, none⟩ = (#[.int .i64 3, .int .i64 (m : Int), .string ⟨#[]⟩] : Array Value)[i]? := fun i => blk_cell HK4.out i
        go_wp2_with ((with_reducible refine gate_builtin (b := .append) (xs := #[.tmp 34, .tmp 36]) rfl ?_); at_builtin; refine app8s (w0 := w) w.heap.size rfl _ _ 27 9 5 rfl Try.underlying27 Try.underlying9 info5 v4 _ ⟨#[]⟩ rfl rfl HO4.out HB4.out (below_size HB4.out) (by simp only [List.length_append, List.length_singleton]; omega) ?_; intro v5 w5 ho5 hb5 hg5; have HO5 := Aside0.mk ho5; have HB5 := Aside0.mk hb5; clear ho5 hb5 hg5)
        go_ret2
        exact ⟨_, rfl, HO5.out, HB5.out⟩
end Go.Proofs.Ytandlemjjlamoaa.P

namespace Go.Proofs.Ytandlemjjlamoaa.P
open Go.RowKit Go.Proofs.YtandlemjjlamoaaW.PrintWords Go.Proofs.YtandlemjjlamoaaW.PrintLast Go.Proofs.YtandlemjjlamoaaW.PrintMore
attribute [local go_sem] max2_int min2_int max_two min_two max_three min_three max_four min_four   -- for this text's walks alone
set_option linter.unusedVariables false
set_option linter.unusedSimpArgs false
set_option maxHeartbeats 4000000 in
set_option maxRecDepth 100000 in
theorem towncrierref06_Put.told (x : SEvent) (A : Option Addr) (c : Nat) (w : World) (hr : Kd.C kValue w A x.f2.length x.f2) (hc : x.f2.length ≤ c) (hk : x.f0.size ≤ 140737488351232) (hl0 : x.f2.length < 4611686018427387904) (hwf : ∀ v ∈ x.f2, i64V v) {b : Bool} (hm : mayE x = b) {P : List Int} (hP : (if b then bytesE x else []) = P) :
    Calls Try.prog 17 #[.agg #[.string x.f0, .int .i64 x.f1, .slice A x.f2.length c]] w (bytesPost 5 P b w) := by
  have HR := Aside0.mk hr
  have HC := Aside0.mk hc
  have HWF := Aside0.mk hwf
  have HM := Aside0.mk hm
  have HK := Aside0.mk hk
  clear hr hc hwf hk
  cases b with
  | false =>
    subst hP
    clear hm
    go_enter Try.func17, Try.ntmps17
    go_wp2_with (go_at_call 20; refine (refMayE_told x A c _ (Kd.C_alloc HR.out _) HC.out HK.out hl0 HM.out).mono ?_; rintro e w1 ⟨rfl, hb1⟩)
    go_ret2
    exact ⟨_, rfl, Kd.R_nil _ _ _ _ _, below_step (below_alloc (Below.refl _ _) _) hb1⟩
  | true =>
    obtain ⟨hn, h1, h2, h3, h4⟩ := mayE_iff.1 hm
    have hns := (nameB_size hn).2
    obtain ⟨nm, tm, F⟩ := x
    replace h1 : 0 ≤ tm := h1
    replace h2 : tm ≤ 1125899906842624 := h2
    replace h3 : F.length ≤ 6 := h3
    replace hns : nm.size ≤ 12 := hns
    replace HWF : Aside0 (∀ v ∈ F, i64V v) := HWF
    replace HR : Aside0 (Kd.C kValue w A F.length F) := HR
    replace HC : Aside0 (F.length ≤ c) := HC
    have H4 : Aside0 (∀ v ∈ F, mayV v = true) := ⟨h4⟩
    obtain ⟨vn, rfl⟩ := Int.eq_ofNat_of_zero_le h1
    have HP : Aside0 (textL nm ++ lePut vn ++ lePut F.length ++ valsL F = P) := ⟨hP⟩
    show Calls _ _ #[.agg #[.string nm, .int .i64 (vn : Int), .slice A F.length c]] w _
    have HMF := Aside0.mk (fun (W : World) (h : Below w.heap.size w W) => refMayE_told ⟨nm, (vn : Int), F⟩ A c W (Kd.C_below HR.out h) HC.out HK.out hl0 HM.out)
    obtain ⟨ln, hln⟩ : ∃ ln, F.length = ln := ⟨_, rfl⟩
    have HLN := Aside0.mk hln
    replace HMF : Aside0 (∀ W : World, Below w.heap.size w W → Calls Try.prog 20 #[.agg #[.string nm, .int .i64 (vn : Int), .slice A F.length c]] W (boolPost true W)) := HMF
    rw [hln] at h3 HMF ⊢
    clear hm h4 hn hP hln h1 hl0
    have hw1 := u64_small' (n := vn) (by omega)
    have hw2 := u64_small' (n := ln) (by omega)
    have htl : (textL nm).length ≤ 13 := by rw [textL_small hns]; omega
    have hl1 := lePut_len (n := vn) (by omega)
    have hl2 := lePut_short (n := ln) (by omega)
    go_enter Try.func17, Try.ntmps17
    go_wp2_with (first
      | (go_at_call 20; refine (HMF.out _ (below_alloc (Below.refl _ _) _)).mono ?_; rintro e w1 ⟨rfl, hb1⟩; have HB1 := Aside0.mk (below_step (below_alloc (Below.refl _ _) _) hb1); have HK1 := Aside0.mk (blk_below (blk_new w (.cells #[.string nm, .int .i64 (vn : Int), .slice A ln c] 24)) hb1); obtain ⟨k1, _, _, _⟩ := know HK1.out; clear hb1)
      | (go_at_call 37; refine (refText_told nm _ hns).mono ?_; rintro e w2 ⟨v2, rfl, ho2, hb2⟩; have HB2 := Aside0.mk (below_step HB1.out hb2); have HK2 := Aside0.mk (blk_below HK1.out hb2); have HO2 := Aside0.mk (Own8.lower (show Own8 _ _ _ _ _ from ho2) (below_size HB1.out)); have HN2 := Aside0.mk (Own8.far (show Own8 _ _ _ _ _ from ho2) (blk_lt HK1.out)); obtain ⟨k2, _, _, _⟩ := know HK2.out; clear ho2 hb2)
      | (go_at_call_of 38 (Value.int .u64 (vn : Int)); refine (towncrierref01_Put.told vn _ (by omega)).mono ?_; rintro e w3 ⟨v3, rfl, ho3, hb3⟩; obtain ⟨A3, c3, rfl, hc3, hr3⟩ := Own8.reads ho3; have HR3 := Aside0.mk hr3; have HB3 := Aside0.mk (below_step HB2.out hb3); have HK3 := Aside0.mk (blk_below HK2.out hb3); have HO3 := Aside0.mk (HO2.out.below hb3); clear ho3 hr3 hb3)
      | ((with_reducible refine gate_builtin (b := .append) (xs := #[.tmp 16, .tmp 20]) rfl ?_); at_builtin; refine app8 (w0 := w) w.heap.size rfl _ _ 27 5 rfl Try.underlying27 info5 v2 (textL nm) (lePut vn) A3 _ c3 rfl rfl HO3.out HR3.out HB3.out (below_size HB3.out) (by omega) ?_; intro v4 w4 ho4 hb4 hg4; have HO4 := Aside0.mk ho4; have HB4 := Aside0.mk hb4; have HK4 := Aside0.mk (blk_grown HK3.out hg4 HN2.out); have HN4 := Aside0.mk (Own8.ne ho4 HK4.out (by decide)); obtain ⟨k4, _, _, _⟩ := know HK4.out; clear ho4 hb4 hg4)
      | (go_at_call_of 38 (Value.int .u64 (ln : Int)); refine (towncrierref01_Put.told ln _ (by omega)).mono ?_; rintro e w5 ⟨v5, rfl, ho5, hb5⟩; obtain ⟨A5, c5, rfl, hc5, hr5⟩ := Own8.reads ho5; have HR5 := Aside0.mk hr5; have HB5 := Aside0.mk (below_step HB4.out hb5); have HK5 := Aside0.mk (blk_below HK4.out hb5); have HO5 := Aside0.mk (HO4.out.below hb5); clear ho5 hr5 hb5)
      | ((with_reducible refine gate_builtin (b := .append) (xs := #[.tmp 22, .tmp 27]) rfl ?_); at_builtin; refine app8 (w0 := w) w.heap.size rfl _ _ 27 5 rfl Try.underlying27 info5 v4 (textL nm ++ lePut vn) (lePut ln) A5 _ c5 rfl rfl HO5.out HR5.out HB5.out (below_size HB5.out) (by rw [List.length_append]; omega) ?_; intro v6 w6 ho6 hb6 hg6; have HO6 := Aside0.mk ho6; have HB6 := Aside0.mk hb6; have HK6 := Aside0.mk (blk_grown HK5.out hg6 HN4.out); clear ho6 hb6 hg6))
    have hPl : (textL nm ++ lePut vn ++ lePut ln).length ≤ 40 := by simp only [List.length_append]; omega
    have HP2 : Aside0 (textL nm ++ lePut vn ++ lePut ln ++ valsL F = P) := ⟨by have h := HP.out; rw [HLN.out] at h; exact h⟩
    clear htl hl1 hl2
    generalize textL nm ++ lePut vn ++ lePut ln = P0 at *
    clear HMF HM hw1 HP HO5 HR5 HB5 HK5 HN4 HO4 HB4 HK4 HO3 HB3 HK3 HR3 HO2 HB2 HK2 HN2 HB1 HK1 k1 k2 k4
    go_loopw [5, 6, 7, 8] (fun v5 v6 _ _ w' => ∃ k : Nat, v6 = .int .i64 k ∧ putERel P0 F w k v5 w' ∧ w'.heap[w.heap.size]? = some (.cells #[.string nm, .int .i64 (vn : Int), .slice A ln c] 24 (0, 0))) (fun _ i _ _ _ => ln - (intOf i).toNat)
    case atStart => exact ⟨0, rfl, ⟨Nat.zero_le _, by rw [show P0 ++ valsL (F.take 0) = P0 from by simp [valsL]]; exact HO6.out, HB6.out, by rw [show P0 ++ valsL (F.take 0) = P0 from by simp [valsL]]; omega⟩, HK6.out⟩
    case round =>
      obtain ⟨k, rfl, ⟨hk, ho, hb, hlen⟩, hkk⟩ := hrel
      have HO := Aside0.mk ho
      have HB := Aside0.mk hb
      have HKK := Aside0.mk hkk
      have hFl := HLN.out
      obtain ⟨kk1, _, _, _⟩ := know hkk
      clear ho hb hkk HO6 HB6 HK6
      by_cases hlt : k < ln
      · obtain ⟨ad, e, hx0, hx1, hx2⟩ := at_TValue (Kd.C_below HR.out HB.out) (k : Int) (by omega) (by omega)
        cases e
        simp only [Int.toNat_natCast] at hx0 hx1 hx2
        rw [show rd_TValue F (k : Int) = F.getD k zValue from rfl] at hx0 hx1 hx2
        have HY := Aside0.mk (H4.out _ (getD_in zValue (by omega : k < F.length)))
        have HYW := Aside0.mk (HWF.out _ (getD_in zValue (by omega : k < F.length)))
        have HSN := Aside0.mk (valsL_snoc F k (by omega))
        have hyl := bytesV_len HYW.out HY.out
        generalize F.getD k zValue = y at *
        obtain ⟨pre, hpre⟩ : ∃ pre, P0 ++ valsL (F.take k) = pre := ⟨_, rfl⟩
        rw [hpre] at HO hlen
        have HPRE := Aside0.mk hpre
        have HNE := Aside0.mk (Own8.ne HO.out HKK.out (by decide))
        clear hpre hFl
        go_wp2_with (first
          | (go_at_call 39; refine (towncrierref04_Put.told y _ HYW.out HY.out (if_pos rfl)).mono ?_; rintro e w2 ⟨v7, rfl, ho7, hb7⟩; obtain ⟨A7, c7, rfl, hc7, hr7⟩ := Own8.reads ho7; have HR7 := Aside0.mk hr7; have HO7 := Aside0.mk (HO.out.below hb7); have HB7 := Aside0.mk (below_step HB.out hb7); have HK7 := Aside0.mk (blk_below HKK.out hb7); clear ho7 hr7 hb7)
          | ((with_reducible refine gate_builtin (b := .append) (xs := #[.tmp 45, .tmp 46]) rfl ?_); at_builtin; refine app8 (w0 := w) w.heap.size rfl _ _ 27 5 rfl Try.underlying27 info5 u5 pre (bytesV y) A7 _ c7 rfl rfl HO7.out HR7.out HB7.out (below_size HB7.out) (by omega) ?_; intro v8 w8 ho8 hb8 hg8; have HO8 := Aside0.mk ho8; have HB8 := Aside0.mk hb8; have HK8 := Aside0.mk (blk_grown HK7.out hg8 HNE.out); clear ho8 hb8 hg8))
        have HPN : Aside0 (P0 ++ valsL (F.take (k + 1)) = pre ++ bytesV y) := ⟨by rw [HSN.out, ← List.append_assoc, HPRE.out]⟩
        have hk1 : k + 1 ≤ F.length := by have := HLN.out; omega
        go_roundw
        case rel => exact ⟨k + 1, by go_num, ⟨hk1, by rw [HPN.out]; exact HO8.out, HB8.out, by rw [HPN.out, List.length_append]; omega⟩, HK8.out⟩
        case measure => simp [intOf]; omega
      · have hk3 : k = F.length := by omega
        have hfin := HO.out
        have hP3 := HP2.out
        rw [hk3, List.take_length, hP3] at hfin
        have HFIN := Aside0.mk hfin
        clear hfin hk3 hFl hP3
        go_wp2
        go_ret2
        exact ⟨_, rfl, HFIN.out, HB.out⟩
end Go.Proofs.Ytandlemjjlamoaa.P

namespace Go.Proofs.Ytandlemjjlamoaa.P
open Go.RowKit Go.Proofs.YtandlemjjlamoaaW.PrintWords Go.Proofs.YtandlemjjlamoaaW.PrintLast Go.Proofs.YtandlemjjlamoaaW.PrintMore
attribute [local go_sem] max2_int min2_int max_two min_two max_three min_three max_four min_four   -- for this text's walks alone
set_option linter.unusedVariables false
set_option linter.unusedSimpArgs false
def ref01GetRel (l : List Int) (i : Nat) (v5 v6 : Value) : Prop := i ≤ 10 ∧ i ≤ l.length ∧ leCont (l.take i) ∧ ((10 ≤ i ∧ ∃ x y, v5 = .int .u64 x ∧ v6 = .int .u64 y) ∨ (i ≤ 9 ∧ v5 = .int .u64 ((leVal (l.take i) : Nat) : Int) ∧ v6 = .int .u64 ((128 ^ i : Nat) : Int))) ∧ getN l = getNAux i (leVal (l.take i)) (l.drop i)
set_option maxHeartbeats 1000000 in
set_option maxRecDepth 100000 in
theorem towncrierref01_Get.told (A0 : Option Addr) (c0 : Nat) (l0 : List Int) (w : World) (hb : byteL l0) (hr0 : Kd.C (Kd.int .u8) w A0 l0.length l0) (hc0 : l0.length ≤ c0) :
    Calls Try.prog 41 #[.slice A0 l0.length c0] w (getPost l0 w) := by
  have HR := Aside0.mk hr0
  have HC := Aside0.mk hc0
  have HB := Aside0.mk hb
  have hm := hr0.2.1
  clear hr0 hc0 hb
  go_enter Try.func41, Try.ntmps41
  go_wp2
  go_loop [5, 6, 7] (fun v5 v6 v7 => ∃ i : Nat, v7 = .int .i64 i ∧ ref01GetRel l0 i v5 v6) (fun _ _ v => 10 - (intOf v).toNat)
  case atStart => exact ⟨0, rfl, by omega, by omega, fun x hx => by simp at hx, .inr ⟨by omega, rfl, rfl⟩, rfl⟩
  case round =>
    obtain ⟨i, rfl, hi, hil, hcont, hval, hget⟩ := hrel
    have HCONT := Aside0.mk hcont
    have HGET := Aside0.mk hget
    clear hcont hget
    rcases hval with ⟨h10, x, y, rfl, rfl⟩ | ⟨h9, rfl, rfl⟩
    · have HE : Aside0 (getN l0 = none) := ⟨by rw [HGET.out, getNAux_late _ _ h10]⟩
      have hn : ¬ i < 10 := by omega
      by_cases hlt : i < l0.length
      all_goals
        go_wp2
        go_ret3
        exact ⟨by rw [HE.out]; rfl, Below.refl _ _⟩
    · by_cases hlt : i < l0.length
      · obtain ⟨ad, e, hx⟩ := Kd.at_int HR.out (i : Int) (by omega) (by omega)
        cases e
        have hcb := HB.out (l0.getD i 0) (by simp [List.getD, hlt])
        have HD : Aside0 (l0.drop i = l0.getD i 0 :: l0.drop (i + 1)) := ⟨by rw [List.drop_eq_getElem_cons hlt]; simp [List.getD, hlt]⟩
        have HT : Aside0 (l0.take (i + 1) = l0.take i ++ [l0.getD i 0]) := ⟨take_snoc 0 l0 i hlt⟩
        simp only [Int.toNat_natCast] at hx
        rw [show rd l0 (i : Int) = l0.getD i 0 from by simp [rd]] at hx
        obtain ⟨c, hc⟩ := Int.eq_ofNat_of_zero_le hcb.1
        rw [hc] at hx HD HT hcb
        clear hc
        have hc2 : c < 256 := by omega
        clear hcb
        obtain ⟨p, hp⟩ : ∃ p, 128 ^ i = p := ⟨_, rfl⟩
        obtain ⟨a, ha⟩ : ∃ a, leVal (l0.take i) = a := ⟨_, rfl⟩
        rw [hp, ha]
        have HP := Aside0.mk hp
        have HA := Aside0.mk ha
        clear hp ha
        have hlt10 : i < 10 := by omega
        have hsum := u64_sum a c p
        have hlen : (l0.take i).length = i := by rw [List.length_take]; omega
        have HV : Aside0 (leVal (l0.take i ++ [(c : Int)]) = a + c % 128 * p) := ⟨by rw [leVal_snoc, hlen, HA.out, HP.out, Int.toNat_natCast]⟩
        have HLEN := Aside0.mk hlen
        clear hlen
        obtain ⟨v, hv⟩ : ∃ v, (a + c % 128 * p) % 18446744073709551616 = v := ⟨_, rfl⟩
        rw [hv] at hsum
        have HVV := Aside0.mk hv
        clear hv
        by_cases h128 : c < 128
        · have h128' : ((c : Nat) : Int) < 128 := by omega
          have hput : towncrierref01_Put.f ((v : Nat) : Int) = some (lePut v) := by
            have := HVV.out
            unfold towncrierref01_Put.f
            rw [if_pos (by omega), if_pos (by omega), Int.toNat_natCast]
          have HPUT := Aside0.mk hput
          have HEND := Aside0.mk (getN_end (c := (c : Int)) (l := l0.drop (i + 1)) HCONT.out (by omega) (by omega) (by rw [HLEN.out]; omega))
          clear hput
          obtain ⟨i0, hi0, _, hsz0, _⟩ := info_parts info5
          have hcut := (print_take_of (P := Try.prog) (Value.int .u8) 0 27 5 .i64 Try.underlying27 hi0 hsz0 (some ad) c0 l0 ((i : Int) + 1) (by omega) (by omega) HC.out).1
          have hln : (l0.take (i + 1)).length = i + 1 := by rw [List.length_take]; omega
          rw [show ((i : Int) + 1).toNat = i + 1 from by omega, hln] at hcut
          have HTK := Aside0.mk (Kd.C_take HR.out (show i + 1 ≤ l0.length by omega))
          rw [hln] at HTK
          clear hln
          clear hi0 hsz0
          by_cases heq : lePut v = l0.take (i + 1)
          · have hs1 : ((strOfNums (lePut v)).toList == (strOfNums (l0.take (i + 1))).toList) = true := by rw [heq]; simp
            have HRES : Aside0 (getN l0 = some (v, i + 1)) := ⟨by
              rw [HGET.out, HD.out]
              have h := HEND.out
              rw [HLEN.out] at h
              rw [h, HV.out, HVV.out, ← HT.out, if_pos heq]
              have h2 := congrArg leVal heq
              rw [leVal_put, HT.out, HV.out] at h2
              rw [h2]⟩
            have HEQ := Aside0.mk heq
            clear heq
            go_wp2_with (go_at_call 38; refine (towncrierref01_Put.calls ((v : Nat) : Int) _ _ HPUT.out).mono ?_; rintro e w1 ⟨v8, rfl, ho, hb1⟩; have HO := Aside0.mk ho; clear ho; have hcv1 := fun m => own_string (P := Try.prog) Try.underlying27 Try.underlying5 Try.underlying9 (Kd.own_of_R (Kd.R_drewN HO.out m)); have hcv2 := fun m => Kd.C_string (P := Try.prog) (c := c0) Try.underlying27 Try.underlying5 Try.underlying9 (Kd.C_drewN (Kd.C_below HTK.out hb1) m))
            have hw1 : IntKind.i64.wrap ((i : Int) + 1) = (i : Int) + 1 := IntWalk.i64_in _ (by omega)
            go_quiet (fail)
            go_wp2
            go_ret3
            exact ⟨by rw [HRES.out]; rfl, pw_below_drewN hb1 _⟩
          · have hs1 : ((strOfNums (lePut v)).toList == (strOfNums (l0.take (i + 1))).toList) = false := beq_eq_false_iff_ne.mpr fun h => heq (str_inj (lePut_byte v) (byteL_take HB.out _) h)
            have HRES : Aside0 (getN l0 = none) := ⟨by
              rw [HGET.out, HD.out]
              have h := HEND.out
              rw [HLEN.out] at h
              rw [h, HV.out, HVV.out, ← HT.out, if_neg heq]⟩
            clear heq
            go_wp2_with (go_at_call 38; refine (towncrierref01_Put.calls ((v : Nat) : Int) _ _ HPUT.out).mono ?_; rintro e w1 ⟨v8, rfl, ho, hb1⟩; have HO := Aside0.mk ho; clear ho; have hcv1 := fun m => own_string (P := Try.prog) Try.underlying27 Try.underlying5 Try.underlying9 (Kd.own_of_R (Kd.R_drewN HO.out m)); have hcv2 := fun m => Kd.C_string (P := Try.prog) (c := c0) Try.underlying27 Try.underlying5 Try.underlying9 (Kd.C_drewN (Kd.C_below HTK.out hb1) m))
            have hw1 : IntKind.i64.wrap ((i : Int) + 1) = (i : Int) + 1 := IntWalk.i64_in _ (by omega)
            go_quiet (fail)
            go_wp2
            go_ret3
            exact ⟨by rw [HRES.out]; rfl, pw_below_drewN hb1 _⟩
        · have h128' : ¬ ((c : Nat) : Int) < 128 := by omega
          go_wp2
          go_round
          case measure => simp [intOf]; omega
          case rel =>
            refine ⟨i + 1, by go_num, by omega, by omega, ?_, ?_, ?_⟩
            · rw [HT.out]
              intro x hx2
              rcases List.mem_append.1 hx2 with hx2 | hx2
              · exact HCONT.out x hx2
              · simp at hx2; omega
            · by_cases h9 : i = 9
              · exact .inl ⟨by omega, _, _, rfl, rfl⟩
              · refine .inr ⟨by omega, ?_, ?_⟩
                · have h1 := leVal_lt (l0.take i)
                  rw [HLEN.out, HA.out] at h1
                  have h2 := HP.out
                  have hpl8 : 128 ^ i ≤ 128 ^ 8 := Nat.pow_le_pow_right (by decide) (by omega)
                  have h88 : (128 : Nat) ^ 8 = 72057594037927936 := by decide
                  have hx3 : c % 128 * p ≤ 127 * p := Nat.mul_le_mul_right _ (by omega)
                  have h3 := HVV.out
                  rw [Nat.mod_eq_of_lt (by omega)] at h3
                  rw [HT.out, HV.out, h3]
                · have h2 := HP.out
                  have hpl8 : 128 ^ i ≤ 128 ^ 8 := Nat.pow_le_pow_right (by decide) (by omega)
                  have h88 : (128 : Nat) ^ 8 = 72057594037927936 := by decide
                  rw [Nat.pow_succ, h2, show ((p : Nat) : Int) * 128 = ((p * 128 : Nat) : Int) from by omega, u64_mod, Nat.mod_eq_of_lt (by omega)]
            · rw [HGET.out, HD.out, HT.out]
              have h := getN_more (c := (c : Int)) (l := l0.drop (i + 1)) (t := l0.take i) (by rw [HLEN.out]; omega) (by omega)
              rw [HLEN.out] at h
              rw [h]
              simp [HLEN.out]
      · have HE : Aside0 (getN l0 = none) := ⟨by rw [HGET.out, List.drop_of_length_le (by omega)]; rfl⟩
        go_wp2
        go_ret3
        exact ⟨by rw [HE.out]; rfl, Below.refl _ _⟩
theorem towncrierref01_Get.yes (A0 : Option Addr) (c0 : Nat) (l0 : List Int) (w : World) {n u : Nat} (hg : getN l0 = some (n, u)) (hb : byteL l0) (hr0 : Kd.C (Kd.int .u8) w A0 l0.length l0) (hc0 : l0.length ≤ c0) : Calls Try.prog 41 #[.slice A0 l0.length c0] w (numYes n u w) :=
  (towncrierref01_Get.told A0 c0 l0 w hb hr0 hc0).mono fun e w' h => by unfold getPost at h; rw [hg] at h; exact h
theorem towncrierref01_Get.no (A0 : Option Addr) (c0 : Nat) (l0 : List Int) (w : World) (hg : getN l0 = none) (hb : byteL l0) (hr0 : Kd.C (Kd.int .u8) w A0 l0.length l0) (hc0 : l0.length ≤ c0) : Calls Try.prog 41 #[.slice A0 l0.length c0] w (numNo w) :=
  (towncrierref01_Get.told A0 c0 l0 w hb hr0 hc0).mono fun e w' h => by unfold getPost at h; rw [hg] at h; exact h
end Go.Proofs.Ytandlemjjlamoaa.P

namespace Go.Proofs.Ytandlemjjlamoaa.P
open Go.RowKit Go.Proofs.YtandlemjjlamoaaW.PrintWords Go.Proofs.YtandlemjjlamoaaW.PrintLast Go.Proofs.YtandlemjjlamoaaW.PrintMore
attribute [local go_sem] max2_int min2_int max_two min_two max_three min_three max_four min_four   -- for this text's walks alone
set_option linter.unusedVariables false
set_option linter.unusedSimpArgs false
set_option maxHeartbeats 1000000 in
set_option maxRecDepth 100000 in
theorem towncrierref05_Read.yes (A0 : Option Addr) (c0 : Nat) (l0 : List Int) (most : Nat) (w : World) {t : List Int} {n : Nat} (hg : readT l0 most = some (t, n)) (hm : most ≤ 1000) (hb : byteL l0) (hr0 : Kd.C (Kd.int .u8) w A0 l0.length l0) (hc0 : l0.length ≤ c0) :
    Calls Try.prog 40 #[.slice A0 l0.length c0, .int .i64 (most : Int)] w (textYes t n w) := by
  have hl63 := hr0.2.1
  unfold readT at hg
  cases hq : getM l0 most with
  | none => rw [hq] at hg; simp at hg
  | some p =>
    obtain ⟨a, u⟩ := p
    rw [hq] at hg
    simp only at hg
    by_cases h5 : a ≤ l0.length - u
    · rw [if_pos h5] at hg
      simp only [Option.some.injEq, Prod.mk.injEq] at hg
      obtain ⟨rfl, rfl⟩ := hg
      obtain ⟨h1, h2, h3⟩ := getM_used hq
      have hw1 := u64_small' (n := most) (by omega)
      have hw2 : IntKind.i64.wrap ((a : Nat) : Int) = (a : Int) := IntWalk.i64_in _ (by omega)
      obtain ⟨i0, hi0, _, hsz0, _⟩ := info_parts info5
      obtain ⟨A', hcut, hC', hln⟩ := mid_row (P := Try.prog) (d := Kd.int .u8) Try.underlying27 hi0 hsz0 A0 c0 l0 u a (u : Int) ((u : Int) + (a : Int)) rfl rfl (by omega) hc0
      have HCUT := Aside0.mk (hC' w hr0)
      have HC := Aside0.mk (towncrierref01_Get.yes A0 c0 l0 w h1 hb hr0 hc0)
      have hsz : ((a : Nat) : Int) ≤ (most : Int) := by omega
      have hsz2 : ((l0.length : Nat) : Int) - (u : Int) ≥ (a : Int) := by omega
      clear hi0 hsz0 hq h1 hb hr0 hC' hln h5 h2
      go_enter Try.func40, Try.ntmps40
      go_wp2_with (go_at_call 41; refine HC.out.mono ?_; rintro e w1 ⟨rfl, hb1⟩; have hcv := Kd.C_string (P := Try.prog) (c := c0 - u) Try.underlying27 Try.underlying5 Try.underlying9 (Kd.C_below HCUT.out hb1))
      go_ret3
      exact ⟨rfl, hb1⟩
    · rw [if_neg h5] at hg; simp at hg
set_option maxHeartbeats 1000000 in
set_option maxRecDepth 100000 in
theorem towncrierref05_Read.no (A0 : Option Addr) (c0 : Nat) (l0 : List Int) (most : Nat) (w : World) (hg : readT l0 most = none) (hm : most ≤ 1000) (hb : byteL l0) (hr0 : Kd.C (Kd.int .u8) w A0 l0.length l0) (hc0 : l0.length ≤ c0) :
    Calls Try.prog 40 #[.slice A0 l0.length c0, .int .i64 (most : Int)] w (textNo w) := by
  have hl63 := hr0.2.1
  have hw1 := u64_small' (n := most) (by omega)
  cases hq : getN l0 with
  | none =>
    have HC := Aside0.mk (towncrierref01_Get.no A0 c0 l0 w hq hb hr0 hc0)
    clear hg hb hr0 hq
    go_enter Try.func40, Try.ntmps40
    go_wp2_with (go_at_call 41; refine HC.out.mono ?_; rintro e w1 ⟨rfl, hb1⟩)
    go_ret3
    exact ⟨rfl, hb1⟩
  | some p =>
    obtain ⟨a, u⟩ := p
    have HC := Aside0.mk (towncrierref01_Get.yes A0 c0 l0 w hq hb hr0 hc0)
    have hu := (getN_used hq).2.1
    unfold readT at hg
    rw [getM_some hq] at hg
    by_cases h2 : a ≤ most
    · rw [if_pos h2] at hg
      simp only at hg
      by_cases h5 : a ≤ l0.length - u
      · rw [if_pos h5] at hg; simp at hg
      · have hw2 : IntKind.i64.wrap ((a : Nat) : Int) = (a : Int) := IntWalk.i64_in _ (by omega)
        have hsz : ((a : Nat) : Int) ≤ (most : Int) := by omega
        have hsz2 : ((l0.length : Nat) : Int) - (u : Int) < (a : Int) := by omega
        clear hg hb hr0 hq h5 h2
        go_enter Try.func40, Try.ntmps40
        go_wp2_with (go_at_call 41; refine HC.out.mono ?_; rintro e w1 ⟨rfl, hb1⟩)
        all_goals first | (exfalso; omega) | (go_ret3; exact ⟨rfl, hb1⟩)
    · have hsz : ¬ ((a : Nat) : Int) ≤ (most : Int) := by omega
      clear hg hb hr0 hq h2
      go_enter Try.func40, Try.ntmps40
      go_wp2_with (go_at_call 41; refine HC.out.mono ?_; rintro e w1 ⟨rfl, hb1⟩)
      all_goals first | (exfalso; omega) | (go_ret3; exact ⟨rfl, hb1⟩)
end Go.Proofs.Ytandlemjjlamoaa.P

namespace Go.Proofs.Ytandlemjjlamoaa.P
open Go.RowKit Go.Proofs.YtandlemjjlamoaaW.PrintWords Go.Proofs.YtandlemjjlamoaaW.PrintLast Go.Proofs.YtandlemjjlamoaaW.PrintMore
attribute [local go_sem] max2_int min2_int max_two min_two max_three min_three max_four min_four   -- for this text's walks alone
set_option linter.unusedVariables false
set_option linter.unusedSimpArgs false
def towncrierref01_Zag.f (a0 : Int) : Option (Int) := if (Int.tmod a0 2) = 0 then (some (wrap64 (IntKind.u64.wrap (Int.tdiv a0 2)))) else (some (wrap64 ((wrap64 (-(wrap64 (IntKind.u64.wrap (Int.tdiv a0 2))))) - 1)))
set_option maxHeartbeats 8000000 in
set_option maxRecDepth 100000 in
theorem towncrierref01_Zag.calls (a0 : Int) (r : Int) (w : World) (h : towncrierref01_Zag.f a0 = some r) :
    Calls Try.prog 56 #[.int .u64 a0] w fun e w' => e = .returned (.int .i64 r) ∧ Drawn0 w w' := by
  have H : (if (Int.tmod a0 2) = 0 then (some (wrap64 (IntKind.u64.wrap (Int.tdiv a0 2)))) else (some (wrap64 ((wrap64 (-(wrap64 (IntKind.u64.wrap (Int.tdiv a0 2))))) - 1)))) = some r := h
  clear h
  by_cases c2 : (Int.tmod a0 2) = 0
  · rw [if_pos c2] at H
    have c2b0 : ((Int.tmod a0 2) == 0) = true := beq_iff_eq.mpr c2
    have c2b1 : ((Int.tmod a0 2) != 0) = false := bne_eq_false_iff_eq.mpr c2
    clear c2
    obtain rfl := Option.some.inj H
    go_enter Try.func56, Try.ntmps56
    go_wp2
    go_ret
    exact ⟨by first | rfl | (simp; done) | (simp [*]; done), by repeat (first | exact Drawn0.refl _ | apply Drawn0.step)⟩
  · rw [if_neg c2] at H
    have c2b0 : ((Int.tmod a0 2) == 0) = false := beq_eq_false_iff_ne.mpr c2
    have c2b1 : ((Int.tmod a0 2) != 0) = true := bne_iff_ne.mpr c2
    obtain rfl := Option.some.inj H
    go_enter Try.func56, Try.ntmps56
    go_wp2
    go_ret
    exact ⟨by first | rfl | (simp; done) | (simp [*]; done), by repeat (first | exact Drawn0.refl _ | apply Drawn0.step)⟩
theorem refZag_is {m : Nat} (h : m < 18446744073709551616) : towncrierref01_Zag.f (m : Int) = some (zagN m) := by
  unfold towncrierref01_Zag.f zagN
  have e1 : Int.tmod (m : Int) 2 = ((m % 2 : Nat) : Int) := by rw [Int.tmod_eq_emod_of_nonneg (by omega)]; omega
  have e2 : Int.tdiv (m : Int) 2 = ((m / 2 : Nat) : Int) := by rw [Int.tdiv_eq_ediv_of_nonneg (by omega)]; omega
  rw [e1, e2]
  simp only [wrap_u64]
  by_cases h2 : m % 2 = 0
  · rw [if_pos (by omega), if_pos h2]
    congr 1
    unfold wrap64
    omega
  · rw [if_neg (by omega), if_neg h2]
    congr 1
    unfold wrap64
    omega
end Go.Proofs.Ytandlemjjlamoaa.P

namespace Go.Proofs.Ytandlemjjlamoaa.P
open Go.RowKit Go.Proofs.YtandlemjjlamoaaW.PrintWords Go.Proofs.YtandlemjjlamoaaW.PrintLast Go.Proofs.YtandlemjjlamoaaW.PrintMore
attribute [local go_sem] max2_int min2_int max_two min_two max_three min_three max_four min_four   -- for this text's walks alone
set_option linter.unusedVariables false
set_option linter.unusedSimpArgs false
set_option maxHeartbeats 4000000 in
set_option maxRecDepth 100000 in
theorem towncrierref04_Get.told (w : World) (A : Option Addr) (c : Nat) (l : List Int) (hr0 : Kd.C (Kd.int .u8) w A l.length l) (hc0 : l.length ≤ c) (hb : byteL l) (hl : l.length < 4611686018427387904) {x : SValue} {m : Nat} {b : Bool} (hq : gotV (getV l) = (x, m, b)) :
    Calls Try.prog 42 #[.slice A l.length c] w (valPost3 x m b w) := by
  have HR := Aside0.mk hr0
  have HC := Aside0.mk hc0
  clear hr0
  cases l with
  | nil =>
    obtain ⟨rfl, rfl, rfl⟩ : x = ⟨0, 0, ⟨#[]⟩⟩ ∧ m = 0 ∧ b = false := by
      have h : ((⟨0, 0, ⟨#[]⟩⟩ : SValue), 0, false) = (x, m, b) := hq
      simp only [Prod.mk.injEq] at h
      exact ⟨h.1.symm, h.2.1.symm, h.2.2.symm⟩
    clear hq hl
    show Calls _ _ #[.slice A 0 c] w _
    have HKr := Aside0.mk (blk_new w (.cells #[.int .i64 0, .int .i64 0, .string ⟨#[]⟩] 37))
    have HB := Aside0.mk (show Below w.heap.size w (w.alloc (.cells #[.int .i64 0, .int .i64 0, .string ⟨#[]⟩] 37)) from below_alloc (Below.refl _ _) _)
    go_enter Try.func42, Try.ntmps42
    go_wp2
    exact bodyPost_ret (v := .tuple #[.agg #[.int .i64 0, .int .i64 0, .string ⟨#[]⟩], .int .i64 0, .bool false]) (by simp [results, Try.results42, go_sem]) rfl ⟨rfl, HB.out⟩
  | cons k r =>
    have hk := hb k (by simp)
    obtain ⟨hk0, hk1⟩ := hk
    have HBR := Aside0.mk (show byteL r from fun c hc => hb c (by simp [hc]))
    clear hb
    obtain ⟨i0, hi0, _, hsz0, _⟩ := info_parts info5
    obtain ⟨A1, hcut1, hD1, hlc1⟩ := drop_row (P := Try.prog) (d := Kd.int .u8) Try.underlying27 hi0 hsz0 A c (k :: r) 1 1 rfl (by simp) HC.out
    rw [List.drop_succ_cons, List.drop_zero] at hD1 hlc1
    simp only [List.drop_succ_cons, List.drop_zero] at hcut1
    have HD1 := Aside0.mk (hD1 w HR.out)
    have HL1 := Aside0.mk hlc1
    obtain ⟨ad, had, hx⟩ := Kd.at_int HR.out 0 (by omega) (by simp)
    subst had
    replace hx : w.cell? ad = some (.int .u8 k) := hx
    have HX := Aside0.mk hx
    have hlr : r.length + 1 < 4611686018427387904 := by simpa using hl
    have hln : (k :: r).length = r.length + 1 := rfl
    rw [hln] at hcut1 hc0 ⊢
    have HLN := Aside0.mk hln
    clear hD1 hlc1 hx hl hln
    have hw0 : IntKind.wrap .i64 k = k := IntWalk.i64_in _ (by omega)
    cases hg : getN r with
    | none =>
      obtain ⟨rfl, rfl, rfl⟩ : x = ⟨0, 0, ⟨#[]⟩⟩ ∧ m = 0 ∧ b = false := by
        have h : gotV (getV (k :: r)) = ((⟨0, 0, ⟨#[]⟩⟩ : SValue), 0, false) := by unfold getV; simp only [hg]; rfl
        rw [h] at hq
        simp only [Prod.mk.injEq] at hq
        exact ⟨hq.1.symm, hq.2.1.symm, hq.2.2.symm⟩
      have HG := Aside0.mk hg
      clear hg hq hw0
      go_enter Try.func42, Try.ntmps42
      go_wp2_with (go_at_call 41; refine (towncrierref01_Get.no A1 _ r _ HG.out HBR.out (Kd.C_below HD1.out (below_alloc (Below.refl _ _) _)) HL1.out).mono ?_; rintro e w1 ⟨rfl, hb1⟩; have HB1 := Aside0.mk (below_step (below_alloc (Below.refl _ _) _) hb1); have HKr1 := Aside0.mk (blk_below (blk_new w (.cells #[.int .i64 0, .int .i64 0, .string ⟨#[]⟩] 37)) hb1); obtain ⟨kr1, kr2, kr3, kr4⟩ := know HKr1.out; clear hb1)
      have hz := blk_put3 HKr1.out (.int .i64 0) (.int .i64 0) (.string ⟨#[]⟩)
      have hbz := below_put3 HB1.out (Nat.le_refl _) (.int .i64 0) (.int .i64 0) (.string ⟨#[]⟩)
      generalize World.setCell (World.setCell (World.setCell _ _ _) _ _) _ _ = W3 at hz hbz ⊢
      have hz0 : W3.cell? ⟨w.heap.size, 0, none⟩ = some (.int .i64 0) := blk_cell hz 0
      have hz1 : W3.cell? ⟨w.heap.size, 1, none⟩ = some (.int .i64 0) := blk_cell hz 1
      have hz2 : W3.cell? ⟨w.heap.size, 2, none⟩ = some (.string ⟨#[]⟩) := blk_cell hz 2
      exact bodyPost_ret (v := .tuple #[.agg #[.int .i64 0, .int .i64 0, .string ⟨#[]⟩], .int .i64 0, .bool false]) (by simp [results, Try.results42, go_sem, hz0, hz1, hz2]) rfl ⟨rfl, hbz⟩
    | some p =>
      obtain ⟨n, u⟩ := p
      have hu := (getN_used hg).2
      have hnb : n < 18446744073709551616 := (getN_some HBR.out hg).1
      have HG := Aside0.mk hg
      by_cases hk3 : k = 0
      · subst hk3
        obtain ⟨rfl, rfl, rfl⟩ : x = ⟨0, zagN n, ⟨#[]⟩⟩ ∧ m = u + 1 ∧ b = true := by
          have h : gotV (getV (0 :: r)) = ((⟨0, zagN n, ⟨#[]⟩⟩ : SValue), u + 1, true) := by unfold getV; simp only [hg]; rfl
          rw [h] at hq
          simp only [Prod.mk.injEq] at hq
          exact ⟨hq.1.symm, hq.2.1.symm, hq.2.2.symm⟩
        have HZ := Aside0.mk (refZag_is hnb)
        have HZB := Aside0.mk (zag_in hnb)
        have HM := Aside0.mk (show mayV ⟨0, zagN n, ⟨#[]⟩⟩ = true from mayV_iff.2 (.inl ⟨rfl, (by decide +kernel : (⟨#[]⟩ : ByteArray).toList = [])⟩))
        generalize zagN n = z at *
        clear hg hq hw0
        obtain ⟨q, hwn⟩ : ∃ q, IntKind.wrap .i64 (n : Int) = q := ⟨_, rfl⟩
        go_enter Try.func42, Try.ntmps42
        go_wp2_with (first
          | (go_at_call 41; refine (towncrierref01_Get.yes A1 _ r _ HG.out HBR.out (Kd.C_below HD1.out (below_alloc (Below.refl _ _) _)) HL1.out).mono ?_; rintro e w1 ⟨rfl, hb1⟩; have HB1 := Aside0.mk (below_step (below_alloc (Below.refl _ _) _) hb1); have HKr1 := Aside0.mk (blk_below (blk_new w (.cells #[.int .i64 0, .int .i64 0, .string ⟨#[]⟩] 37)) hb1); obtain ⟨kr1, kr2, kr3, kr4⟩ := know HKr1.out; have hx1 := pw_cell_below HB1.out HX.out; clear hb1)
          | (go_at_call 56; refine (towncrierref01_Zag.calls (n : Int) _ _ HZ.out).mono ?_; rintro e w2 ⟨rfl, hd2⟩; have hb2 := hd2.below; have HB2 := Aside0.mk (below_step (below_alloc HB1.out _) hb2); have HKr2 := Aside0.mk (blk_below (blk_alloc HKr1.out _) hb2); have HKv2 := Aside0.mk (blk_below (blk_new w1 (.cells #[.int .i64 0, .int .i64 q, .string ⟨#[]⟩] 37)) hb2); have hcv2 := cells_of HKv2.out; have hfv2 := frozen_of HKv2.out; clear hb2 hd2)
          | (go_at_call 44; refine (refMayV_told ⟨0, z, ⟨#[]⟩⟩ _ HM.out).mono ?_; rintro e w3 ⟨rfl, hb3⟩; have HB3 := Aside0.mk (below_step (below_set (j := 1) (v := Value.int .i64 z) (g := w1.heap.size) HB2.out (below_size HB1.out)) hb3); have HKr3 := Aside0.mk (blk_below (blk_far HKr2.out (p := ⟨w1.heap.size, 1, none⟩) (Nat.ne_of_lt (blk_lt HKr1.out)) (Value.int .i64 z)) hb3); have HKv3 := Aside0.mk (blk_below (blk_set HKv2.out 1 (Value.int .i64 z)) hb3); have hcr3 := cells_of HKr3.out; have hfr3 := frozen_of HKr3.out; have hcv3 := cells_of HKv3.out; clear hb3))
        have hz := blk_put3 HKr3.out (.int .i64 0) (.int .i64 z) (.string ⟨#[]⟩)
        have hbz := below_put3 HB3.out (Nat.le_refl _) (.int .i64 0) (.int .i64 z) (.string ⟨#[]⟩)
        generalize World.setCell (World.setCell (World.setCell _ _ _) _ _) _ _ = W3 at hz hbz ⊢
        have hz0 : W3.cell? ⟨w.heap.size, 0, none⟩ = some (.int .i64 0) := blk_cell hz 0
        have hz1 : W3.cell? ⟨w.heap.size, 1, none⟩ = some (.int .i64 z) := blk_cell hz 1
        have hz2 : W3.cell? ⟨w.heap.size, 2, none⟩ = some (.string ⟨#[]⟩) := blk_cell hz 2
        exact bodyPost_ret (v := .tuple #[.agg #[.int .i64 0, .int .i64 z, .string ⟨#[]⟩], .int .i64 (1 + (u : Int)), .bool true]) (by simp [results, Try.results42, go_sem, hz0, hz1, hz2]) rfl ⟨by rw [show 1 + (u : Int) = ((u + 1 : Nat) : Int) from by omega], hbz⟩
      · by_cases hk4 : k = 2
        · subst hk4
          have hq2 : gotV (getV (2 :: r)) = if n ≤ 40 ∧ n ≤ r.length - u then (⟨2, 0, strOfNums ((r.drop u).take n)⟩, u + 1 + n, true) else (⟨0, 0, ⟨#[]⟩⟩, 0, false) := by
            have h : getV (2 :: r) = if n ≤ 40 ∧ n ≤ r.length - u then some (⟨2, 0, strOfNums ((r.drop u).take n)⟩, u + 1 + n) else none := by
              unfold getV
              simp only [hg]
              rfl
            rw [h]
            split <;> rfl
          rw [hq2] at hq
          clear hq2 hk3
          have hwe : IntKind.wrap .u64 ((r.length : Int) + 1 - ((u : Int) + 1)) = (r.length : Int) + 1 - ((u : Int) + 1) := by rw [wrap_u64]; omega
          by_cases hfit : n ≤ r.length - u ∧ n ≤ 40
          · have hwn : IntKind.wrap .i64 (n : Int) = (n : Int) := IntWalk.i64_in _ (by omega)
            obtain ⟨A2, hcut2, hD2, hln2⟩ := mid_row (P := Try.prog) (d := Kd.int .u8) Try.underlying27 hi0 hsz0 (some ad) c (2 :: r) (u + 1) n (1 + (u : Int)) ((1 + (u : Int)) + (n : Int)) (by omega) (by omega) (by rw [HLN.out]; omega) HC.out
            rw [List.drop_succ_cons] at hD2 hln2
            rw [HLN.out] at hcut2
            have HD2 := Aside0.mk (hD2 w (by rw [HLN.out]; exact HR.out))
            have hstr := fun (W : World) (h : Below w.heap.size w W) => Kd.C_string (P := Try.prog) (c := c - (u + 1)) Try.underlying27 Try.underlying5 Try.underlying9 (Kd.C_below HD2.out h)
            have hsz : (strOfNums ((r.drop u).take n)).size = n := by rw [strOfNums_size]; exact hln2
            have HSTR := Aside0.mk hstr
            have HSZ := Aside0.mk hsz
            have hf1 : (n : Int) ≤ (r.length : Int) + 1 - ((u : Int) + 1) := by omega
            clear hD2 hln2 hstr hsz
            skip
            obtain ⟨rfl, rfl, rfl⟩ : x = ⟨2, 0, strOfNums ((r.drop u).take n)⟩ ∧ m = u + 1 + n ∧ b = true := by
              rw [if_pos ⟨hfit.2, hfit.1⟩] at hq
              simp only [Prod.mk.injEq] at hq
              exact ⟨hq.1.symm, hq.2.1.symm, hq.2.2.symm⟩
            have HM := Aside0.mk (show mayV ⟨2, 0, strOfNums ((r.drop u).take n)⟩ = true from by exact mayV_iff.2 (.inr (.inr (.inl ⟨rfl, rfl, by rw [HSZ.out]; omega⟩))))
            obtain ⟨hf2, hf3⟩ := hfit
            clear hf1
            have hf1 : (n : Int) ≤ (r.length : Int) + 1 - (1 + (u : Int)) := by omega
            have hf4 : (n : Int) ≤ 40 := by omega
            generalize strOfNums ((r.drop u).take n) = t at *
            clear hg hq hi0 hsz0
            go_enter Try.func42, Try.ntmps42
            go_wp2_with (first
              | (go_at_call 41; refine (towncrierref01_Get.yes A1 _ r _ HG.out HBR.out (Kd.C_below HD1.out (below_alloc (Below.refl _ _) _)) HL1.out).mono ?_; rintro e w1 ⟨rfl, hb1⟩; have HB1 := Aside0.mk (below_step (below_alloc (Below.refl _ _) _) hb1); have HKr1 := Aside0.mk (blk_below (blk_new w (.cells #[.int .i64 0, .int .i64 0, .string ⟨#[]⟩] 37)) hb1); obtain ⟨kr1, kr2, kr3, kr4⟩ := know HKr1.out; have hx1 := pw_cell_below HB1.out HX.out; have hstr1 := HSTR.out _ (below_alloc HB1.out (.cells #[.int .i64 2, .int .i64 0, .string ⟨#[]⟩] 37)); clear hb1)
              | (go_at_call 44; refine (refMayV_told ⟨2, 0, t⟩ _ HM.out).mono ?_; rintro e w3 ⟨rfl, hb3⟩; have HB3 := Aside0.mk (below_step (below_alloc HB1.out _) hb3); have HKr3 := Aside0.mk (blk_below (blk_alloc HKr1.out _) hb3); have HKv3 := Aside0.mk (blk_below (blk_new w1 (.cells #[.int .i64 2, .int .i64 0, .string t] 37)) hb3); have hcr3 := cells_of HKr3.out; have hfr3 := frozen_of HKr3.out; have hcv3 := cells_of HKv3.out; clear hb3))
            have hz := blk_put3 HKr3.out (.int .i64 2) (.int .i64 0) (.string t)
            have hbz := below_put3 HB3.out (Nat.le_refl _) (.int .i64 2) (.int .i64 0) (.string t)
            generalize World.setCell (World.setCell (World.setCell _ _ _) _ _) _ _ = W3 at hz hbz ⊢
            have hz0 : W3.cell? ⟨w.heap.size, 0, none⟩ = some (.int .i64 2) := blk_cell hz 0
            have hz1 : W3.cell? ⟨w.heap.size, 1, none⟩ = some (.int .i64 0) := blk_cell hz 1
            have hz2 : W3.cell? ⟨w.heap.size, 2, none⟩ = some (.string t) := blk_cell hz 2
            exact bodyPost_ret (v := .tuple #[.agg #[.int .i64 2, .int .i64 0, .string t], .int .i64 (1 + (u : Int) + (n : Int)), .bool true]) (by simp [results, Try.results42, go_sem, hz0, hz1, hz2]) rfl ⟨by rw [show 1 + (u : Int) + (n : Int) = ((u + 1 + n : Nat) : Int) from by omega], hbz⟩
          · obtain ⟨rfl, rfl, rfl⟩ : x = ⟨0, 0, ⟨#[]⟩⟩ ∧ m = 0 ∧ b = false := by
              rw [if_neg (by omega)] at hq
              simp only [Prod.mk.injEq] at hq
              exact ⟨hq.1.symm, hq.2.1.symm, hq.2.2.symm⟩
            by_cases h40 : n ≤ 40
            · have hwn : IntKind.wrap .i64 (n : Int) = (n : Int) := IntWalk.i64_in _ (by omega)
              have hf1 : (r.length : Int) + 1 - (1 + (u : Int)) < (n : Int) := by omega
              have hf4 : (n : Int) ≤ 40 := by omega
              clear hg hq hi0 hsz0 hfit
              go_enter Try.func42, Try.ntmps42
              go_wp2_with (go_at_call 41; refine (towncrierref01_Get.yes A1 _ r _ HG.out HBR.out (Kd.C_below HD1.out (below_alloc (Below.refl _ _) _)) HL1.out).mono ?_; rintro e w1 ⟨rfl, hb1⟩; have HB1 := Aside0.mk (below_step (below_alloc (Below.refl _ _) _) hb1); have HKr1 := Aside0.mk (blk_below (blk_new w (.cells #[.int .i64 0, .int .i64 0, .string ⟨#[]⟩] 37)) hb1); obtain ⟨kr1, kr2, kr3, kr4⟩ := know HKr1.out; have hx1 := pw_cell_below HB1.out HX.out; clear hb1)
              have hz := blk_put3 (blk_alloc HKr1.out (.cells #[.int .i64 2, .int .i64 (n : Int), .string ⟨#[]⟩] 37)) (.int .i64 0) (.int .i64 0) (.string ⟨#[]⟩)
              have hbz := below_put3 (below_alloc HB1.out (.cells #[.int .i64 2, .int .i64 (n : Int), .string ⟨#[]⟩] 37)) (Nat.le_refl _) (.int .i64 0) (.int .i64 0) (.string ⟨#[]⟩)
              generalize World.setCell (World.setCell (World.setCell _ _ _) _ _) _ _ = W3 at hz hbz ⊢
              have hz0 : W3.cell? ⟨w.heap.size, 0, none⟩ = some (.int .i64 0) := blk_cell hz 0
              have hz1 : W3.cell? ⟨w.heap.size, 1, none⟩ = some (.int .i64 0) := blk_cell hz 1
              have hz2 : W3.cell? ⟨w.heap.size, 2, none⟩ = some (.string ⟨#[]⟩) := blk_cell hz 2
              exact bodyPost_ret (v := .tuple #[.agg #[.int .i64 0, .int .i64 0, .string ⟨#[]⟩], .int .i64 0, .bool false]) (by simp [results, Try.results42, go_sem, hz0, hz1, hz2]) rfl ⟨rfl, hbz⟩
            · obtain ⟨q, hwn⟩ : ∃ q, IntKind.wrap .i64 (n : Int) = q := ⟨_, rfl⟩
              have hf1 : 40 < (n : Int) := by omega
              clear hg hq hi0 hsz0 hfit
              go_enter Try.func42, Try.ntmps42
              go_wp2_with (go_at_call 41; refine (towncrierref01_Get.yes A1 _ r _ HG.out HBR.out (Kd.C_below HD1.out (below_alloc (Below.refl _ _) _)) HL1.out).mono ?_; rintro e w1 ⟨rfl, hb1⟩; have HB1 := Aside0.mk (below_step (below_alloc (Below.refl _ _) _) hb1); have HKr1 := Aside0.mk (blk_below (blk_new w (.cells #[.int .i64 0, .int .i64 0, .string ⟨#[]⟩] 37)) hb1); obtain ⟨kr1, kr2, kr3, kr4⟩ := know HKr1.out; have hx1 := pw_cell_below HB1.out HX.out; clear hb1)
              have hz := blk_put3 (blk_alloc HKr1.out (.cells #[.int .i64 2, .int .i64 q, .string ⟨#[]⟩] 37)) (.int .i64 0) (.int .i64 0) (.string ⟨#[]⟩)
              have hbz := below_put3 (below_alloc HB1.out (.cells #[.int .i64 2, .int .i64 q, .string ⟨#[]⟩] 37)) (Nat.le_refl _) (.int .i64 0) (.int .i64 0) (.string ⟨#[]⟩)
              generalize World.setCell (World.setCell (World.setCell _ _ _) _ _) _ _ = W3 at hz hbz ⊢
              have hz0 : W3.cell? ⟨w.heap.size, 0, none⟩ = some (.int .i64 0) := blk_cell hz 0
              have hz1 : W3.cell? ⟨w.heap.size, 1, none⟩ = some (.int .i64 0) := blk_cell hz 1
              have hz2 : W3.cell? ⟨w.heap.size, 2, none⟩ = some (.string ⟨#[]⟩) := blk_cell hz 2
              exact bodyPost_ret (v := .tuple #[.agg #[.int .i64 0, .int .i64 0, .string ⟨#[]⟩], .int .i64 0, .bool false]) (by simp [results, Try.results42, go_sem, hz0, hz1, hz2]) rfl ⟨rfl, hbz⟩
        · have hq2 := getV_rest hg hk3 hk4 hnb
          rw [hq] at hq2
          clear hq
          have hqb : -9223372036854775808 ≤ IntKind.wrap .i64 (n : Int) ∧ IntKind.wrap .i64 (n : Int) ≤ 9223372036854775807 := by rw [wrap_i64]; unfold wrap64; omega
          obtain ⟨q, hwn⟩ : ∃ q, IntKind.wrap .i64 (n : Int) = q := ⟨_, rfl⟩
          rw [hwn] at hq2 hqb
          have HQB := Aside0.mk hqb
          have e0 : (k == 0) = false := by simpa using hk3
          have e2 : (k == 2) = false := by simpa using hk4
          clear hqb hg hi0 hsz0 hk3 hk4
          cases hm : mayV ⟨k, q, ⟨#[]⟩⟩ with
          | false =>
            rw [hm] at hq2
            obtain ⟨rfl, rfl, rfl⟩ : x = ⟨0, 0, ⟨#[]⟩⟩ ∧ m = 0 ∧ b = false := by
              have h : (x, m, b) = ((⟨0, 0, ⟨#[]⟩⟩ : SValue), 0, false) := hq2
              simp only [Prod.mk.injEq] at h
              exact h
            have HM := Aside0.mk hm
            clear hm hq2
            go_enter Try.func42, Try.ntmps42
            go_wp2_with (first
              | (go_at_call 41; refine (towncrierref01_Get.yes A1 _ r _ HG.out HBR.out (Kd.C_below HD1.out (below_alloc (Below.refl _ _) _)) HL1.out).mono ?_; rintro e w1 ⟨rfl, hb1⟩; have HB1 := Aside0.mk (below_step (below_alloc (Below.refl _ _) _) hb1); have HKr1 := Aside0.mk (blk_below (blk_new w (.cells #[.int .i64 0, .int .i64 0, .string ⟨#[]⟩] 37)) hb1); obtain ⟨kr1, kr2, kr3, kr4⟩ := know HKr1.out; have hx1 := pw_cell_below HB1.out HX.out; clear hb1)
              | (go_at_call 44; refine (refMayV_told ⟨k, q, ⟨#[]⟩⟩ _ HM.out).mono ?_; rintro e w3 ⟨rfl, hb3⟩; have HB3 := Aside0.mk (below_step (below_alloc HB1.out _) hb3); have HKr3 := Aside0.mk (blk_below (blk_alloc HKr1.out _) hb3); have HKv3 := Aside0.mk (blk_below (blk_new w1 (.cells #[.int .i64 k, .int .i64 q, .string ⟨#[]⟩] 37)) hb3); have hcr3 := cells_of HKr3.out; have hfr3 := frozen_of HKr3.out; have hcv3 := cells_of HKv3.out; clear hb3))
            have hz := blk_put3 HKr3.out (.int .i64 0) (.int .i64 0) (.string ⟨#[]⟩)
            have hbz := below_put3 HB3.out (Nat.le_refl _) (.int .i64 0) (.int .i64 0) (.string ⟨#[]⟩)
            generalize World.setCell (World.setCell (World.setCell _ _ _) _ _) _ _ = W3 at hz hbz ⊢
            have hz0 : W3.cell? ⟨w.heap.size, 0, none⟩ = some (.int .i64 0) := blk_cell hz 0
            have hz1 : W3.cell? ⟨w.heap.size, 1, none⟩ = some (.int .i64 0) := blk_cell hz 1
            have hz2 : W3.cell? ⟨w.heap.size, 2, none⟩ = some (.string ⟨#[]⟩) := blk_cell hz 2
            exact bodyPost_ret (v := .tuple #[.agg #[.int .i64 0, .int .i64 0, .string ⟨#[]⟩], .int .i64 0, .bool false]) (by simp [results, Try.results42, go_sem, hz0, hz1, hz2]) rfl ⟨rfl, hbz⟩
          | true =>
            rw [hm] at hq2
            obtain ⟨rfl, rfl, rfl⟩ : x = ⟨k, q, ⟨#[]⟩⟩ ∧ m = u + 1 ∧ b = true := by
              have h : (x, m, b) = ((⟨k, q, ⟨#[]⟩⟩ : SValue), u + 1, true) := hq2
              simp only [Prod.mk.injEq] at h
              exact h
            have HM := Aside0.mk hm
            clear hm hq2
            go_enter Try.func42, Try.ntmps42
            go_wp2_with (first
              | (go_at_call 41; refine (towncrierref01_Get.yes A1 _ r _ HG.out HBR.out (Kd.C_below HD1.out (below_alloc (Below.refl _ _) _)) HL1.out).mono ?_; rintro e w1 ⟨rfl, hb1⟩; have HB1 := Aside0.mk (below_step (below_alloc (Below.refl _ _) _) hb1); have HKr1 := Aside0.mk (blk_below (blk_new w (.cells #[.int .i64 0, .int .i64 0, .string ⟨#[]⟩] 37)) hb1); obtain ⟨kr1, kr2, kr3, kr4⟩ := know HKr1.out; have hx1 := pw_cell_below HB1.out HX.out; clear hb1)
              | (go_at_call 44; refine (refMayV_told ⟨k, q, ⟨#[]⟩⟩ _ HM.out).mono ?_; rintro e w3 ⟨rfl, hb3⟩; have HB3 := Aside0.mk (below_step (below_alloc HB1.out _) hb3); have HKr3 := Aside0.mk (blk_below (blk_alloc HKr1.out _) hb3); have HKv3 := Aside0.mk (blk_below (blk_new w1 (.cells #[.int .i64 k, .int .i64 q, .string ⟨#[]⟩] 37)) hb3); have hcr3 := cells_of HKr3.out; have hfr3 := frozen_of HKr3.out; have hcv3 := cells_of HKv3.out; clear hb3))
            have hz := blk_put3 HKr3.out (.int .i64 k) (.int .i64 q) (.string ⟨#[]⟩)
            have hbz := below_put3 HB3.out (Nat.le_refl _) (.int .i64 k) (.int .i64 q) (.string ⟨#[]⟩)
            generalize World.setCell (World.setCell (World.setCell _ _ _) _ _) _ _ = W3 at hz hbz ⊢
            have hz0 : W3.cell? ⟨w.heap.size, 0, none⟩ = some (.int .i64 k) := blk_cell hz 0
            have hz1 : W3.cell? ⟨w.heap.size, 1, none⟩ = some (.int .i64 q) := blk_cell hz 1
            have hz2 : W3.cell? ⟨w.heap.size, 2, none⟩ = some (.string ⟨#[]⟩) := blk_cell hz 2
            exact bodyPost_ret (v := .tuple #[.agg #[.int .i64 k, .int .i64 q, .string ⟨#[]⟩], .int .i64 (1 + (u : Int)), .bool true]) (by simp [results, Try.results42, go_sem, hz0, hz1, hz2]) rfl ⟨by rw [show 1 + (u : Int) = ((u + 1 : Nat) : Int) from by omega], hbz⟩
end Go.Proofs.Ytandlemjjlamoaa.P

namespace Go.Proofs.Ytandlemjjlamoaa.P
open Go.RowKit Go.Proofs.YtandlemjjlamoaaW.PrintWords Go.Proofs.YtandlemjjlamoaaW.PrintLast Go.Proofs.YtandlemjjlamoaaW.PrintMore
attribute [local go_sem] max2_int min2_int max_two min_two max_three min_three max_four min_four   -- for this text's walks alone
set_option linter.unusedVariables false
set_option linter.unusedSimpArgs false
def numAny (n u : Nat) (b : Bool) (w : World) (e : Ending) (w' : World) : Prop := e = .returned (.tuple #[.int .u64 (n : Int), .int .i64 (u : Int), .bool b]) ∧ Below w.heap.size w w'
theorem ref01Get_any (ld : List Int) (hb : byteL ld) : ∃ n u b, ((b = true ∧ getN ld = some (n, u)) ∨ (b = false ∧ n = 0 ∧ u = 0 ∧ getN ld = none)) ∧ u ≤ ld.length ∧ n < 18446744073709551616 ∧ ∀ (A0 : Option Addr) (c0 : Nat) (w : World), Kd.C (Kd.int .u8) w A0 ld.length ld → ld.length ≤ c0 → Calls Try.prog 41 #[.slice A0 ld.length c0] w (numAny n u b w) := by
  cases hg : getN ld with
  | none => exact ⟨0, 0, false, .inr ⟨rfl, rfl, rfl, rfl⟩, Nat.zero_le _, by omega, fun A0 c0 w hr hc => towncrierref01_Get.no A0 c0 ld w hg hb hr hc⟩
  | some p =>
    obtain ⟨n, u⟩ := p
    exact ⟨n, u, true, .inl ⟨rfl, rfl⟩, (getN_used hg).2.1, by have := (getN_some hb hg).1; omega, fun A0 c0 w hr hc => towncrierref01_Get.yes A0 c0 ld w hg hb hr hc⟩
structure GetRe (Be : Nat) (nm : ByteArray) (tm : Int) (v : Value) (w w' : World) : Prop where
  r : w'.heap[w.heap.size]? = some (.cells #[.string ⟨#[]⟩, .int .i64 0, .slice none 0 0] 24 (0, 0))
  n : w'.heap[w.heap.size + 1]? = some (.cells #[.string ⟨#[]⟩, .int .i64 0, .slice none 0 0] 24 (0, 0))
  e : w'.heap[Be]? = some (.cells #[.string nm, .int .i64 tm, v] 24 (0, 0))
  be : w.heap.size + 1 < Be
  below : Below w.heap.size w w'
structure getRRel (l : List Int) (Be : Nat) (nm : ByteArray) (tm : Int) (many : Nat) (w : World) (k a : Nat) (w' : World) : Prop where
  le : k ≤ many
  at' : a ≤ l.length
  st : ∃ fs v, fs.length = k ∧ (∀ x ∈ fs, i64V x) ∧ getRawE l = contE l (many - k) a fs nm tm ∧ GetRe Be nm tm v w w' ∧ Kd.R kValue 37 w' w.heap.size (fun _ => True) v fs
set_option maxHeartbeats 8000000 in
set_option maxRecDepth 100000 in
theorem towncrierref06_Get.told (w : World) (A : Option Addr) (c : Nat) (l : List Int) (hr0 : Kd.C (Kd.int .u8) w A l.length l) (hc0 : l.length ≤ c) (hb : byteL l) (hl : l.length < 4611686018427387904) {x : SEvent} {m : Nat} {b : Bool} (hq : gotE (getE l) = (x, m, b)) :
    Calls Try.prog 18 #[.slice A l.length c] w (evPost3 x m b w) := by
  have HR := Aside0.mk hr0
  have HC := Aside0.mk hc0
  have HBY := Aside0.mk hb
  have HQ := Aside0.mk hq
  have hno : getE l = none → x = ⟨⟨#[]⟩, 0, []⟩ ∧ m = 0 ∧ b = false := fun h => by
    rw [h] at hq
    simp only [gotE, Prod.mk.injEq] at hq
    exact ⟨hq.1.symm, hq.2.1.symm, hq.2.2.symm⟩
  have HNO := Aside0.mk hno
  obtain ⟨i0, hi0, _, hsz0, _⟩ := info_parts info5
  clear hr0 hc0 hb hq hno
  cases hg1 : readT l 12 with
  | none =>
    obtain ⟨rfl, rfl, rfl⟩ := HNO.out (getE_none (by unfold getRawE; rw [hg1]))
    have HG1 := Aside0.mk hg1
    clear hg1 hi0 hsz0
    go_enter Try.func18, Try.ntmps18
    go_wp2_with (go_at_call 40; refine (towncrierref05_Read.no A c l 12 _ HG1.out (by omega) HBY.out (Kd.C_below HR.out (below_alloc (below_alloc (Below.refl _ _) _) _)) HC.out).mono ?_; rintro e w1 ⟨rfl, hb1⟩; have HR1 := Aside0.mk (blk_below (blk_alloc (blk_new w (.cells #[.string ⟨#[]⟩, .int .i64 0, .slice none 0 0] 24)) (.cells #[.string ⟨#[]⟩, .int .i64 0, .slice none 0 0] 24)) hb1); have HN1 := Aside0.mk (blk_below (blk_new2 w (.cells #[.string ⟨#[]⟩, .int .i64 0, .slice none 0 0] 24) (.cells #[.string ⟨#[]⟩, .int .i64 0, .slice none 0 0] 24)) hb1); have HB1 := Aside0.mk (below_step (below_alloc (below_alloc (Below.refl _ _) _) _) hb1); obtain ⟨r11, r12, r13, r14⟩ := know HR1.out; obtain ⟨n11, n12, _, _⟩ := know HN1.out)
    have hz := blk_put3 HR1.out (.string ⟨#[]⟩) (.int .i64 0) (.slice none 0 0)
    have hbz := below_put3 HB1.out (Nat.le_refl _) (.string ⟨#[]⟩) (.int .i64 0) (.slice none 0 0)
    generalize World.setCell (World.setCell (World.setCell _ _ _) _ _) _ _ = W3 at hz hbz ⊢
    have hz0 : W3.cell? ⟨w.heap.size, 0, none⟩ = some (.string ⟨#[]⟩) := blk_cell hz 0
    have hz1 : W3.cell? ⟨w.heap.size, 1, none⟩ = some (.int .i64 0) := blk_cell hz 1
    have hz2 : W3.cell? ⟨w.heap.size, 2, none⟩ = some (.slice none 0 0) := blk_cell hz 2
    exact bodyPost_ret (v := .tuple #[.agg #[.string ⟨#[]⟩, .int .i64 0, .slice none 0 0], .int .i64 0, .bool false]) (by simp [results, Try.results18, go_sem, hz0, hz1, hz2]) rfl ⟨none, 0, ⟨rfl, Nat.le_refl _, Kd.C_nil _ _⟩, hbz⟩
  | some p =>
    obtain ⟨t, u⟩ := p
    have hu := (readT_used hg1).1
    have htl := (readT_used hg1).2.1
    obtain ⟨n1, u1, b1, hq1, hu1, hn1, hC1⟩ := ref01Get_any (l.drop u) (byteL_drop HBY.out u)
    have hln1 : u + (l.drop u).length = l.length := by rw [List.length_drop]; omega
    obtain ⟨n2, u2, b2, hq2, hu2, hn2, hC2⟩ := ref01Get_any (l.drop (u + u1)) (byteL_drop HBY.out (u + u1))
    have hln2 : u + u1 + (l.drop (u + u1)).length = l.length := by rw [List.length_drop]; omega
    obtain ⟨A1, hcut1, hD1, hlc1⟩ := drop_row (P := Try.prog) (d := Kd.int .u8) Try.underlying27 hi0 hsz0 A c l u (u : Int) rfl hu HC.out
    obtain ⟨A2, hcut2, hD2, hlc2⟩ := drop_row (P := Try.prog) (d := Kd.int .u8) Try.underlying27 hi0 hsz0 A c l (u + u1) ((u : Int) + (u1 : Int)) (by omega) (by omega) HC.out
    have HG1 := Aside0.mk hg1
    have HD1 := Aside0.mk (hD1 w HR.out)
    have HD2 := Aside0.mk (hD2 w HR.out)
    have HL1 := Aside0.mk hlc1
    have HL2 := Aside0.mk hlc2
    have HC1 := Aside0.mk hC1
    have HC2 := Aside0.mk hC2
    have HQ1 := Aside0.mk hq1
    have HQ2 := Aside0.mk hq2
    have hs12 : u + u1 + u2 ≤ l.length := by omega
    have hs11 : u + u1 ≤ l.length := by omega
    clear hg1 hD1 hD2 hlc1 hlc2 hC1 hC2 hq1 hq2 hln1 hln2 hu1 hu2
    by_cases hok : b1 = true ∧ b2 = true ∧ n1 ≤ 1125899906842624 ∧ n2 ≤ 6
    · obtain ⟨rfl, rfl, h1000, h6⟩ := hok
      have HRAW : Aside0 (getRawE l = contE l n2 (u + u1 + u2) [] (strOfNums t) (n1 : Int)) := ⟨by
        have e1 : getN (l.drop u) = some (n1, u1) := by rcases HQ1.out with h | h; exact h.2; cases h.1
        have e2 : getN (l.drop (u + u1)) = some (n2, u2) := by rcases HQ2.out with h | h; exact h.2; cases h.1
        unfold getRawE
        rw [HG1.out]
        simp only
        unfold contT
        rw [getM_some e1, if_pos h1000]
        simp only
        unfold contN
        rw [getM_some e2, if_pos h6]⟩
      have hnms : (strOfNums t).size ≤ 12 := by rw [strOfNums_size]; exact htl
      clear HQ1 HQ2
      have hw2 : IntKind.i64.wrap ((n1 : Nat) : Int) = (n1 : Int) := IntWalk.i64_in _ (by omega)
      have hw3 : IntKind.i64.wrap ((n2 : Nat) : Int) = (n2 : Int) := IntWalk.i64_in _ (by omega)
      generalize l.drop u = ld1 at *
      generalize l.drop (u + u1) = ld2 at *
      obtain ⟨nm, hnm⟩ : ∃ nm, strOfNums t = nm := ⟨_, rfl⟩
      rw [hnm] at HRAW hnms
      go_enter Try.func18, Try.ntmps18
      go_wp2_with (first
        | (go_at_call 40; refine (towncrierref05_Read.yes A c l 12 _ HG1.out (by omega) HBY.out (Kd.C_below HR.out (below_alloc (below_alloc (Below.refl _ _) _) _)) HC.out).mono ?_; rintro e w1 ⟨rfl, hb1⟩; have HR1 := Aside0.mk (blk_below (blk_alloc (blk_new w (.cells #[.string ⟨#[]⟩, .int .i64 0, .slice none 0 0] 24)) (.cells #[.string ⟨#[]⟩, .int .i64 0, .slice none 0 0] 24)) hb1); have HN1 := Aside0.mk (blk_below (blk_new2 w (.cells #[.string ⟨#[]⟩, .int .i64 0, .slice none 0 0] 24) (.cells #[.string ⟨#[]⟩, .int .i64 0, .slice none 0 0] 24)) hb1); have HB1 := Aside0.mk (below_step (below_alloc (below_alloc (Below.refl _ _) _) _) hb1); obtain ⟨r11, r12, r13, r14⟩ := know HR1.out; obtain ⟨n11, n12, _, _⟩ := know HN1.out; clear hb1)
        | (go_at_call_of 41 (Value.slice A1 ld1.length (c - u)); refine (HC1.out A1 _ _ (Kd.C_below HD1.out HB1.out) HL1.out).mono ?_; rintro e w2 ⟨rfl, hb2⟩; have HR2 := Aside0.mk (blk_below HR1.out hb2); have HN2 := Aside0.mk (blk_below HN1.out hb2); have HB2 := Aside0.mk (below_step HB1.out hb2); obtain ⟨r21, r22, r23, r24⟩ := know HR2.out; obtain ⟨n21, n22, _, _⟩ := know HN2.out; clear hb2)
        | (go_at_call 41; refine (HC2.out A2 _ _ (Kd.C_below HD2.out HB2.out) HL2.out).mono ?_; rintro e w3 ⟨rfl, hb3⟩; have HR3 := Aside0.mk (blk_below HR2.out hb3); have HN3 := Aside0.mk (blk_below HN2.out hb3); have HB3 := Aside0.mk (below_step HB2.out hb3); obtain ⟨r31, r32, r33, r34⟩ := know HR3.out; obtain ⟨n31, n32, _, _⟩ := know HN3.out; clear hb3))
      have hbe : w.heap.size + 1 < w3.heap.size := blk_lt HN3.out
      have G0 : Aside0 (GetRe w3.heap.size nm (n1 : Int) (.slice none 0 0) w (w3.alloc (.cells #[.string nm, .int .i64 (n1 : Int), .slice none 0 0] 24))) := ⟨blk_alloc HR3.out _, blk_alloc HN3.out _, blk_new _ _, hbe, below_alloc HB3.out _⟩
      clear HR1 HN1 HB1 HR2 HN2 HB2 HR3 HN3 HB3 HC1 HC2 HD1 HD2 HL1 HL2 hcut1 hcut2 r11 r12 r13 r14 n11 n12 r21 r22 r23 r24 n21 n22 r31 r32 r33 r34 n31 n32
      go_loopw [7, 16, 17, 18, 19] (fun v7 v16 _ _ _ w' => ∃ k a : Nat, v16 = .int .i64 k ∧ v7 = .int .i64 a ∧ getRRel l w3.heap.size nm (n1 : Int) n2 w k a w') (fun _ i _ _ _ _ => n2 - (intOf i).toNat)
      case atStart => exact ⟨0, u + u1 + u2, rfl, by push_cast; rfl, Nat.zero_le _, hs12, [], _, rfl, (fun _ h => by cases h), HRAW.out, G0.out, Kd.R_nil _ _ _ _ _⟩
      case round =>
        obtain ⟨k, a, rfl, rfl, hk, hat, fs, v, hfl, hwf, hinv, hg, ho⟩ := hrel
        generalize w3.heap.size = Be at *
        have HINV := Aside0.mk hinv
        have HG := Aside0.mk hg
        have HO := Aside0.mk ho
        have HWF := Aside0.mk hwf
        have HFL := Aside0.mk hfl
        have hb1 := hg.be
        obtain ⟨r1, r2, r3, r4⟩ := know hg.r
        obtain ⟨m1, m2, _, _⟩ := know hg.n
        obtain ⟨e1, _, _, _⟩ := know hg.e
        clear hinv hg ho hwf hfl G0 HRAW
        by_cases hlt : k < n2
        · obtain ⟨A5, hcut5, hD5, hlc5⟩ := drop_row (P := Try.prog) (d := Kd.int .u8) Try.underlying27 hi0 hsz0 A c l a (a : Int) rfl hat HC.out
          have HD5 := Aside0.mk (hD5 wr (Kd.C_below HR.out HG.out.below))
          have HL5 := Aside0.mk hlc5
          have hal : a + (l.drop a).length = l.length := by rw [List.length_drop]; omega
          have HB5 := Aside0.mk (byteL_drop HBY.out a)
          have hinv := HINV.out
          rw [show n2 - k = (n2 - (k + 1)) + 1 from by omega, contE_step] at hinv
          clear hD5 hlc5 hi0 hsz0
          cases hg5 : getV (l.drop a) with
          | none =>
            rw [hg5] at hinv
            obtain ⟨rfl, rfl, rfl⟩ := HNO.out (getE_none hinv)
            have HQ5 : Aside0 (gotV (getV (l.drop a)) = (⟨0, 0, ⟨#[]⟩⟩, 0, false)) := ⟨by rw [hg5]; rfl⟩
            clear hinv hg5
            generalize l.drop a = ld at *
            go_wp2_with (go_at_call 42; refine (towncrierref04_Get.told wr A5 _ ld HD5.out HL5.out HB5.out (by omega) HQ5.out).mono ?_; rintro e w5 ⟨rfl, hb5⟩; have HR5 := Aside0.mk (blk_below HG.out.r hb5); have HN5 := Aside0.mk (blk_below HG.out.n hb5); have HB5 := Aside0.mk (below_step HG.out.below hb5); obtain ⟨r51, r52, r53, r54⟩ := know HR5.out; obtain ⟨n51, n52, _, _⟩ := know HN5.out)
            have hz := blk_put3 (blk_alloc HR5.out (.cells #[.int .i64 0, .int .i64 0, .string ⟨#[]⟩] 37)) (.string ⟨#[]⟩) (.int .i64 0) (.slice none 0 0)
            have hbz := below_put3 (below_alloc HB5.out (.cells #[.int .i64 0, .int .i64 0, .string ⟨#[]⟩] 37)) (Nat.le_refl _) (.string ⟨#[]⟩) (.int .i64 0) (.slice none 0 0)
            generalize World.setCell (World.setCell (World.setCell _ _ _) _ _) _ _ = W3 at hz hbz ⊢
            have hz0 : W3.cell? ⟨w.heap.size, 0, none⟩ = some (.string ⟨#[]⟩) := blk_cell hz 0
            have hz1 : W3.cell? ⟨w.heap.size, 1, none⟩ = some (.int .i64 0) := blk_cell hz 1
            have hz2 : W3.cell? ⟨w.heap.size, 2, none⟩ = some (.slice none 0 0) := blk_cell hz 2
            exact bodyPost_ret (v := .tuple #[.agg #[.string ⟨#[]⟩, .int .i64 0, .slice none 0 0], .int .i64 0, .bool false]) (by simp [results, Try.results18, go_sem, hz0, hz1, hz2]) rfl ⟨none, 0, ⟨rfl, Nat.le_refl _, Kd.C_nil _ _⟩, hbz⟩
          | some p5 =>
            obtain ⟨y, n5⟩ := p5
            rw [hg5] at hinv
            simp only at hinv
            obtain ⟨hyw, hn5, _⟩ := getV_i64 HB5.out hg5
            have HQ5 : Aside0 (gotV (getV (l.drop a)) = (y, n5, true)) := ⟨by rw [hg5]; rfl⟩
            have HI5 := Aside0.mk hinv
            have HYW := Aside0.mk hyw
            have hs5 : 0 ≤ (a : Int) + (n5 : Int) ∧ (a : Int) + (n5 : Int) ≤ 9223372036854775807 := by omega
            have hsa : a + n5 ≤ l.length := by omega
            clear hinv hg5 hyw
            generalize l.drop a = ld at *
            go_wp2_with (first
              | (go_at_call 42; refine (towncrierref04_Get.told wr A5 _ ld HD5.out HL5.out HB5.out (by omega) HQ5.out).mono ?_; rintro e w5 ⟨rfl, hb5⟩; have G5 := Aside0.mk (show GetRe Be nm (n1 : Int) v w w5 from ⟨blk_below HG.out.r hb5, blk_below HG.out.n hb5, blk_below HG.out.e hb5, hb1, below_step HG.out.below hb5⟩); have HO5 := Aside0.mk (Kd.R_below HO.out hb5); obtain ⟨_, e52, _, _⟩ := know G5.out.e; have hz5 : Be < w5.heap.size := blk_lt G5.out.e; clear hb5)
              | ((with_reducible refine gate_builtin (b := .append) (xs := #[.tmp 90, .tmp 92]) rfl ?_); at_builtin; refine Kd.R_append kValue (w0 := w) w.heap.size rfl (.tmp 90) (.tmp 92) 22 37 (.agg #[(.int .i64 0), (.int .i64 0), (.string ⟨#[]⟩)]) 32 rfl Try.underlying22 infoValue rfl (by decide) (by decide) v fs y [.int .i64 y.f0, .int .i64 y.f1, .string y.f2] (fun _ => True) (fun _ => False) rfl ?hx (kValue_mkM _ _ _ y) (fun _ h => h.elim) (fun _ _ => trivial) (Kd.R_alloc HO5.out (.cells #[.int .i64 y.f0, .int .i64 y.f1, .string y.f2] 37)) (below_alloc G5.out.below (.cells #[.int .i64 y.f0, .int .i64 y.f1, .string y.f2] 37)) (below_size (below_alloc G5.out.below (.cells #[.int .i64 y.f0, .int .i64 y.f1, .string y.f2] 37))) (by rw [HFL.out]; omega) ?_; (case hx => rw [World.size_alloc]; rfl); intro v6 w6 ho6 hb6 hg6 _; have HO6 := Aside0.mk ho6; have G6 := Aside0.mk (show GetRe Be nm (n1 : Int) v w w6 from ⟨blk_grown (blk_alloc G5.out.r (.cells #[.int .i64 y.f0, .int .i64 y.f1, .string y.f2] 37)) hg6 (Kd.R_ne HO5.out G5.out.r (by decide)), blk_grown (blk_alloc G5.out.n (.cells #[.int .i64 y.f0, .int .i64 y.f1, .string y.f2] 37)) hg6 (Kd.R_ne HO5.out G5.out.n (by decide)), blk_grown (blk_alloc G5.out.e (.cells #[.int .i64 y.f0, .int .i64 y.f1, .string y.f2] 37)) hg6 (Kd.R_ne HO5.out G5.out.e (by decide)), hb1, hb6⟩); obtain ⟨A6, c6, hv6⟩ := Kd.R_slice ho6; rw [List.length_append, List.length_singleton] at hv6; subst hv6; obtain ⟨e6, _, e6f, _⟩ := know G6.out.e; clear ho6 hb6 hg6))
            have HFN : Aside0 ((fs ++ [y]).length = k + 1) := ⟨by rw [List.length_append, HFL.out]; rfl⟩
            have HWN : Aside0 (∀ z ∈ fs ++ [y], i64V z) := ⟨fun z hz => by rcases List.mem_append.1 hz with h | h; exact HWF.out z h; rw [List.mem_singleton.1 h]; exact HYW.out⟩
            have G7 : Aside0 (GetRe Be nm (n1 : Int) (.slice A6 (fs.length + 1) c6) w (w6.setCell ⟨Be, 2, none⟩ (.slice A6 (fs.length + 1) c6))) := ⟨blk_far G6.out.r (p := ⟨Be, 2, none⟩) (show w.heap.size ≠ Be by omega) _, blk_far G6.out.n (p := ⟨Be, 2, none⟩) (show w.heap.size + 1 ≠ Be by omega) _, blk_put G6.out.e 2 _ rfl, hb1, G6.out.below.setCell (p := ⟨Be, 2, none⟩) (show w.heap.size ≤ Be by omega) _⟩
            have HO7 := Aside0.mk (Kd.R_set HO6.out G6.out.e (by decide) 2 (.slice A6 (fs.length + 1) c6))
            go_roundw
            case measure => simp [intOf]; omega
            case rel => exact ⟨k + 1, a + n5, by go_num, by go_num, by omega, hsa, fs ++ [y], _, HFN.out, HWN.out, HI5.out, G7.out, HO7.out⟩
        · obtain rfl : k = n2 := by omega
          obtain ⟨Av, cv, hv, hcv, hrv⟩ := Kd.R_reads HO.out
          subst hv
          have HRV := Aside0.mk hrv
          have HCV := Aside0.mk hcv
          have hend := HINV.out
          rw [Nat.sub_self, contE_end] at hend
          have HEND := Aside0.mk hend
          clear hrv hcv hend hi0 hsz0
          cases hm : mayE ⟨nm, (n1 : Int), fs⟩ with
          | false =>
            obtain ⟨rfl, rfl, rfl⟩ := HNO.out (by unfold getE; rw [HEND.out]; simp only [hm]; rfl)
            have HM := Aside0.mk hm
            clear hm
            go_wp2_with (go_at_call 20; refine (refMayE_told ⟨nm, (n1 : Int), fs⟩ Av cv _ HRV.out HCV.out (show nm.size ≤ _ by omega) (show fs.length < _ by have := HFL.out; omega) HM.out).mono ?_; rintro e w8 ⟨rfl, hb8⟩; have G8 := Aside0.mk (show GetRe Be nm (n1 : Int) (.slice Av fs.length cv) w w8 from ⟨blk_below HG.out.r hb8, blk_below HG.out.n hb8, blk_below HG.out.e hb8, hb1, below_step HG.out.below hb8⟩); have HO8 := Aside0.mk (Kd.R_below HO.out hb8); obtain ⟨p1, _, p3, _⟩ := know G8.out.r; obtain ⟨q1, _, _, _⟩ := know G8.out.e; obtain ⟨s1, _, _, _⟩ := know G8.out.n; clear hb8)
            have hz := blk_put3 G8.out.r (.string ⟨#[]⟩) (.int .i64 0) (.slice none 0 0)
            have hbz := below_put3 G8.out.below (Nat.le_refl _) (.string ⟨#[]⟩) (.int .i64 0) (.slice none 0 0)
            generalize World.setCell (World.setCell (World.setCell _ _ _) _ _) _ _ = W3 at hz hbz ⊢
            have hz0 : W3.cell? ⟨w.heap.size, 0, none⟩ = some (.string ⟨#[]⟩) := blk_cell hz 0
            have hz1 : W3.cell? ⟨w.heap.size, 1, none⟩ = some (.int .i64 0) := blk_cell hz 1
            have hz2 : W3.cell? ⟨w.heap.size, 2, none⟩ = some (.slice none 0 0) := blk_cell hz 2
            exact bodyPost_ret (v := .tuple #[.agg #[.string ⟨#[]⟩, .int .i64 0, .slice none 0 0], .int .i64 0, .bool false]) (by simp [results, Try.results18, go_sem, hz0, hz1, hz2]) rfl ⟨none, 0, ⟨rfl, Nat.le_refl _, Kd.C_nil _ _⟩, hbz⟩
          | true =>
            have hgo : gotE (getE l) = (⟨nm, (n1 : Int), fs⟩, a, true) := by unfold getE; rw [HEND.out]; simp only [hm]; rfl
            obtain ⟨rfl, rfl, rfl⟩ := evMk HQ.out hgo
            have HM := Aside0.mk hm
            clear hm hgo
            go_wp2_with (go_at_call 20; refine (refMayE_told ⟨nm, (n1 : Int), fs⟩ Av cv _ HRV.out HCV.out (show nm.size ≤ _ by omega) (show fs.length < _ by have := HFL.out; omega) HM.out).mono ?_; rintro e w8 ⟨rfl, hb8⟩; have G8 := Aside0.mk (show GetRe Be nm (n1 : Int) (.slice Av fs.length cv) w w8 from ⟨blk_below HG.out.r hb8, blk_below HG.out.n hb8, blk_below HG.out.e hb8, hb1, below_step HG.out.below hb8⟩); have HO8 := Aside0.mk (Kd.R_below HO.out hb8); obtain ⟨p1, _, p3, _⟩ := know G8.out.r; obtain ⟨q1, _, _, _⟩ := know G8.out.e; obtain ⟨s1, _, _, _⟩ := know G8.out.n; clear hb8)
            have hz := blk_put3 G8.out.r (.string nm) (.int .i64 (n1 : Int)) (.slice Av fs.length cv)
            have hbz := below_put3 G8.out.below (Nat.le_refl _) (.string nm) (.int .i64 (n1 : Int)) (.slice Av fs.length cv)
            have hrz := Kd.R_set (Kd.R_set (Kd.R_set HO8.out G8.out.r (by decide) 0 (.string nm)) (blk_set G8.out.r 0 _) (by decide) 1 (.int .i64 (n1 : Int))) (blk_set (blk_set G8.out.r 0 _) 1 _) (by decide) 2 (.slice Av fs.length cv)
            generalize World.setCell (World.setCell (World.setCell w8 _ _) _ _) _ _ = W3 at hz hbz hrz ⊢
            have hz0 : W3.cell? ⟨w.heap.size, 0, none⟩ = some (.string nm) := blk_cell hz 0
            have hz1 : W3.cell? ⟨w.heap.size, 1, none⟩ = some (.int .i64 (n1 : Int)) := blk_cell hz 1
            have hz2 : W3.cell? ⟨w.heap.size, 2, none⟩ = some (.slice Av fs.length cv) := blk_cell hz 2
            exact bodyPost_ret (v := .tuple #[.agg #[.string nm, .int .i64 (n1 : Int), .slice Av fs.length cv], .int .i64 (m : Int), .bool true]) (by simp [results, Try.results18, go_sem, hz0, hz1, hz2]) rfl ⟨Av, cv, ⟨rfl, HCV.out, (Kd.R_reads' hrz).2.2⟩, hbz⟩
    · have hN : getE l = none := getE_none (by
        unfold getRawE
        rw [HG1.out]
        simp only
        unfold contT
        rcases HQ1.out with ⟨h1, e1⟩ | ⟨h1, _, h0, e1⟩
        · rw [getM_some e1]
          by_cases h3 : n1 ≤ 1125899906842624
          · rw [if_pos h3]
            simp only
            unfold contN
            rcases HQ2.out with ⟨h2, e2⟩ | ⟨h2, _, _, e2⟩
            · rw [getM_some e2, if_neg (fun h4 => hok ⟨h1, h2, h3, h4⟩)]
            · rw [getM_none e2]
          · rw [if_neg h3]
        · rw [getM_none e1])
      obtain ⟨rfl, rfl, rfl⟩ := HNO.out hN
      clear HQ1 HQ2 hi0 hsz0 hN
      have hok2 : ¬ (b1 = true ∧ b2 = true ∧ (n1 : Int) ≤ 1125899906842624 ∧ (n2 : Int) ≤ 6) := fun h => hok ⟨h.1, h.2.1, by omega, by omega⟩
      have HOK := Aside0.mk hok2
      clear hok hok2
      generalize l.drop u = ld1 at *
      generalize l.drop (u + u1) = ld2 at *
      go_enter Try.func18, Try.ntmps18
      go_wp2_with (first
        | (go_at_call 40; refine (towncrierref05_Read.yes A c l 12 _ HG1.out (by omega) HBY.out (Kd.C_below HR.out (below_alloc (below_alloc (Below.refl _ _) _) _)) HC.out).mono ?_; rintro e w1 ⟨rfl, hb1⟩; have HR1 := Aside0.mk (blk_below (blk_alloc (blk_new w (.cells #[.string ⟨#[]⟩, .int .i64 0, .slice none 0 0] 24)) (.cells #[.string ⟨#[]⟩, .int .i64 0, .slice none 0 0] 24)) hb1); have HN1 := Aside0.mk (blk_below (blk_new2 w (.cells #[.string ⟨#[]⟩, .int .i64 0, .slice none 0 0] 24) (.cells #[.string ⟨#[]⟩, .int .i64 0, .slice none 0 0] 24)) hb1); have HB1 := Aside0.mk (below_step (below_alloc (below_alloc (Below.refl _ _) _) _) hb1); obtain ⟨r11, r12, r13, r14⟩ := know HR1.out; obtain ⟨n11, n12, _, _⟩ := know HN1.out; clear hb1)
        | (go_at_call_of 41 (Value.slice A1 ld1.length (c - u)); refine (HC1.out A1 _ _ (Kd.C_below HD1.out HB1.out) HL1.out).mono ?_; rintro e w2 ⟨rfl, hb2⟩; have HR2 := Aside0.mk (blk_below HR1.out hb2); have HN2 := Aside0.mk (blk_below HN1.out hb2); have HB2 := Aside0.mk (below_step HB1.out hb2); obtain ⟨r21, r22, r23, r24⟩ := know HR2.out; obtain ⟨n21, n22, _, _⟩ := know HN2.out; clear hb2)
        | (go_at_call 41; refine (HC2.out A2 _ _ (Kd.C_below HD2.out HB2.out) HL2.out).mono ?_; rintro e w3 ⟨rfl, hb3⟩; have HR3 := Aside0.mk (blk_below HR2.out hb3); have HN3 := Aside0.mk (blk_below HN2.out hb3); have HB3 := Aside0.mk (below_step HB2.out hb3); obtain ⟨r31, r32, r33, r34⟩ := know HR3.out; obtain ⟨n31, n32, _, _⟩ := know HN3.out; clear hb3))
      all_goals first
        | (exfalso; apply HOK.out; refine ⟨by assumption, by assumption, by omega, by omega⟩)
        | skip
      all_goals
        have hz := blk_put3 HR3.out (.string ⟨#[]⟩) (.int .i64 0) (.slice none 0 0)
        have hbz := below_put3 HB3.out (Nat.le_refl _) (.string ⟨#[]⟩) (.int .i64 0) (.slice none 0 0)
        generalize World.setCell (World.setCell (World.setCell _ _ _) _ _) _ _ = W3 at hz hbz ⊢
        have hz0 : W3.cell? ⟨w.heap.size, 0, none⟩ = some (.string ⟨#[]⟩) := blk_cell hz 0
        have hz1 : W3.cell? ⟨w.heap.size, 1, none⟩ = some (.int .i64 0) := blk_cell hz 1
        have hz2 : W3.cell? ⟨w.heap.size, 2, none⟩ = some (.slice none 0 0) := blk_cell hz 2
        exact bodyPost_ret (v := .tuple #[.agg #[.string ⟨#[]⟩, .int .i64 0, .slice none 0 0], .int .i64 0, .bool false]) (by simp [results, Try.results18, go_sem, hz0, hz1, hz2]) rfl ⟨none, 0, ⟨rfl, Nat.le_refl _, Kd.C_nil _ _⟩, hbz⟩
end Go.Proofs.Ytandlemjjlamoaa.P

namespace Go.Proofs.Ytandlemjjlamoaa.P
open Go.RowKit Go.Proofs.YtandlemjjlamoaaW.PrintWords Go.Proofs.YtandlemjjlamoaaW.PrintLast Go.Proofs.YtandlemjjlamoaaW.PrintMore
set_option linter.unusedVariables false
theorem wfE_vals {x : SEvent} (h : wfEvent x) : ∀ v ∈ x.f2, i64V v := fun v hv => i64V_of (h.2.2.2 v hv)
theorem wfE_few {x : SEvent} (h : wfEvent x) : x.f2.length < 4611686018427387904 := by have := h.2.2.1; omega
theorem lit_byte {l : List Int} (h : ∀ y ∈ l, (Lit.int .u8 y).wf = true) : byteL l := by
  intro c hc
  have h2 := h c hc
  have e1 : IntKind.min .u8 = 0 := rfl
  have e2 : IntKind.max .u8 = 255 := rfl
  simp only [Lit.wf, Bool.and_eq_true, decide_eq_true_eq, e1, e2] at h2
  omega
theorem gotE_some {l : List Int} {x : SEvent} {n : Nat} (h : getE l = some (x, n)) : gotE (getE l) = (x, n, true) := by rw [h]; rfl
theorem evGet_told {l : List Int} {x : SEvent} {m n : Nat} {b : Bool} (hq : gotE (getE l) = (x, m, b)) (hn : l.length = n) (w : World) (A : Option Addr) (c : Nat) (hr : Kd.C (Kd.int .u8) w A n l) (hc : n ≤ c) (hb : byteL l) (hl : n < 4611686018427387904) :
    Calls Try.prog 12 #[.slice A n c] w (evPost3 x m b w) := by
  subst hn
  exact event_Get.told w A c l hr hc hb hl hq
def exE : SEvent := ⟨⟨#[97]⟩, 5, []⟩
def exS6 : SSchema := ⟨⟨#[97]⟩, 1, []⟩
theorem exE_may : mayE exE = true := by decide +kernel
theorem exE_vals : ∀ v ∈ exE.f2, i64V v := fun _ h => by cases h
theorem exE_bytes : bytesE exE = [1, 97, 5, 0] := by
  unfold bytesE textL
  rw [show exE.f0.size = 1 from rfl, show exE.f1 = 5 from rfl, show exE.f2 = [] from rfl, lePut_small (by decide), show (5 : Int).toNat = 5 from rfl, show ([] : List SValue).length = 0 from rfl, lePut_small (by decide), lePut_small (by decide)]
  decide +kernel
theorem exE_get : getE [1, 97, 5, 0] = some (exE, 4) := by
  have h := getE_put (x := exE) [] exE_vals exE_may
  rw [List.append_nil, exE_bytes] at h
  exact h
theorem exE_valid : validE exS6 exE = 0 := by decide +kernel
set_option maxHeartbeats 2000000 in
set_option maxRecDepth 100000 in
theorem awake6_told (w : World) : Calls Try.prog 9 #[] w (boolPost true w) := by
  have hex0 : exE.f0.toList = [97] := by decide +kernel
  have HPUT := Aside0.mk (fun (W : World) => event_Put.told exE none 0 W (Kd.C_nil _ _) (Nat.le_refl _) exE_vals exE_may ((if_pos rfl).trans exE_bytes))
  go_enter Try.func9, Try.ntmps9
  go_wp2_with (first
    | (go_at_call 11; refine (HPUT.out _).mono ?_; rintro e w1 ⟨v1, rfl, ho1, hb1⟩; obtain ⟨A1, c1, hv1, hc1, hr1⟩ := Own8.reads ho1; subst hv1; have HR1 := Aside0.mk hr1; have HC1 := Aside0.mk hc1; clear ho1 hr1 hc1)
    | (go_at_call 12; refine (evGet_told (gotE_some exE_get) rfl _ A1 c1 HR1.out HC1.out (by decide) (by decide)).mono ?_; rintro e w2 ⟨A2, c2, ⟨rfl, hc2, hr2⟩, hb2⟩; have HR2 := Aside0.mk (Kd.C_below HR1.out hb2); have HE2 := Aside0.mk hr2; have HEC := Aside0.mk hc2; have HK2 := Aside0.mk (blk_new w2 (.cells #[.string exE.f0, .int .i64 exE.f1, .slice A2 exE.f2.length c2] 24)); obtain ⟨ad2, e2, hx2⟩ := Kd.at_int (Kd.C_alloc HR2.out (.cells #[.string exE.f0, .int .i64 exE.f1, .slice A2 exE.f2.length c2] 24)) 2 (by decide) (by decide); cases e2; have hx20 : (w2.alloc (.cells #[.string exE.f0, .int .i64 exE.f1, .slice A2 exE.f2.length c2] 24)).cell? ⟨ad2.block, ad2.off + 2, none⟩ = some (.int .u8 5) := hx2; clear hx2 hr2 hc2)
    | (go_at_call 13; refine (event_Valid.told exS6 exE none 0 A2 c2 _ (Kd.C_nil _ _) (Nat.le_refl _) (Kd.C_below HE2.out (below_alloc (Below.refl _ _) _)) HEC.out exE_vals exE_valid).mono ?_; rintro e w3 ⟨rfl, hb3⟩; have HK3 := Aside0.mk (blk_below HK2.out hb3); obtain ⟨k31, _, _, _⟩ := know HK3.out; have HB3 := Aside0.mk hb3; clear hb3)
    | (go_at_call 15; refine (event_May.told exE A2 c2 _ (Kd.C_below HE2.out (below_step (below_alloc (Below.refl _ _) _) HB3.out)) HEC.out exE_vals exE_may).mono ?_; rintro e w4 ⟨rfl, hb4⟩))
  go_ret
  exact ⟨rfl, below_step (below_step (below_alloc (below_step hb1 hb2) _) HB3.out) hb4⟩
end Go.Proofs.Ytandlemjjlamoaa.P

namespace Go.Proofs.Ytandlemjjlamoaa.P
open Go.RowKit Go.Proofs.YtandlemjjlamoaaW.PrintWords Go.Proofs.YtandlemjjlamoaaW.PrintLast Go.Proofs.YtandlemjjlamoaaW.PrintMore
attribute [local go_sem] max2_int min2_int max_two min_two max_three min_three max_four min_four   -- for this text's walks alone
set_option linter.unusedVariables false
set_option linter.unusedSimpArgs false
theorem openArg0_EventTells : Opens Try.prog 35 kSchema wfSchema := openSchema
theorem openArg1_EventTells : Opens Try.prog 24 kEvent wfEvent := openEvent
theorem openArg2_EventTells : Opens Try.prog 24 kEvent wfEvent := openEvent
theorem openArg3_EventTells : Opens Try.prog 27 (Kd.slice 5 (Kd.int .u8)) (fun x_ : List Int => x_.length * 1 ≤ 140737488351232 ∧ ∀ y_ ∈ x_, (Lit.int .u8 y_).wf = true) := (opens_slice Try.underlying27 (opens_int Try.underlying5) (by kernel_rfl) (by kernel_rfl))
def EventTells.Stmt : Prop := ∀ (W : World) (x0 : SSchema) (cs0 : List Value) (K0 : kSchema.K W x0 cs0) (w0 : wfSchema x0) (x1 : SEvent) (cs1 : List Value) (K1 : kEvent.K W x1 cs1) (w1 : wfEvent x1) (x2 : SEvent) (cs2 : List Value) (K2 : kEvent.K W x2 cs2) (w2 : wfEvent x2) (x3 : List Int) (A3 : Option Addr) (c3 : Nat) (hc3 : x3.length ≤ c3) (hr3 : Kd.C (Kd.int .u8) W A3 x3.length x3) (w3 : x3.length * 1 ≤ 140737488351232 ∧ ∀ y_ ∈ x3, (Lit.int .u8 y_).wf = true),
    Calls Try.prog 5 #[.agg cs0.toArray, .agg cs1.toArray, .agg cs2.toArray, .slice A3 x3.length c3] W fun e w' => e = .returned (.bool true) ∧ Below W.heap.size W w'
end Go.Proofs.Ytandlemjjlamoaa.P

namespace Go.Proofs.Ytandlemjjlamoaa.P
open Go.RowKit Go.Proofs.YtandlemjjlamoaaW.PrintWords Go.Proofs.YtandlemjjlamoaaW.PrintLast Go.Proofs.YtandlemjjlamoaaW.PrintMore
set_option linter.unusedVariables false
set_option linter.unusedSimpArgs false
set_option maxHeartbeats 40000000 in
set_option maxRecDepth 100000 in
theorem EventTells.walk : EventTells.Stmt := by
  intro W x0 cs0 K0 w0 x1 cs1 K1 w1 x2 cs2 K2 w2 x3 A3 c3 hc3 hr3 w3
  obtain ⟨A0, c0, rfl, hc0, hr0⟩ := kSchema_open K0
  obtain ⟨A1, c1, rfl, hc1, hr1⟩ := kEvent_open K1
  obtain ⟨A2, c2, rfl, hc2, hr2⟩ := kEvent_open K2
  have HR0 := Aside0.mk hr0
  have HC0 := Aside0.mk hc0
  have HR1 := Aside0.mk hr1
  have HC1 := Aside0.mk hc1
  have HR2 := Aside0.mk hr2
  have HC2 := Aside0.mk hc2
  have HR3 := Aside0.mk hr3
  have HC3 := Aside0.mk hc3
  have HV1 := Aside0.mk (wfE_vals w1)
  have HL1 := Aside0.mk (wfE_few w1)
  have HV2 := Aside0.mk (wfE_vals w2)
  have HL2 := Aside0.mk (wfE_few w2)
  have HOK0 := Aside0.mk (wf_okNames w0)
  obtain ⟨p, hp10, hpC⟩ := few6_told x1
  have HPC := Aside0.mk hpC
  obtain ⟨q, hq10, hqC⟩ := few6_told x2
  have HQC := Aside0.mk hqC
  obtain ⟨r, hr10, hrC⟩ := few5_told x0
  have HRC := Aside0.mk hrC
  have HBY := Aside0.mk (lit_byte w3.2)
  have HSZ := Aside0.mk w1.1
  have hx3 : x3.length < 4611686018427387904 := by have := w3.1; omega
  clear hr0 hc0 w0 K0 hr1 hc1 w1 K1 hr2 hc2 w2 K2 hr3 hc3 w3 hpC hp10 hqC hq10 hrC hr10
  by_cases hgo : p = true ∧ q = true ∧ r = true ∧ x3.length ≤ 400
  · obtain ⟨rfl, rfl, rfl, h400⟩ := hgo
    obtain ⟨m, hm⟩ : ∃ m, mayE x1 = m := ⟨_, rfl⟩
    obtain ⟨P, hP⟩ : ∃ P, (if m then bytesE x1 else []) = P := ⟨_, rfl⟩
    obtain ⟨sm, hsm⟩ : ∃ b, eqE x1 x2 = b := ⟨_, rfl⟩
    obtain ⟨vd, hvd⟩ : ∃ b, validE x0 x1 = b := ⟨_, rfl⟩
    obtain ⟨v, n, b, hg⟩ : ∃ v n b, gotE (getE x3) = (v, n, b) := ⟨_, _, _, rfl⟩
    have HG := Aside0.mk hg
    have HM := Aside0.mk hm
    have HP := Aside0.mk hP
    have HSM := Aside0.mk hsm
    have HVD := Aside0.mk hvd
    clear hg hm hP hsm hvd
    go_enter Try.func5, Try.ntmps5
    go_wp2_with fail
    go_at_call 9
    refine (awake6_told _).mono ?_
    rintro e w1_ ⟨rfl, hb1_⟩
    have HB1_ := Aside0.mk (below_step (below_alloc (below_alloc (below_alloc (Below.refl _ _) _) _) _) hb1_)
    have HKx01_ := Aside0.mk (blk_below (blk_alloc (blk_alloc (blk_new _ _) _) _) hb1_)
    obtain ⟨kx01a_, kx01b_, kx01c_, kx01d_⟩ := know HKx01_.out
    have HKx11_ := Aside0.mk (blk_below (blk_alloc (blk_new2 _ _ _) _) hb1_)
    obtain ⟨kx11a_, kx11b_, kx11c_, kx11d_⟩ := know HKx11_.out
    have HKx21_ := Aside0.mk (blk_below (blk_new3 _ _ _ _) hb1_)
    obtain ⟨kx21a_, kx21b_, kx21c_, kx21d_⟩ := know HKx21_.out
    clear hb1_
    go_wp2_with fail
    go_at_call_of 10 (Value.agg #[.string x1.f0, .int .i64 x1.f1, .slice A1 x1.f2.length c1])
    refine (HPC.out A1 c1 _ (Kd.C_below HR1.out (HB1_.out)) HC1.out).mono ?_
    rintro e w2_ ⟨rfl, hb2_⟩
    have HB2_ := Aside0.mk (below_step (HB1_.out) hb2_)
    have HKx02_ := Aside0.mk (blk_below (HKx01_.out) hb2_)
    obtain ⟨kx02a_, kx02b_, kx02c_, kx02d_⟩ := know HKx02_.out
    have HKx12_ := Aside0.mk (blk_below (HKx11_.out) hb2_)
    obtain ⟨kx12a_, kx12b_, kx12c_, kx12d_⟩ := know HKx12_.out
    have HKx22_ := Aside0.mk (blk_below (HKx21_.out) hb2_)
    obtain ⟨kx22a_, kx22b_, kx22c_, kx22d_⟩ := know HKx22_.out
    clear kx01a_ kx01b_ kx01c_ kx01d_ kx11a_ kx11b_ kx11c_ kx11d_ kx21a_ kx21b_ kx21c_ kx21d_
    clear hb2_
    go_wp2_with fail
    go_at_call_of 10 (Value.agg #[.string x2.f0, .int .i64 x2.f1, .slice A2 x2.f2.length c2])
    refine (HQC.out A2 c2 _ (Kd.C_below HR2.out (HB2_.out)) HC2.out).mono ?_
    rintro e w3_ ⟨rfl, hb3_⟩
    have HB3_ := Aside0.mk (below_step (HB2_.out) hb3_)
    have HKx03_ := Aside0.mk (blk_below (HKx02_.out) hb3_)
    obtain ⟨kx03a_, kx03b_, kx03c_, kx03d_⟩ := know HKx03_.out
    have HKx13_ := Aside0.mk (blk_below (HKx12_.out) hb3_)
    obtain ⟨kx13a_, kx13b_, kx13c_, kx13d_⟩ := know HKx13_.out
    have HKx23_ := Aside0.mk (blk_below (HKx22_.out) hb3_)
    obtain ⟨kx23a_, kx23b_, kx23c_, kx23d_⟩ := know HKx23_.out
    clear kx02a_ kx02b_ kx02c_ kx02d_ kx12a_ kx12b_ kx12c_ kx12d_ kx22a_ kx22b_ kx22c_ kx22d_
    clear hb3_
    go_wp2_with fail
    go_at_call_of 16 (Value.agg #[.string x0.f0, .int .i64 x0.f1, .slice A0 x0.f2.length c0])
    refine (HRC.out A0 c0 _ (Kd.C_below HR0.out (HB3_.out)) HC0.out).mono ?_
    rintro e w4_ ⟨rfl, hb4_⟩
    have HB4_ := Aside0.mk (below_step (HB3_.out) hb4_)
    have HKx04_ := Aside0.mk (blk_below (HKx03_.out) hb4_)
    obtain ⟨kx04a_, kx04b_, kx04c_, kx04d_⟩ := know HKx04_.out
    have HKx14_ := Aside0.mk (blk_below (HKx13_.out) hb4_)
    obtain ⟨kx14a_, kx14b_, kx14c_, kx14d_⟩ := know HKx14_.out
    have HKx24_ := Aside0.mk (blk_below (HKx23_.out) hb4_)
    obtain ⟨kx24a_, kx24b_, kx24c_, kx24d_⟩ := know HKx24_.out
    clear kx03a_ kx03b_ kx03c_ kx03d_ kx13a_ kx13b_ kx13c_ kx13d_ kx23a_ kx23b_ kx23c_ kx23d_
    clear hb4_
    go_wp2_with fail
    go_at_call_of 11 (Value.agg #[.string x1.f0, .int .i64 x1.f1, .slice A1 x1.f2.length c1])
    refine (event_Put.told x1 A1 c1 _ (Kd.C_below HR1.out (HB4_.out)) HC1.out HV1.out HM.out HP.out).mono ?_
    rintro e w5_ ⟨v5_, rfl, ho5_, hb5_⟩
    have HB5_ := Aside0.mk (below_step (HB4_.out) hb5_)
    have HKx05_ := Aside0.mk (blk_below (HKx04_.out) hb5_)
    obtain ⟨kx05a_, kx05b_, kx05c_, kx05d_⟩ := know HKx05_.out
    have HKx15_ := Aside0.mk (blk_below (HKx14_.out) hb5_)
    obtain ⟨kx15a_, kx15b_, kx15c_, kx15d_⟩ := know HKx15_.out
    have HKx25_ := Aside0.mk (blk_below (HKx24_.out) hb5_)
    obtain ⟨kx25a_, kx25b_, kx25c_, kx25d_⟩ := know HKx25_.out
    clear kx04a_ kx04b_ kx04c_ kx04d_ kx14a_ kx14b_ kx14c_ kx14d_ kx24a_ kx24b_ kx24c_ kx24d_
    clear hb5_
    obtain ⟨A5_, c5_, hv5_, hq5_, hp5_⟩ := Own8.reads ho5_
    subst hv5_
    have HP5_ := Aside0.mk hp5_
    have HQ5_ := Aside0.mk hq5_
    clear ho5_ hp5_ hq5_
    go_wp2_with fail
    go_at_call 17
    refine (towncrierref06_Put.told x1 A1 c1 _ (Kd.C_below HR1.out (HB5_.out)) HC1.out HSZ.out HL1.out HV1.out HM.out HP.out).mono ?_
    rintro e w6_ ⟨v6_, rfl, ho6_, hb6_⟩
    have HB6_ := Aside0.mk (below_step (HB5_.out) hb6_)
    have HKx06_ := Aside0.mk (blk_below (HKx05_.out) hb6_)
    obtain ⟨kx06a_, kx06b_, kx06c_, kx06d_⟩ := know HKx06_.out
    have HKx16_ := Aside0.mk (blk_below (HKx15_.out) hb6_)
    obtain ⟨kx16a_, kx16b_, kx16c_, kx16d_⟩ := know HKx16_.out
    have HKx26_ := Aside0.mk (blk_below (HKx25_.out) hb6_)
    obtain ⟨kx26a_, kx26b_, kx26c_, kx26d_⟩ := know HKx26_.out
    clear kx05a_ kx05b_ kx05c_ kx05d_ kx15a_ kx15b_ kx15c_ kx15d_ kx25a_ kx25b_ kx25c_ kx25d_
    have HRp6_ := Aside0.mk (Kd.C_below (HP5_.out) hb6_)
    clear hb6_
    obtain ⟨A6_, c6_, hv6_, hq6_, hp6_⟩ := Own8.reads ho6_
    subst hv6_
    have HP6_ := Aside0.mk hp6_
    have HQ6_ := Aside0.mk hq6_
    clear ho6_ hp6_ hq6_
    go_wp2_with fail
    go_at_call 12
    refine (evGet_told HG.out rfl _ A3 c3 (Kd.C_below HR3.out (HB6_.out)) HC3.out HBY.out hx3).mono ?_
    rintro e w7_ ⟨A7_, c7_, ⟨rfl, hg7_, hh7_⟩, hb7_⟩
    have HB7_ := Aside0.mk (below_step (HB6_.out) hb7_)
    have HKx07_ := Aside0.mk (blk_below (HKx06_.out) hb7_)
    obtain ⟨kx07a_, kx07b_, kx07c_, kx07d_⟩ := know HKx07_.out
    have HKx17_ := Aside0.mk (blk_below (HKx16_.out) hb7_)
    obtain ⟨kx17a_, kx17b_, kx17c_, kx17d_⟩ := know HKx17_.out
    have HKx27_ := Aside0.mk (blk_below (HKx26_.out) hb7_)
    obtain ⟨kx27a_, kx27b_, kx27c_, kx27d_⟩ := know HKx27_.out
    clear kx06a_ kx06b_ kx06c_ kx06d_ kx16a_ kx16b_ kx16c_ kx16d_ kx26a_ kx26b_ kx26c_ kx26d_
    have HRp7_ := Aside0.mk (Kd.C_below (HRp6_.out) hb7_)
    have HRr7_ := Aside0.mk (Kd.C_below (HP6_.out) hb7_)
    clear hb7_
    have HG7_ := Aside0.mk hg7_
    have HH7_ := Aside0.mk hh7_
    clear hg7_ hh7_
    go_wp2_with fail
    go_at_call 18
    refine (towncrierref06_Get.told _ A3 c3 x3 (Kd.C_below HR3.out (below_alloc (HB7_.out) _)) HC3.out HBY.out hx3 HG.out).mono ?_
    rintro e w8_ ⟨A8_, c8_, ⟨rfl, hg8_, hh8_⟩, hb8_⟩
    have HB8_ := Aside0.mk (below_step (below_alloc (HB7_.out) _) hb8_)
    have HKx08_ := Aside0.mk (blk_below (blk_alloc (HKx07_.out) _) hb8_)
    obtain ⟨kx08a_, kx08b_, kx08c_, kx08d_⟩ := know HKx08_.out
    have HKx18_ := Aside0.mk (blk_below (blk_alloc (HKx17_.out) _) hb8_)
    obtain ⟨kx18a_, kx18b_, kx18c_, kx18d_⟩ := know HKx18_.out
    have HKx28_ := Aside0.mk (blk_below (blk_alloc (HKx27_.out) _) hb8_)
    obtain ⟨kx28a_, kx28b_, kx28c_, kx28d_⟩ := know HKx28_.out
    have HKv8_ := Aside0.mk (blk_below (blk_new _ _) hb8_)
    obtain ⟨kv8a_, kv8b_, kv8c_, kv8d_⟩ := know HKv8_.out
    clear kx07a_ kx07b_ kx07c_ kx07d_ kx17a_ kx17b_ kx17c_ kx17d_ kx27a_ kx27b_ kx27c_ kx27d_
    have HRp8_ := Aside0.mk (Kd.C_below (Kd.C_alloc (HRp7_.out) _) hb8_)
    have HRr8_ := Aside0.mk (Kd.C_below (Kd.C_alloc (HRr7_.out) _) hb8_)
    have HRv8_ := Aside0.mk (Kd.C_below (Kd.C_alloc (HH7_.out) _) hb8_)
    clear hb8_
    have HG8_ := Aside0.mk hg8_
    have HH8_ := Aside0.mk hh8_
    clear hg8_ hh8_
    go_wp2_with fail
    go_at_call 19
    refine (refSameE_told v v A7_ c7_ A8_ c8_ _ (Kd.C_alloc (HRv8_.out) _) HG7_.out (Kd.C_alloc (HH8_.out) _) HG8_.out (eqE_refl v)).mono ?_
    rintro e w9_ ⟨rfl, hb9_⟩
    have HB9_ := Aside0.mk (below_step (below_alloc (HB8_.out) _) hb9_)
    have HKx09_ := Aside0.mk (blk_below (blk_alloc (HKx08_.out) _) hb9_)
    obtain ⟨kx09a_, kx09b_, kx09c_, kx09d_⟩ := know HKx09_.out
    have HKx19_ := Aside0.mk (blk_below (blk_alloc (HKx18_.out) _) hb9_)
    obtain ⟨kx19a_, kx19b_, kx19c_, kx19d_⟩ := know HKx19_.out
    have HKx29_ := Aside0.mk (blk_below (blk_alloc (HKx28_.out) _) hb9_)
    obtain ⟨kx29a_, kx29b_, kx29c_, kx29d_⟩ := know HKx29_.out
    have HKv9_ := Aside0.mk (blk_below (blk_alloc (HKv8_.out) _) hb9_)
    obtain ⟨kv9a_, kv9b_, kv9c_, kv9d_⟩ := know HKv9_.out
    have HKu9_ := Aside0.mk (blk_below (blk_new _ _) hb9_)
    obtain ⟨ku9a_, ku9b_, ku9c_, ku9d_⟩ := know HKu9_.out
    clear kx08a_ kx08b_ kx08c_ kx08d_ kx18a_ kx18b_ kx18c_ kx18d_ kx28a_ kx28b_ kx28c_ kx28d_ kv8a_ kv8b_ kv8c_ kv8d_
    have HRp9_ := Aside0.mk (Kd.C_below (Kd.C_alloc (HRp8_.out) _) hb9_)
    have HRr9_ := Aside0.mk (Kd.C_below (Kd.C_alloc (HRr8_.out) _) hb9_)
    have HRv9_ := Aside0.mk (Kd.C_below (Kd.C_alloc (HRv8_.out) _) hb9_)
    have HRu9_ := Aside0.mk (Kd.C_below (Kd.C_alloc (HH8_.out) _) hb9_)
    clear hb9_
    go_wp2_with fail
    go_at_call 20
    refine (refMayE_told x1 A1 c1 _ (Kd.C_below HR1.out (HB9_.out)) HC1.out HSZ.out HL1.out HM.out).mono ?_
    rintro e w10_ ⟨rfl, hb10_⟩
    have HB10_ := Aside0.mk (below_step (HB9_.out) hb10_)
    have HKx010_ := Aside0.mk (blk_below (HKx09_.out) hb10_)
    obtain ⟨kx010a_, kx010b_, kx010c_, kx010d_⟩ := know HKx010_.out
    have HKx110_ := Aside0.mk (blk_below (HKx19_.out) hb10_)
    obtain ⟨kx110a_, kx110b_, kx110c_, kx110d_⟩ := know HKx110_.out
    have HKx210_ := Aside0.mk (blk_below (HKx29_.out) hb10_)
    obtain ⟨kx210a_, kx210b_, kx210c_, kx210d_⟩ := know HKx210_.out
    clear kx09a_ kx09b_ kx09c_ kx09d_ kx19a_ kx19b_ kx19c_ kx19d_ kx29a_ kx29b_ kx29c_ kx29d_ kv9a_ kv9b_ kv9c_ kv9d_ ku9a_ ku9b_ ku9c_ ku9d_
    have HRp10_ := Aside0.mk (Kd.C_below (HRp9_.out) hb10_)
    have HRr10_ := Aside0.mk (Kd.C_below (HRr9_.out) hb10_)
    clear hb10_
    go_wp2_with fail
    go_at_call 19
    refine (refSameE_told x1 x2 A1 c1 A2 c2 _ (Kd.C_below HR1.out (HB10_.out)) HC1.out (Kd.C_below HR2.out (HB10_.out)) HC2.out HSM.out).mono ?_
    rintro e w11_ ⟨rfl, hb11_⟩
    have HB11_ := Aside0.mk (below_step (HB10_.out) hb11_)
    have HKx011_ := Aside0.mk (blk_below (HKx010_.out) hb11_)
    obtain ⟨kx011a_, kx011b_, kx011c_, kx011d_⟩ := know HKx011_.out
    have HKx111_ := Aside0.mk (blk_below (HKx110_.out) hb11_)
    obtain ⟨kx111a_, kx111b_, kx111c_, kx111d_⟩ := know HKx111_.out
    have HKx211_ := Aside0.mk (blk_below (HKx210_.out) hb11_)
    obtain ⟨kx211a_, kx211b_, kx211c_, kx211d_⟩ := know HKx211_.out
    clear kx010a_ kx010b_ kx010c_ kx010d_ kx110a_ kx110b_ kx110c_ kx110d_ kx210a_ kx210b_ kx210c_ kx210d_
    have HRp11_ := Aside0.mk (Kd.C_below (HRp10_.out) hb11_)
    have HRr11_ := Aside0.mk (Kd.C_below (HRr10_.out) hb11_)
    clear hb11_
    have hs1_ := Kd.C_string (P := Try.prog) (c := c5_) Try.underlying27 Try.underlying5 Try.underlying9 (Kd.C_drew (HRp11_.out))
    have hs2_ := Kd.C_string (P := Try.prog) (c := c6_) Try.underlying27 Try.underlying5 Try.underlying9 (Kd.C_drew (HRr11_.out))
    go_wp2_with fail
    have hz0_0 : w11_.drew.cell? ⟨W.heap.size, 0, none⟩ = some (.string x0.f0) := blk_cell (blk_drew HKx011_.out) 0
    have hz0_1 : w11_.drew.cell? ⟨W.heap.size, 1, none⟩ = some (.int .i64 x0.f1) := blk_cell (blk_drew HKx011_.out) 1
    have hz0_2 : w11_.drew.cell? ⟨W.heap.size, 2, none⟩ = some (.slice A0 x0.f2.length c0) := blk_cell (blk_drew HKx011_.out) 2
    have hz1_0 : w11_.drew.cell? ⟨W.heap.size + 1, 0, none⟩ = some (.string x1.f0) := blk_cell (blk_drew HKx111_.out) 0
    have hz1_1 : w11_.drew.cell? ⟨W.heap.size + 1, 1, none⟩ = some (.int .i64 x1.f1) := blk_cell (blk_drew HKx111_.out) 1
    have hz1_2 : w11_.drew.cell? ⟨W.heap.size + 1, 2, none⟩ = some (.slice A1 x1.f2.length c1) := blk_cell (blk_drew HKx111_.out) 2
    have hz2_0 : w11_.drew.cell? ⟨W.heap.size + 1 + 1, 0, none⟩ = some (.string x2.f0) := blk_cell (blk_drew HKx211_.out) 0
    have hz2_1 : w11_.drew.cell? ⟨W.heap.size + 1 + 1, 1, none⟩ = some (.int .i64 x2.f1) := blk_cell (blk_drew HKx211_.out) 1
    have hz2_2 : w11_.drew.cell? ⟨W.heap.size + 1 + 1, 2, none⟩ = some (.slice A2 x2.f2.length c2) := blk_cell (blk_drew HKx211_.out) 2
    clear kx011a_ kx011b_ kx011c_ kx011d_ kx111a_ kx111b_ kx111c_ kx111d_ kx211a_ kx211b_ kx211c_ kx211d_
    go_region_held3 (fun w' => w'.cell? ⟨W.heap.size, 0, none⟩ = some (.string x0.f0) ∧ w'.cell? ⟨W.heap.size, 1, none⟩ = some (.int .i64 x0.f1) ∧ w'.cell? ⟨W.heap.size, 2, none⟩ = some (.slice A0 x0.f2.length c0) ∧ w'.cell? ⟨W.heap.size + 1, 0, none⟩ = some (.string x1.f0) ∧ w'.cell? ⟨W.heap.size + 1, 1, none⟩ = some (.int .i64 x1.f1) ∧ w'.cell? ⟨W.heap.size + 1, 2, none⟩ = some (.slice A1 x1.f2.length c1) ∧ w'.cell? ⟨W.heap.size + 1 + 1, 0, none⟩ = some (.string x2.f0) ∧ w'.cell? ⟨W.heap.size + 1 + 1, 1, none⟩ = some (.int .i64 x2.f1) ∧ w'.cell? ⟨W.heap.size + 1 + 1, 2, none⟩ = some (.slice A2 x2.f2.length c2) ∧ (Go.convert 27 9 (.slice A5_ P.length c5_)).run Try.prog w' = .ok (.string (strOfNums P)) w' ∧ (Go.convert 27 9 (.slice A6_ P.length c6_)).run Try.prog w' = .ok (.string (strOfNums P)) w')
      (first | exact ⟨hz0_0, hz0_1, hz0_2, hz1_0, hz1_1, hz1_2, hz2_0, hz2_1, hz2_2, hs1_, hs2_⟩ | (go_split_ands; refine ⟨?_, ?_, ?_, ?_, ?_, ?_, ?_, ?_, ?_, ?_, ?_⟩ <;> (first | assumption | (apply pw_cell_below; (first | exact hb23_ | exact hb22_ | exact hb21_ | exact hb20_); assumption))))
      (first
        | (go_at_call 15; refine (event_May.told x1 A1 c1 _ (Kd.C_below HR1.out (below_drew (HB11_.out))) HC1.out HV1.out HM.out).mono ?_; rintro e w20_ ⟨rfl, hb20_⟩; have HB20_ := Aside0.mk (below_step (below_drew (HB11_.out)) hb20_); have HRp20_ := Aside0.mk (Kd.C_below (Kd.C_drew (HRp11_.out)) hb20_); have HRr20_ := Aside0.mk (Kd.C_below (Kd.C_drew (HRr11_.out)) hb20_); have hs120_ := Kd.C_string (P := Try.prog) (c := c5_) Try.underlying27 Try.underlying5 Try.underlying9 HRp20_.out; have hs220_ := Kd.C_string (P := Try.prog) (c := c6_) Try.underlying27 Try.underlying5 Try.underlying9 HRr20_.out)
        | (go_at_call 21; refine (sameE_told x1 x2 A1 c1 A2 c2 _ (Kd.C_below HR1.out HB20_.out) HC1.out (Kd.C_below HR2.out HB20_.out) HC2.out HSM.out).mono ?_; rintro e w21_ ⟨rfl, hb21_⟩; have HB21_ := Aside0.mk (below_step HB20_.out hb21_); have HRp21_ := Aside0.mk (Kd.C_below (HRp20_.out) hb21_); have HRr21_ := Aside0.mk (Kd.C_below (HRr20_.out) hb21_); have hs121_ := Kd.C_string (P := Try.prog) (c := c5_) Try.underlying27 Try.underlying5 Try.underlying9 HRp21_.out; have hs221_ := Kd.C_string (P := Try.prog) (c := c6_) Try.underlying27 Try.underlying5 Try.underlying9 HRr21_.out)
        | (go_at_call 13; refine (event_Valid.told x0 x1 A0 c0 A1 c1 _ (Kd.C_below HR0.out HB21_.out) HC0.out (Kd.C_below HR1.out HB21_.out) HC1.out HV1.out HVD.out).mono ?_; rintro e w22_ ⟨rfl, hb22_⟩; have HB22_ := Aside0.mk (below_step HB21_.out hb22_); have HRp22_ := Aside0.mk (Kd.C_below (HRp21_.out) hb22_); have HRr22_ := Aside0.mk (Kd.C_below (HRr21_.out) hb22_); have hs122_ := Kd.C_string (P := Try.prog) (c := c5_) Try.underlying27 Try.underlying5 Try.underlying9 HRp22_.out; have hs222_ := Kd.C_string (P := Try.prog) (c := c6_) Try.underlying27 Try.underlying5 Try.underlying9 HRr22_.out)
        | (go_at_call 22; refine (refValid_told x0 x1 A0 c0 A1 c1 _ HOK0.out HSZ.out HL1.out (Kd.C_below HR0.out HB22_.out) HC0.out (Kd.C_below HR1.out HB22_.out) HC1.out HVD.out).mono ?_; rintro e w23_ ⟨rfl, hb23_⟩; have HB23_ := Aside0.mk (below_step HB22_.out hb23_); have HRp23_ := Aside0.mk (Kd.C_below (HRp22_.out) hb23_); have HRr23_ := Aside0.mk (Kd.C_below (HRr22_.out) hb23_); have hs123_ := Kd.C_string (P := Try.prog) (c := c5_) Try.underlying27 Try.underlying5 Try.underlying9 HRp23_.out; have hs223_ := Kd.C_string (P := Try.prog) (c := c6_) Try.underlying27 Try.underlying5 Try.underlying9 HRr23_.out))
    all_goals (go_wp2; go_ret; exact ⟨by simp, HB23_.out⟩)
  · have HNO := Aside0.mk hgo
    clear hgo
    have hcl : x3.length ≤ 400 ∨ 400 < x3.length := by omega
    rcases hcl with h4 | h4 <;> cases p <;> cases q <;> cases r
    all_goals first
      | (exfalso; apply HNO.out; refine ⟨rfl, rfl, rfl, ?_⟩ <;> assumption)
      | skip
    all_goals
      go_enter Try.func5, Try.ntmps5
      go_wp2_with fail
      go_at_call 9
      refine (awake6_told _).mono ?_
      rintro e w1_ ⟨rfl, hb1_⟩
      have HB1_ := Aside0.mk (below_step (below_alloc (below_alloc (below_alloc (Below.refl _ _) _) _) _) hb1_)
      have HKx01_ := Aside0.mk (blk_below (blk_alloc (blk_alloc (blk_new _ _) _) _) hb1_)
      obtain ⟨kx01a_, kx01b_, kx01c_, kx01d_⟩ := know HKx01_.out
      have HKx11_ := Aside0.mk (blk_below (blk_alloc (blk_new2 _ _ _) _) hb1_)
      obtain ⟨kx11a_, kx11b_, kx11c_, kx11d_⟩ := know HKx11_.out
      have HKx21_ := Aside0.mk (blk_below (blk_new3 _ _ _ _) hb1_)
      obtain ⟨kx21a_, kx21b_, kx21c_, kx21d_⟩ := know HKx21_.out
      clear hb1_
      go_wp2_with fail
      go_at_call_of 10 (Value.agg #[.string x1.f0, .int .i64 x1.f1, .slice A1 x1.f2.length c1])
      refine (HPC.out A1 c1 _ (Kd.C_below HR1.out (HB1_.out)) HC1.out).mono ?_
      rintro e w2_ ⟨rfl, hb2_⟩
      have HB2_ := Aside0.mk (below_step (HB1_.out) hb2_)
      have HKx02_ := Aside0.mk (blk_below (HKx01_.out) hb2_)
      obtain ⟨kx02a_, kx02b_, kx02c_, kx02d_⟩ := know HKx02_.out
      have HKx12_ := Aside0.mk (blk_below (HKx11_.out) hb2_)
      obtain ⟨kx12a_, kx12b_, kx12c_, kx12d_⟩ := know HKx12_.out
      have HKx22_ := Aside0.mk (blk_below (HKx21_.out) hb2_)
      obtain ⟨kx22a_, kx22b_, kx22c_, kx22d_⟩ := know HKx22_.out
      clear kx01a_ kx01b_ kx01c_ kx01d_ kx11a_ kx11b_ kx11c_ kx11d_ kx21a_ kx21b_ kx21c_ kx21d_
      clear hb2_
      go_wp2_with fail
      go_at_call_of 10 (Value.agg #[.string x2.f0, .int .i64 x2.f1, .slice A2 x2.f2.length c2])
      refine (HQC.out A2 c2 _ (Kd.C_below HR2.out (HB2_.out)) HC2.out).mono ?_
      rintro e w3_ ⟨rfl, hb3_⟩
      have HB3_ := Aside0.mk (below_step (HB2_.out) hb3_)
      have HKx03_ := Aside0.mk (blk_below (HKx02_.out) hb3_)
      obtain ⟨kx03a_, kx03b_, kx03c_, kx03d_⟩ := know HKx03_.out
      have HKx13_ := Aside0.mk (blk_below (HKx12_.out) hb3_)
      obtain ⟨kx13a_, kx13b_, kx13c_, kx13d_⟩ := know HKx13_.out
      have HKx23_ := Aside0.mk (blk_below (HKx22_.out) hb3_)
      obtain ⟨kx23a_, kx23b_, kx23c_, kx23d_⟩ := know HKx23_.out
      clear kx02a_ kx02b_ kx02c_ kx02d_ kx12a_ kx12b_ kx12c_ kx12d_ kx22a_ kx22b_ kx22c_ kx22d_
      clear hb3_
      go_wp2_with fail
      go_at_call_of 16 (Value.agg #[.string x0.f0, .int .i64 x0.f1, .slice A0 x0.f2.length c0])
      refine (HRC.out A0 c0 _ (Kd.C_below HR0.out (HB3_.out)) HC0.out).mono ?_
      rintro e w4_ ⟨rfl, hb4_⟩
      have HB4_ := Aside0.mk (below_step (HB3_.out) hb4_)
      have HKx04_ := Aside0.mk (blk_below (HKx03_.out) hb4_)
      obtain ⟨kx04a_, kx04b_, kx04c_, kx04d_⟩ := know HKx04_.out
      have HKx14_ := Aside0.mk (blk_below (HKx13_.out) hb4_)
      obtain ⟨kx14a_, kx14b_, kx14c_, kx14d_⟩ := know HKx14_.out
      have HKx24_ := Aside0.mk (blk_below (HKx23_.out) hb4_)
      obtain ⟨kx24a_, kx24b_, kx24c_, kx24d_⟩ := know HKx24_.out
      clear kx03a_ kx03b_ kx03c_ kx03d_ kx13a_ kx13b_ kx13c_ kx13d_ kx23a_ kx23b_ kx23c_ kx23d_
      clear hb4_
      go_wp2_with fail
      go_ret
      exact ⟨rfl, HB4_.out⟩
end Go.Proofs.Ytandlemjjlamoaa.P
