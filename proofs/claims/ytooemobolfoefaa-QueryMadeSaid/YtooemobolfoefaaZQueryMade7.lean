/- What QueryMade's row stands on: words, contracts of the functions that it reaches, plain facts, its walk (part 7): no condition but those that each theorem names. -/
import Derived.Test.YtooemobolfoefaaZQueryMade6
set_option linter.unusedVariables false
set_option linter.unusedSimpArgs false
namespace Go.Proofs.Ytooemobolfoefaa.P
open Go.RowKit Go.Proofs.YtooemobolfoefaaW.PrintWords Go.Proofs.YtooemobolfoefaaW.PrintLast Go.Proofs.YtooemobolfoefaaW.PrintMore
attribute [local go_sem] max2_int min2_int max_two min_two max_three min_three max_four min_four   -- for this text's walks alone
set_option linter.unusedVariables false
set_option linter.unusedSimpArgs false
mutual
def query_Check.j0 : Nat → List (SSchema) → Bool → List (SStep) → Int → Int → Int → Int → Option (Int)
  | 0, _, _, _, _, _, _, _ => none
  | k + 1, x0, x17, x171000, x171001, x171002, x171003, x171004 => if x17 = true then (some 1) else (query_Check.l0 k x0 x171000 (x171000.length : Int) 0 x171000 x171001 x171002 x171003 x171004)
def query_Check.l0 : Nat → List (SSchema) → List (SStep) → Int → Int → List (SStep) → Int → Int → Int → Int → Option (Int)
  | 0, _, _, _, _, _, _, _, _, _ => none
  | k + 1, x0, x19, x20, x21, x171000, x171001, x171002, x171003, x171004 => if x21 < x20 then (if 0 ≤ x21 then (if x21 < (x19.length : Int) then ((query_asks.f x0 ((rd_TStep x19 x21).f0) ((rd_TStep x19 x21).f1)).bind fun t184 => (if t184 = 0 then (query_Check.j2 k x0 t184 x19 x20 x21 ((rd_TStep x19 x21).f4) x171000 x171001 x171002 x171003 x171004 ((rd_TStep x19 x21).f0) ((rd_TStep x19 x21).f1) ((rd_TStep x19 x21).f2) ((rd_TStep x19 x21).f3) ((rd_TStep x19 x21).f4) ((rd_TStep x19 x21).f5) ((rd_TStep x19 x21).f6)) else (query_Check.j2 k x0 t184 x19 x20 x21 false x171000 x171001 x171002 x171003 x171004 ((rd_TStep x19 x21).f0) ((rd_TStep x19 x21).f1) ((rd_TStep x19 x21).f2) ((rd_TStep x19 x21).f3) ((rd_TStep x19 x21).f4) ((rd_TStep x19 x21).f5) ((rd_TStep x19 x21).f6)))) else (none)) else (none)) else (if 0 ≤ x171003 then (if x171003 < (x171000.length : Int) then ((registry_Find.f x0 ((rd_TStep x171000 x171003).f0)).bind fun bt174 => (if x171002 = 0 then (some 0) else (if x171004 < (bt174.2.2.1.length : Int) then (if 0 ≤ x171004 then (if ((rd_TField bt174.2.2.1 x171004).f1) = 0 then (some 0) else (some 5)) else (none)) else (some 5)))) else (none)) else (none))
def query_Check.j2 : Nat → List (SSchema) → Int → List (SStep) → Int → Int → Bool → List (SStep) → Int → Int → Int → Int → ByteArray → List (SOp) → Int → Int → Bool → ByteArray → List (SOp) → Option (Int)
  | 0, _, _, _, _, _, _, _, _, _, _, _, _, _, _, _, _, _, _ => none
  | k + 1, x0, x7, x19, x20, x21, x36, x171000, x171001, x171002, x171003, x171004, x184000, x184001, x184002, x184003, x184004, x184005, x184006 => if x36 = true then ((query_asks.f x0 x184005 x184006).bind fun t185 => (if t185 = 0 then (query_Check.l0 k x0 x19 x20 (wrap64 (x21 + 1)) x171000 x171001 x171002 x171003 x171004) else (some t185))) else (if x7 = 0 then (query_Check.l0 k x0 x19 x20 (wrap64 (x21 + 1)) x171000 x171001 x171002 x171003 x171004) else (some x7))
end
def query_Check.f (k : Nat) (l0 : List (SSchema)) (l1_0 : List (SStep)) (a1_1 : Int) (a1_2 : Int) (a1_3 : Int) (a1_4 : Int) : Option (Int) := (registry_May.f k l0).bind fun t171 => (if t171 = true then ((query_may.f k l1_0 a1_1 a1_2 a1_3 a1_4).bind fun t172 => (query_Check.j0 k l0 (!t172) l1_0 a1_1 a1_2 a1_3 a1_4)) else (query_Check.j0 k l0 true l1_0 a1_1 a1_2 a1_3 a1_4))
set_option maxHeartbeats 8000000 in
set_option maxRecDepth 100000 in
theorem query_Check.calls (k : Nat) (A0 : Option Addr) (c0 : Nat) (l0 : List (SSchema)) (A1_0 : Option Addr) (c1_0 : Nat) (l1_0 : List (SStep)) (a1_1 : Int) (a1_2 : Int) (a1_3 : Int) (a1_4 : Int) (r : Int) (w : World) (hr0 : Kd.C kSchema w A0 l0.length l0) (hc0 : l0.length ≤ c0) (hr1_0 : Kd.C kStep w A1_0 l1_0.length l1_0) (hc1_0 : l1_0.length ≤ c1_0) (h : query_Check.f k l0 l1_0 a1_1 a1_2 a1_3 a1_4 = some r) :
    Calls Try.prog 15 #[.slice A0 l0.length c0, .agg #[.slice A1_0 l1_0.length c1_0, .int .i64 a1_1, .int .i64 a1_2, .int .i64 a1_3, .int .i64 a1_4]] w fun e w' => e = .returned (.int .i64 r) ∧ Below w.heap.size w w' := by
  have hu24 := Try.underlying24
  have hu40 := Try.underlying40
  have hu43 := Try.underlying43
  have HR0 := Aside0.mk hr0
  have HC0 := Aside0.mk hc0
  clear hr0 hc0
  have HR1_0 := Aside0.mk hr1_0
  have HC1_0 := Aside0.mk hc1_0
  clear hr1_0 hc1_0
  have HB := Aside0.mk (Below.refl w.heap.size w)
  have H : ((registry_May.f k l0).bind fun t171 => (if t171 = true then ((query_may.f k l1_0 a1_1 a1_2 a1_3 a1_4).bind fun t172 => (query_Check.j0 k l0 (!t172) l1_0 a1_1 a1_2 a1_3 a1_4)) else (query_Check.j0 k l0 true l1_0 a1_1 a1_2 a1_3 a1_4))) = some r := h
  clear h
  have HC3 := Aside0.mk H
  clear H
  go_enter Try.func15, Try.ntmps15
  go_upto_region 1 with (first | ((with_reducible refine gate_dst (N := 3) rfl ?_); (try (refine gate_guard (by rfl) ?_; dsimp only)); refine box_event ?hg (N := 3) ?hd (cs := #[.slice A1_0 l1_0.length c1_0, .int .i64 a1_1, .int .i64 a1_2, .int .i64 a1_3, .int .i64 a1_4]) (t := 24) ?hr ?_; (case hd => rfl); (case hg => rfl); (case hr => first | (go_simp; done) | (go_simp; rfl)); intro gb170 hg w4 hbox hb; have n0_ := Aside0.mk (below_step (by repeat (first | (with_reducible first | exact HB.out | apply below_alloc | apply pw_below_drewN | apply below_drew1) | exact HB.out)) hb); have n1_ := Aside0.mk (hbox); have n2_ := Aside0.mk ((by rw [hg]; exact (below_size (by repeat (first | (with_reducible first | exact HB.out | apply below_alloc | apply pw_below_drewN | apply below_drew1) | exact HB.out))) : w.heap.size ≤ gb170)); have n3_ := Aside0.mk ((by rw [hg]; exact (below_size (by repeat (first | (with_reducible first | exact HB.out | apply below_alloc | apply pw_below_drewN | apply below_drew1) | exact HB.out))) : w.heap.size ≤ gb170)); clear HB; have HB := n0_; have BK170 := n1_; have GW170 := n2_; have GE170 := n3_; clear n0_ n1_ n2_ n3_; clear hb hbox hg))
  (try simp only [Act.put, List.setIfInBounds_toArray, List.set_cons_zero, List.set_cons_succ])
  go_cut [17] (fun v17 wc => ∃ (kq : Nat) (x17_2 : Bool), v17 = .bool x17_2 ∧ Aside0 (query_Check.j0 kq l0 x17_2 l1_0 a1_1 a1_2 a1_3 a1_4 = some r) ∧ Aside0 (kq ≤ k) ∧ Aside0 (wc.heap[gb170]? = some (.cells #[(.slice A1_0 l1_0.length c1_0), .int .i64 a1_1, .int .i64 a1_2, .int .i64 a1_3, .int .i64 a1_4] 24 (0, 0))) ∧ Aside0 (Below w.heap.size w wc))
  case first =>
    have H := HC3.out
    clear HC3
    replace H := Option.bind_eq_some_iff.mp H
    obtain ⟨t171, A50, H⟩ := H
    replace H : (if t171 = true then ((query_may.f k l1_0 a1_1 a1_2 a1_3 a1_4).bind fun t172 => (query_Check.j0 k l0 (!t172) l1_0 a1_1 a1_2 a1_3 a1_4)) else (query_Check.j0 k l0 true l1_0 a1_1 a1_2 a1_3 a1_4)) = some r := H
    have A5 := Aside0.mk A50
    clear A50
    by_cases c6 : t171 = true
    · subst c6
      have H1 : ((query_may.f k l1_0 a1_1 a1_2 a1_3 a1_4).bind fun t172 => (query_Check.j0 k l0 (!t172) l1_0 a1_1 a1_2 a1_3 a1_4)) = some r := by rw [if_pos rfl] at H; exact H
      clear H
      have H := H1
      clear H1
      replace H := Option.bind_eq_some_iff.mp H
      obtain ⟨t172, A70, H⟩ := H
      replace H : (query_Check.j0 k l0 (!t172) l1_0 a1_1 a1_2 a1_3 a1_4) = some r := H
      have A7 := Aside0.mk A70
      clear A70
      have H' := Aside0.mk H
      clear H
      go_wp2_with (first | ((with_reducible refine gate_callee (f := 29) rfl ?_); refine goesL_ (some 11) rfl rfl Try.func29 (by kernel_rfl) rfl #[.slice A0 l0.length c0] rfl (by (try simp only [List.map_toArray, List.map_cons, List.map_nil]); first | done | rfl | (simp only [List.length_drop, List.length_take]; rfl)) ?_; (with_reducible refine (registry_May.calls k _ _ l0 true _ ?side1 ?side2 A5.out).mono ?_); (case side1 => repeat (first | exact (Kd.C_below HR0.out HB.out) | (with_reducible refine Kd.C_alloc ?_ _) | (with_reducible refine Kd.C_drewN ?_ _) | (with_reducible refine Kd.C_drew ?_))); (case side2 => exact HC0.out); rintro e w8 ⟨rfl, hb⟩; refine ⟨_, rfl, ?_⟩; have n0_ := Aside0.mk (blk_below (g := gb170) (o := .cells #[.slice A1_0 l1_0.length c1_0, .int .i64 a1_1, .int .i64 a1_2, .int .i64 a1_3, .int .i64 a1_4] 24 (0, 0)) (by (with_reducible repeat (first | refine blk_drewN ?_ _ | refine blk_drew ?_ | refine blk_alloc ?_ _)); exact BK170.out) hb); have n1_ := Aside0.mk (below_step (by repeat (first | (with_reducible first | exact HB.out | apply below_alloc | apply pw_below_drewN | apply below_drew1 | refine below_set ?_ GE170.out) | exact HB.out)) hb); clear BK170; clear HB; have BK170 := n0_; have HB := n1_; clear n0_ n1_; (try clear hb); (try clear hb2); (try clear hk); (try clear hi); have hcz9_0 : w8.cell? ⟨gb170, 0, none⟩ = some (.slice A1_0 l1_0.length c1_0) := (blk_cell BK170.out 0).trans rfl; have hcz9_1 : w8.cell? ⟨gb170, 1, none⟩ = some (.int .i64 a1_1) := (blk_cell BK170.out 1).trans rfl; have hcz9_2 : w8.cell? ⟨gb170, 2, none⟩ = some (.int .i64 a1_2) := (blk_cell BK170.out 2).trans rfl; have hcz9_3 : w8.cell? ⟨gb170, 3, none⟩ = some (.int .i64 a1_3) := (blk_cell BK170.out 3).trans rfl; have hcz9_4 : w8.cell? ⟨gb170, 4, none⟩ = some (.int .i64 a1_4) := (blk_cell BK170.out 4).trans rfl; have hfz9_0 := blk_frozen BK170.out 0; have hfz9_1 := blk_frozen BK170.out 1; have hfz9_2 := blk_frozen BK170.out 2; have hfz9_3 := blk_frozen BK170.out 3; have hfz9_4 := blk_frozen BK170.out 4) | (go_at_call 21; (with_reducible refine (query_may.calls k _ _ l1_0 a1_1 a1_2 a1_3 a1_4 t172 _ ?side1 ?side2 A7.out).mono ?_); (case side1 => repeat (first | exact (Kd.C_below HR1_0.out HB.out) | (with_reducible refine Kd.C_alloc ?_ _) | (with_reducible refine Kd.C_drewN ?_ _) | (with_reducible refine Kd.C_drew ?_))); (case side2 => exact HC1_0.out); rintro e w10 ⟨rfl, hb⟩; have n0_ := Aside0.mk (blk_below (g := gb170) (o := .cells #[.slice A1_0 l1_0.length c1_0, .int .i64 a1_1, .int .i64 a1_2, .int .i64 a1_3, .int .i64 a1_4] 24 (0, 0)) (by (with_reducible repeat (first | refine blk_drewN ?_ _ | refine blk_drew ?_ | refine blk_alloc ?_ _)); exact BK170.out) hb); have n1_ := Aside0.mk (below_step (by repeat (first | (with_reducible first | exact HB.out | apply below_alloc | apply pw_below_drewN | apply below_drew1 | refine below_set ?_ GE170.out) | exact HB.out)) hb); clear BK170; clear HB; have BK170 := n0_; have HB := n1_; clear n0_ n1_; (try clear hb); (try clear hb2); (try clear hk); (try clear hi)))
      go_meet
      case rel => exact ⟨_, (!t172), (by first | rfl | (simp; done) | (simp [*]; done)), H', ⟨by first | omega | exact Nat.le_refl _⟩, ⟨by (with_reducible repeat (first | refine blk_drewN ?_ _ | refine blk_drew ?_ | refine blk_alloc ?_ _)); exact BK170.out⟩, ⟨by repeat (first | (with_reducible first | exact HB.out | apply below_alloc | apply pw_below_drewN | apply below_drew1 | refine below_set ?_ GE170.out) | exact HB.out)⟩⟩
    · replace c6 := Bool.eq_false_iff.mpr c6
      subst c6
      have H1 : (query_Check.j0 k l0 true l1_0 a1_1 a1_2 a1_3 a1_4) = some r := by rw [if_neg (show ¬ (false = true) by decide)] at H; exact H
      clear H
      have H := H1
      clear H1
      have H' := Aside0.mk H
      clear H
      go_wp2_with (first | ((with_reducible refine gate_callee (f := 29) rfl ?_); refine goesL_ (some 11) rfl rfl Try.func29 (by kernel_rfl) rfl #[.slice A0 l0.length c0] rfl (by (try simp only [List.map_toArray, List.map_cons, List.map_nil]); first | done | rfl | (simp only [List.length_drop, List.length_take]; rfl)) ?_; (with_reducible refine (registry_May.calls k _ _ l0 false _ ?side1 ?side2 A5.out).mono ?_); (case side1 => repeat (first | exact (Kd.C_below HR0.out HB.out) | (with_reducible refine Kd.C_alloc ?_ _) | (with_reducible refine Kd.C_drewN ?_ _) | (with_reducible refine Kd.C_drew ?_))); (case side2 => exact HC0.out); rintro e w11 ⟨rfl, hb⟩; refine ⟨_, rfl, ?_⟩; have n0_ := Aside0.mk (blk_below (g := gb170) (o := .cells #[.slice A1_0 l1_0.length c1_0, .int .i64 a1_1, .int .i64 a1_2, .int .i64 a1_3, .int .i64 a1_4] 24 (0, 0)) (by (with_reducible repeat (first | refine blk_drewN ?_ _ | refine blk_drew ?_ | refine blk_alloc ?_ _)); exact BK170.out) hb); have n1_ := Aside0.mk (below_step (by repeat (first | (with_reducible first | exact HB.out | apply below_alloc | apply pw_below_drewN | apply below_drew1 | refine below_set ?_ GE170.out) | exact HB.out)) hb); clear BK170; clear HB; have BK170 := n0_; have HB := n1_; clear n0_ n1_; (try clear hb); (try clear hb2); (try clear hk); (try clear hi)))
      go_meet
      case rel => exact ⟨_, (true), (by first | rfl | (simp; done) | (simp [*]; done)), H', ⟨by first | omega | exact Nat.le_refl _⟩, ⟨by (with_reducible repeat (first | refine blk_drewN ?_ _ | refine blk_drew ?_ | refine blk_alloc ?_ _)); exact BK170.out⟩, ⟨by repeat (first | (with_reducible first | exact HB.out | apply below_alloc | apply pw_below_drewN | apply below_drew1 | refine below_set ?_ GE170.out) | exact HB.out)⟩⟩
  case rest =>
    clear HC3
    try clear c1
    try clear c2
    try clear p2
    try clear c6
    try clear hcz9_0
    try clear hcz9_1
    try clear hcz9_2
    try clear hcz9_3
    try clear hcz9_4
    try clear hfz9_0
    try clear hfz9_1
    try clear hfz9_2
    try clear hfz9_3
    try clear hfz9_4
    obtain ⟨kq, x17_2, rfl, HA, HJ2, BK170, HB⟩ := hcut
    cases kq with
    | zero => exact absurd HA.out (by simp [query_Check.j0])
    | succ kj2 =>
      have H := HA.out
      clear HA
      simp only [query_Check.j0] at H
      by_cases c12 : x17_2 = true
      · subst c12
        have H1 : (some 1) = some r := by rw [if_pos rfl] at H; exact H
        clear H
        have H := H1
        clear H1
        obtain rfl := Option.some.inj H
        go_wp2
        go_ret
        exact ⟨by first | rfl | (simp [errW_none, errW_some] <;> rfl) | (simp [*, errW_none, errW_some] <;> rfl), by repeat (first | (with_reducible first | exact HB.out | apply below_alloc | apply pw_below_drewN | apply below_drew1 | refine below_set ?_ GE170.out) | exact HB.out)⟩
      · replace c12 := Bool.eq_false_iff.mpr c12
        subst c12
        have H1 : (query_Check.l0 kj2 l0 l1_0 (l1_0.length : Int) 0 l1_0 a1_1 a1_2 a1_3 a1_4) = some r := by rw [if_neg (show ¬ (false = true) by decide)] at H; exact H
        clear H
        have H := H1
        clear H1
        have H' := Aside0.mk H
        clear H
        have hcz13_0 : wc.cell? ⟨gb170, 0, none⟩ = some (.slice A1_0 l1_0.length c1_0) := (blk_cell BK170.out 0).trans rfl
        have hcz13_1 : wc.cell? ⟨gb170, 1, none⟩ = some (.int .i64 a1_1) := (blk_cell BK170.out 1).trans rfl
        have hcz13_2 : wc.cell? ⟨gb170, 2, none⟩ = some (.int .i64 a1_2) := (blk_cell BK170.out 2).trans rfl
        have hcz13_3 : wc.cell? ⟨gb170, 3, none⟩ = some (.int .i64 a1_3) := (blk_cell BK170.out 3).trans rfl
        have hcz13_4 : wc.cell? ⟨gb170, 4, none⟩ = some (.int .i64 a1_4) := (blk_cell BK170.out 4).trans rfl
        have hfz13_0 := blk_frozen BK170.out 0
        have hfz13_1 := blk_frozen BK170.out 1
        have hfz13_2 := blk_frozen BK170.out 2
        have hfz13_3 := blk_frozen BK170.out 3
        have hfz13_4 := blk_frozen BK170.out 4
        go_wp2
        go_loopg [21] kj2 (fun kq v21 w' => ∃ (x21_2 : Int), v21 = .int .i64 x21_2 ∧ Aside0 (query_Check.l0 kq l0 l1_0 (l1_0.length : Int) x21_2 l1_0 a1_1 a1_2 a1_3 a1_4 = some r) ∧ Aside0 (kq ≤ kj2) ∧ Aside0 (w'.heap[gb170]? = some (.cells #[(.slice A1_0 l1_0.length c1_0), .int .i64 a1_1, .int .i64 a1_2, .int .i64 a1_3, .int .i64 a1_4] 24 (0, 0))) ∧ Aside0 (Below w.heap.size w w'))
        case atStart => exact ⟨(0), (by first | rfl | (simp; done) | (simp [*]; done)), H', ⟨Nat.le_refl _⟩, ⟨by (with_reducible repeat (first | refine blk_drewN ?_ _ | refine blk_drew ?_ | refine blk_alloc ?_ _)); exact BK170.out⟩, ⟨by repeat (first | (with_reducible first | exact HB.out | apply below_alloc | apply pw_below_drewN | apply below_drew1 | refine below_set ?_ GE170.out) | exact HB.out)⟩⟩
        case round =>
          clear H'
          try clear c1
          try clear c2
          try clear p2
          try clear c6
          try clear c12
          try clear hcz13_0
          try clear hcz13_1
          try clear hcz13_2
          try clear hcz13_3
          try clear hcz13_4
          try clear hcz9_0
          try clear hcz9_1
          try clear hcz9_2
          try clear hcz9_3
          try clear hcz9_4
          try clear hfz13_0
          try clear hfz13_1
          try clear hfz13_2
          try clear hfz13_3
          try clear hfz13_4
          try clear hfz9_0
          try clear hfz9_1
          try clear hfz9_2
          try clear hfz9_3
          try clear hfz9_4
          try clear p2
          obtain ⟨x21_2, rfl, HA, HK2, BK170, HB⟩ := hrel
          cases gk with
          | zero => exact absurd HA.out (by simp [query_Check.l0])
          | succ k2 =>
            have H := HA.out
            clear HA
            simp only [query_Check.l0] at H
            by_cases c14 : x21_2 < (l1_0.length : Int)
            · rw [if_pos c14] at H
              have c14b0 : decide (x21_2 < (l1_0.length : Int)) = true := decide_eq_true c14
              clear c14
              by_cases c15 : 0 ≤ x21_2
              · rw [if_pos c15] at H
                have c15b0 : decide (0 ≤ x21_2) = true := decide_eq_true c15
                clear c15
                by_cases c16 : x21_2 < (l1_0.length : Int)
                · rw [if_pos c16] at H
                  have c16b0 : decide (x21_2 < (l1_0.length : Int)) = true := decide_eq_true c16
                  clear c16
                  replace H := Option.bind_eq_some_iff.mp H
                  obtain ⟨t184, A170, H⟩ := H
                  replace H : (if t184 = 0 then (query_Check.j2 k2 l0 t184 l1_0 (l1_0.length : Int) x21_2 ((rd_TStep l1_0 x21_2).f4) l1_0 a1_1 a1_2 a1_3 a1_4 ((rd_TStep l1_0 x21_2).f0) ((rd_TStep l1_0 x21_2).f1) ((rd_TStep l1_0 x21_2).f2) ((rd_TStep l1_0 x21_2).f3) ((rd_TStep l1_0 x21_2).f4) ((rd_TStep l1_0 x21_2).f5) ((rd_TStep l1_0 x21_2).f6)) else (query_Check.j2 k2 l0 t184 l1_0 (l1_0.length : Int) x21_2 false l1_0 a1_1 a1_2 a1_3 a1_4 ((rd_TStep l1_0 x21_2).f0) ((rd_TStep l1_0 x21_2).f1) ((rd_TStep l1_0 x21_2).f2) ((rd_TStep l1_0 x21_2).f3) ((rd_TStep l1_0 x21_2).f4) ((rd_TStep l1_0 x21_2).f5) ((rd_TStep l1_0 x21_2).f6))) = some r := H
                  have A17 := Aside0.mk A170
                  clear A170
                  have HC18 := Aside0.mk H
                  clear H
                  have p182 : 0 ≤ (x21_2 : Int) := of_decide_eq_true (by first | (with_reducible assumption) | assumption)
                  have q182 : x21_2 < (l1_0.length : Int) := of_decide_eq_true (by first | (with_reducible assumption) | assumption)
                  obtain ⟨ad182, A182_1, c182_1, A182_6, c182_6, e182, hx182_0, hx182_1, hx182_2, hx182_3, hx182_4, hx182_5, hx182_6, hl182_1, hi182_1, hl182_6, hi182_6⟩ := at_TStep HR1_0.out x21_2 p182 q182
                  cases e182
                  replace hx182_0 := (HB.out.cell (World.block_lt_of_cell? w _ hx182_0)).trans hx182_0
                  replace hx182_1 := (HB.out.cell (World.block_lt_of_cell? w _ hx182_1)).trans hx182_1
                  replace hx182_2 := (HB.out.cell (World.block_lt_of_cell? w _ hx182_2)).trans hx182_2
                  replace hx182_3 := (HB.out.cell (World.block_lt_of_cell? w _ hx182_3)).trans hx182_3
                  replace hx182_4 := (HB.out.cell (World.block_lt_of_cell? w _ hx182_4)).trans hx182_4
                  replace hx182_5 := (HB.out.cell (World.block_lt_of_cell? w _ hx182_5)).trans hx182_5
                  replace hx182_6 := (HB.out.cell (World.block_lt_of_cell? w _ hx182_6)).trans hx182_6
                  have HR182_1 := Aside0.mk hi182_1
                  have HC182_1 := Aside0.mk hl182_1
                  clear hi182_1 hl182_1
                  have HR182_6 := Aside0.mk hi182_6
                  have HC182_6 := Aside0.mk hl182_6
                  clear hi182_6 hl182_6
                  replace p182 := eq_true p182
                  replace q182 := eq_true q182
                  go_upto_region 7 with (first | ((with_reducible refine gate_dst (N := 6) rfl ?_); (try (refine gate_guard (by rfl) ?_; dsimp only)); refine box_event ?hg (N := 6) ?hd (cs := #[.string (⟨#[]⟩ : ByteArray), .slice none 0 0, .int .i64 0, .int .i64 0, .bool false, .string (⟨#[]⟩ : ByteArray), .slice none 0 0]) (t := 40) ?hr ?_; (case hd => rfl); (case hg => rfl); (case hr => first | (go_simp; done) | (go_simp; rfl)); intro gb183 hg w19 hbox hb; have n0_ := Aside0.mk (blk_below (g := gb170) (o := .cells #[.slice (some ad182) l1_0.length c1_0, .int .i64 a1_1, .int .i64 a1_2, .int .i64 a1_3, .int .i64 a1_4] 24 (0, 0)) (by (with_reducible repeat (first | refine blk_drewN ?_ _ | refine blk_drew ?_ | refine blk_alloc ?_ _)); exact BK170.out) hb); have n1_ := Aside0.mk (below_step (by repeat (first | (with_reducible first | exact HB.out | apply below_alloc | apply pw_below_drewN | apply below_drew1 | refine below_set ?_ GE170.out) | exact HB.out)) hb); have n2_ := Aside0.mk (hbox); have n3_ := Aside0.mk ((by rw [hg]; exact (below_size (by repeat (first | (with_reducible first | exact HB.out | apply below_alloc | apply pw_below_drewN | apply below_drew1 | refine below_set ?_ GE170.out) | exact HB.out))) : w.heap.size ≤ gb183)); have n4_ := Aside0.mk ((by rw [hg]; exact (below_size (by repeat (first | (with_reducible first | exact HB.out | apply below_alloc | apply pw_below_drewN | apply below_drew1 | refine below_set ?_ GE170.out) | exact HB.out))) : w.heap.size ≤ gb183)); have n5_ := Aside0.mk ((by rw [hg]; exact Nat.ne_of_lt (blk_lt (g := gb170) (o := .cells #[.slice (some ad182) l1_0.length c1_0, .int .i64 a1_1, .int .i64 a1_2, .int .i64 a1_3, .int .i64 a1_4] 24 (0, 0)) (by (with_reducible repeat (first | refine blk_drewN ?_ _ | refine blk_drew ?_ | refine blk_alloc ?_ _)); exact BK170.out)) : gb170 ≠ gb183)); have n6_ := Aside0.mk ((by rw [hg]; exact Nat.ne_of_gt (blk_lt (g := gb170) (o := .cells #[.slice (some ad182) l1_0.length c1_0, .int .i64 a1_1, .int .i64 a1_2, .int .i64 a1_3, .int .i64 a1_4] 24 (0, 0)) (by (with_reducible repeat (first | refine blk_drewN ?_ _ | refine blk_drew ?_ | refine blk_alloc ?_ _)); exact BK170.out)) : gb183 ≠ gb170)); clear BK170; clear HB; have BK170 := n0_; have HB := n1_; have BK183 := n2_; have GW183 := n3_; have GE183 := n4_; have NB170_183 := n5_; have NB183_170 := n6_; clear n0_ n1_ n2_ n3_ n4_ n5_ n6_; clear hb hbox hg; have hnb20 := NB183_170.out; have hnc20 := NB170_183.out; have hcz21_0 : w19.cell? ⟨gb183, 0, none⟩ = some (.string (⟨#[]⟩ : ByteArray)) := (blk_cell BK183.out 0).trans rfl; have hcz21_1 : w19.cell? ⟨gb183, 1, none⟩ = some (.slice none 0 0) := (blk_cell BK183.out 1).trans rfl; have hcz21_2 : w19.cell? ⟨gb183, 2, none⟩ = some (.int .i64 0) := (blk_cell BK183.out 2).trans rfl; have hcz21_3 : w19.cell? ⟨gb183, 3, none⟩ = some (.int .i64 0) := (blk_cell BK183.out 3).trans rfl; have hcz21_4 : w19.cell? ⟨gb183, 4, none⟩ = some (.bool false) := (blk_cell BK183.out 4).trans rfl; have hcz21_5 : w19.cell? ⟨gb183, 5, none⟩ = some (.string (⟨#[]⟩ : ByteArray)) := (blk_cell BK183.out 5).trans rfl; have hcz21_6 : w19.cell? ⟨gb183, 6, none⟩ = some (.slice none 0 0) := (blk_cell BK183.out 6).trans rfl; have hfz21_0 := blk_frozen BK183.out 0; have hfz21_1 := blk_frozen BK183.out 1; have hfz21_2 := blk_frozen BK183.out 2; have hfz21_3 := blk_frozen BK183.out 3; have hfz21_4 := blk_frozen BK183.out 4; have hfz21_5 := blk_frozen BK183.out 5; have hfz21_6 := blk_frozen BK183.out 6) | ((with_reducible refine gate_callee (f := 30) rfl ?_); refine goesL_ (some 30) rfl rfl Try.func30 (by kernel_rfl) rfl #[.slice A0 l0.length c0, .string ((rd_TStep l1_0 x21_2).f0), .slice A182_1 ((rd_TStep l1_0 x21_2).f1).length c182_1] rfl (by (try simp only [List.map_toArray, List.map_cons, List.map_nil]); first | done | rfl | (simp only [List.length_drop, List.length_take]; rfl)) ?_; (with_reducible refine (query_asks.calls _ _ l0 ((rd_TStep l1_0 x21_2).f0) _ _ ((rd_TStep l1_0 x21_2).f1) t184 _ ?side1 ?side2 ?side3 ?side4 A17.out).mono ?_); (case side1 => exact Kd.C_below HR0.out (by repeat (first | (with_reducible first | exact HB.out | apply below_alloc | apply pw_below_drewN | apply below_drew1 | refine below_set ?_ GE170.out | refine below_set ?_ GE183.out) | exact HB.out))); (case side2 => exact HC0.out); (case side3 => exact Kd.C_below HR182_1.out (by repeat (first | (with_reducible first | exact HB.out | apply below_alloc | apply pw_below_drewN | apply below_drew1 | refine below_set ?_ GE170.out | refine below_set ?_ GE183.out) | exact HB.out))); (case side4 => exact HC182_1.out); rintro e w22 ⟨rfl, hb⟩; refine ⟨_, rfl, ?_⟩; have n0_ := Aside0.mk (blk_below (g := gb170) (o := .cells #[.slice (some ad182) l1_0.length c1_0, .int .i64 a1_1, .int .i64 a1_2, .int .i64 a1_3, .int .i64 a1_4] 24 (0, 0)) (by (with_reducible repeat (first | refine blk_drewN ?_ _ | refine blk_drew ?_ | refine blk_alloc ?_ _)); refine blk_far ?_ NB170_183.out _; (with_reducible repeat (first | refine blk_drewN ?_ _ | refine blk_drew ?_ | refine blk_alloc ?_ _)); refine blk_far ?_ NB170_183.out _; (with_reducible repeat (first | refine blk_drewN ?_ _ | refine blk_drew ?_ | refine blk_alloc ?_ _)); refine blk_far ?_ NB170_183.out _; (with_reducible repeat (first | refine blk_drewN ?_ _ | refine blk_drew ?_ | refine blk_alloc ?_ _)); refine blk_far ?_ NB170_183.out _; (with_reducible repeat (first | refine blk_drewN ?_ _ | refine blk_drew ?_ | refine blk_alloc ?_ _)); refine blk_far ?_ NB170_183.out _; (with_reducible repeat (first | refine blk_drewN ?_ _ | refine blk_drew ?_ | refine blk_alloc ?_ _)); refine blk_far ?_ NB170_183.out _; (with_reducible repeat (first | refine blk_drewN ?_ _ | refine blk_drew ?_ | refine blk_alloc ?_ _)); refine blk_far ?_ NB170_183.out _; (with_reducible repeat (first | refine blk_drewN ?_ _ | refine blk_drew ?_ | refine blk_alloc ?_ _)); exact BK170.out) hb); have n1_ := Aside0.mk (blk_below (g := gb183) (o := .cells #[.string ((rd_TStep l1_0 x21_2).f0), .slice A182_1 ((rd_TStep l1_0 x21_2).f1).length c182_1, .int .i64 ((rd_TStep l1_0 x21_2).f2), .int .i64 ((rd_TStep l1_0 x21_2).f3), .bool ((rd_TStep l1_0 x21_2).f4), .string ((rd_TStep l1_0 x21_2).f5), .slice A182_6 ((rd_TStep l1_0 x21_2).f6).length c182_6] 40 (0, 0)) (by (with_reducible repeat (first | refine blk_drewN ?_ _ | refine blk_drew ?_ | refine blk_alloc ?_ _)); refine blk_put (cs := #[.string ((rd_TStep l1_0 x21_2).f0), .slice A182_1 ((rd_TStep l1_0 x21_2).f1).length c182_1, .int .i64 ((rd_TStep l1_0 x21_2).f2), .int .i64 ((rd_TStep l1_0 x21_2).f3), .bool ((rd_TStep l1_0 x21_2).f4), .string ((rd_TStep l1_0 x21_2).f5), .slice none 0 0]) ?_ 6 _ rfl; (with_reducible repeat (first | refine blk_drewN ?_ _ | refine blk_drew ?_ | refine blk_alloc ?_ _)); refine blk_put (cs := #[.string ((rd_TStep l1_0 x21_2).f0), .slice A182_1 ((rd_TStep l1_0 x21_2).f1).length c182_1, .int .i64 ((rd_TStep l1_0 x21_2).f2), .int .i64 ((rd_TStep l1_0 x21_2).f3), .bool ((rd_TStep l1_0 x21_2).f4), .string (⟨#[]⟩ : ByteArray), .slice none 0 0]) ?_ 5 _ rfl; (with_reducible repeat (first | refine blk_drewN ?_ _ | refine blk_drew ?_ | refine blk_alloc ?_ _)); refine blk_put (cs := #[.string ((rd_TStep l1_0 x21_2).f0), .slice A182_1 ((rd_TStep l1_0 x21_2).f1).length c182_1, .int .i64 ((rd_TStep l1_0 x21_2).f2), .int .i64 ((rd_TStep l1_0 x21_2).f3), .bool false, .string (⟨#[]⟩ : ByteArray), .slice none 0 0]) ?_ 4 _ rfl; (with_reducible repeat (first | refine blk_drewN ?_ _ | refine blk_drew ?_ | refine blk_alloc ?_ _)); refine blk_put (cs := #[.string ((rd_TStep l1_0 x21_2).f0), .slice A182_1 ((rd_TStep l1_0 x21_2).f1).length c182_1, .int .i64 ((rd_TStep l1_0 x21_2).f2), .int .i64 0, .bool false, .string (⟨#[]⟩ : ByteArray), .slice none 0 0]) ?_ 3 _ rfl; (with_reducible repeat (first | refine blk_drewN ?_ _ | refine blk_drew ?_ | refine blk_alloc ?_ _)); refine blk_put (cs := #[.string ((rd_TStep l1_0 x21_2).f0), .slice A182_1 ((rd_TStep l1_0 x21_2).f1).length c182_1, .int .i64 0, .int .i64 0, .bool false, .string (⟨#[]⟩ : ByteArray), .slice none 0 0]) ?_ 2 _ rfl; (with_reducible repeat (first | refine blk_drewN ?_ _ | refine blk_drew ?_ | refine blk_alloc ?_ _)); refine blk_put (cs := #[.string ((rd_TStep l1_0 x21_2).f0), .slice none 0 0, .int .i64 0, .int .i64 0, .bool false, .string (⟨#[]⟩ : ByteArray), .slice none 0 0]) ?_ 1 _ rfl; (with_reducible repeat (first | refine blk_drewN ?_ _ | refine blk_drew ?_ | refine blk_alloc ?_ _)); refine blk_put (cs := #[.string (⟨#[]⟩ : ByteArray), .slice none 0 0, .int .i64 0, .int .i64 0, .bool false, .string (⟨#[]⟩ : ByteArray), .slice none 0 0]) ?_ 0 _ rfl; (with_reducible repeat (first | refine blk_drewN ?_ _ | refine blk_drew ?_ | refine blk_alloc ?_ _)); exact BK183.out) hb); have n2_ := Aside0.mk (below_step (by repeat (first | (with_reducible first | exact HB.out | apply below_alloc | apply pw_below_drewN | apply below_drew1 | refine below_set ?_ GE170.out | refine below_set ?_ GE183.out) | exact HB.out)) hb); clear BK170; clear BK183; clear HB; have BK170 := n0_; have BK183 := n1_; have HB := n2_; clear n0_ n1_ n2_; (try clear hb); (try clear hb2); (try clear hk); (try clear hi)))
                  (try simp only [Act.put, List.setIfInBounds_toArray, List.set_cons_zero, List.set_cons_succ])
                  go_cut [36] (fun v36 wc => ∃ (kq : Nat) (x36_17 : Bool), v36 = .bool x36_17 ∧ Aside0 (query_Check.j2 kq l0 t184 l1_0 (l1_0.length : Int) x21_2 x36_17 l1_0 a1_1 a1_2 a1_3 a1_4 ((rd_TStep l1_0 x21_2).f0) ((rd_TStep l1_0 x21_2).f1) ((rd_TStep l1_0 x21_2).f2) ((rd_TStep l1_0 x21_2).f3) ((rd_TStep l1_0 x21_2).f4) ((rd_TStep l1_0 x21_2).f5) ((rd_TStep l1_0 x21_2).f6) = some r) ∧ Aside0 (kq ≤ k2) ∧ Aside0 (wc.heap[gb170]? = some (.cells #[(.slice (some ad182) l1_0.length c1_0), .int .i64 a1_1, .int .i64 a1_2, .int .i64 a1_3, .int .i64 a1_4] 24 (0, 0))) ∧ Aside0 (wc.heap[gb183]? = some (.cells #[.string ((rd_TStep l1_0 x21_2).f0), (.slice A182_1 ((rd_TStep l1_0 x21_2).f1).length c182_1), .int .i64 ((rd_TStep l1_0 x21_2).f2), .int .i64 ((rd_TStep l1_0 x21_2).f3), .bool ((rd_TStep l1_0 x21_2).f4), .string ((rd_TStep l1_0 x21_2).f5), (.slice A182_6 ((rd_TStep l1_0 x21_2).f6).length c182_6)] 40 (0, 0))) ∧ Aside0 (Below w.heap.size w wc))
                  case first =>
                    have H := HC18.out
                    clear HC18
                    by_cases c23 : t184 = 0
                    · rw [if_pos c23] at H
                      have c23b0 : (t184 == 0) = true := beq_iff_eq.mpr c23
                      have c23b1 : (t184 != 0) = false := bne_eq_false_iff_eq.mpr c23
                      clear c23
                      (first | rw [c23b0] | (simp only [i64_w, i32_w]; rw [c23b0]) | skip)
                      have H' := Aside0.mk H
                      clear H
                      have hnb24 := NB183_170.out
                      have hnc24 := NB170_183.out
                      have hcz25_0 : w22.cell? ⟨gb183, 0, none⟩ = some (.string ((rd_TStep l1_0 x21_2).f0)) := (blk_cell BK183.out 0).trans rfl
                      have hcz25_1 : w22.cell? ⟨gb183, 1, none⟩ = some (.slice A182_1 ((rd_TStep l1_0 x21_2).f1).length c182_1) := (blk_cell BK183.out 1).trans rfl
                      have hcz25_2 : w22.cell? ⟨gb183, 2, none⟩ = some (.int .i64 ((rd_TStep l1_0 x21_2).f2)) := (blk_cell BK183.out 2).trans rfl
                      have hcz25_3 : w22.cell? ⟨gb183, 3, none⟩ = some (.int .i64 ((rd_TStep l1_0 x21_2).f3)) := (blk_cell BK183.out 3).trans rfl
                      have hcz25_4 : w22.cell? ⟨gb183, 4, none⟩ = some (.bool ((rd_TStep l1_0 x21_2).f4)) := (blk_cell BK183.out 4).trans rfl
                      have hcz25_5 : w22.cell? ⟨gb183, 5, none⟩ = some (.string ((rd_TStep l1_0 x21_2).f5)) := (blk_cell BK183.out 5).trans rfl
                      have hcz25_6 : w22.cell? ⟨gb183, 6, none⟩ = some (.slice A182_6 ((rd_TStep l1_0 x21_2).f6).length c182_6) := (blk_cell BK183.out 6).trans rfl
                      have hfz25_0 := blk_frozen BK183.out 0
                      have hfz25_1 := blk_frozen BK183.out 1
                      have hfz25_2 := blk_frozen BK183.out 2
                      have hfz25_3 := blk_frozen BK183.out 3
                      have hfz25_4 := blk_frozen BK183.out 4
                      have hfz25_5 := blk_frozen BK183.out 5
                      have hfz25_6 := blk_frozen BK183.out 6
                      go_wp2
                      go_meet
                      case rel => exact ⟨_, ((rd_TStep l1_0 x21_2).f4), (by first | rfl | (simp; done) | (simp [*]; done)), H', ⟨by have := HJ2.out; have := HK2.out; first | omega | exact Nat.le_refl _⟩, ⟨by (with_reducible repeat (first | refine blk_drewN ?_ _ | refine blk_drew ?_ | refine blk_alloc ?_ _)); exact BK170.out⟩, ⟨by (with_reducible repeat (first | refine blk_drewN ?_ _ | refine blk_drew ?_ | refine blk_alloc ?_ _)); exact BK183.out⟩, ⟨by repeat (first | (with_reducible first | exact HB.out | apply below_alloc | apply pw_below_drewN | apply below_drew1 | refine below_set ?_ GE170.out | refine below_set ?_ GE183.out) | exact HB.out)⟩⟩
                    · rw [if_neg c23] at H
                      have c23b0 : (t184 == 0) = false := beq_eq_false_iff_ne.mpr c23
                      have c23b1 : (t184 != 0) = true := bne_iff_ne.mpr c23
                      (first | rw [c23b0] | (simp only [i64_w, i32_w]; rw [c23b0]) | skip)
                      have H' := Aside0.mk H
                      clear H
                      go_wp2
                      go_meet
                      case rel => exact ⟨_, (false), (by first | rfl | (simp; done) | (simp [*]; done)), H', ⟨by have := HJ2.out; have := HK2.out; first | omega | exact Nat.le_refl _⟩, ⟨by (with_reducible repeat (first | refine blk_drewN ?_ _ | refine blk_drew ?_ | refine blk_alloc ?_ _)); exact BK170.out⟩, ⟨by (with_reducible repeat (first | refine blk_drewN ?_ _ | refine blk_drew ?_ | refine blk_alloc ?_ _)); exact BK183.out⟩, ⟨by repeat (first | (with_reducible first | exact HB.out | apply below_alloc | apply pw_below_drewN | apply below_drew1 | refine below_set ?_ GE170.out | refine below_set ?_ GE183.out) | exact HB.out)⟩⟩
                  case rest =>
                    clear HC18
                    try clear c1
                    try clear p1
                    try clear q1
                    try clear hx1
                    try clear c2
                    try clear p2
                    try clear c3
                    try clear c6
                    try clear c12
                    try clear c14
                    try clear c14b0
                    try clear c15
                    try clear c15b0
                    try clear c16
                    try clear c16b0
                    try clear c18
                    try clear p18
                    try clear q18
                    try clear hx18
                    try clear c20
                    try clear c23
                    try clear c23b0
                    try clear c23b1
                    try clear c24
                    try clear hcz13_0
                    try clear hcz13_1
                    try clear hcz13_2
                    try clear hcz13_3
                    try clear hcz13_4
                    try clear hcz21_0
                    try clear hcz21_1
                    try clear hcz21_2
                    try clear hcz21_3
                    try clear hcz21_4
                    try clear hcz21_5
                    try clear hcz21_6
                    try clear hcz25_0
                    try clear hcz25_1
                    try clear hcz25_2
                    try clear hcz25_3
                    try clear hcz25_4
                    try clear hcz25_5
                    try clear hcz25_6
                    try clear hcz9_0
                    try clear hcz9_1
                    try clear hcz9_2
                    try clear hcz9_3
                    try clear hcz9_4
                    try clear hfz13_0
                    try clear hfz13_1
                    try clear hfz13_2
                    try clear hfz13_3
                    try clear hfz13_4
                    try clear hfz21_0
                    try clear hfz21_1
                    try clear hfz21_2
                    try clear hfz21_3
                    try clear hfz21_4
                    try clear hfz21_5
                    try clear hfz21_6
                    try clear hfz25_0
                    try clear hfz25_1
                    try clear hfz25_2
                    try clear hfz25_3
                    try clear hfz25_4
                    try clear hfz25_5
                    try clear hfz25_6
                    try clear hfz9_0
                    try clear hfz9_1
                    try clear hfz9_2
                    try clear hfz9_3
                    try clear hfz9_4
                    try clear hx182_0
                    try clear hx182_1
                    try clear hx182_2
                    try clear hx182_3
                    try clear hx182_4
                    try clear hx182_5
                    try clear hx182_6
                    try clear p182
                    try clear p2
                    try clear q182
                    obtain ⟨kq, x36_17, rfl, HA, HJ17, BK170, BK183, HB⟩ := hcut
                    cases kq with
                    | zero => exact absurd HA.out (by simp [query_Check.j2])
                    | succ kj17 =>
                      have H := HA.out
                      clear HA
                      simp only [query_Check.j2] at H
                      by_cases c26 : x36_17 = true
                      · subst c26
                        have H1 : ((query_asks.f l0 ((rd_TStep l1_0 x21_2).f5) ((rd_TStep l1_0 x21_2).f6)).bind fun t185 => (if t185 = 0 then (query_Check.l0 kj17 l0 l1_0 (l1_0.length : Int) (wrap64 (x21_2 + 1)) l1_0 a1_1 a1_2 a1_3 a1_4) else (some t185))) = some r := by rw [if_pos rfl] at H; exact H
                        clear H
                        have H := H1
                        clear H1
                        replace H := Option.bind_eq_some_iff.mp H
                        obtain ⟨t185, A270, H⟩ := H
                        replace H : (if t185 = 0 then (query_Check.l0 kj17 l0 l1_0 (l1_0.length : Int) (wrap64 (x21_2 + 1)) l1_0 a1_1 a1_2 a1_3 a1_4) else (some t185)) = some r := H
                        have A27 := Aside0.mk A270
                        clear A270
                        by_cases c28 : t185 = 0
                        · rw [if_pos c28] at H
                          have c28b0 : (t185 == 0) = true := beq_iff_eq.mpr c28
                          have c28b1 : (t185 != 0) = false := bne_eq_false_iff_eq.mpr c28
                          clear c28
                          have H' := Aside0.mk H
                          clear H
                          have hnb29 := NB183_170.out
                          have hnc29 := NB170_183.out
                          have hcz30_0 : wc.cell? ⟨gb183, 0, none⟩ = some (.string ((rd_TStep l1_0 x21_2).f0)) := (blk_cell BK183.out 0).trans rfl
                          have hcz30_1 : wc.cell? ⟨gb183, 1, none⟩ = some (.slice A182_1 ((rd_TStep l1_0 x21_2).f1).length c182_1) := (blk_cell BK183.out 1).trans rfl
                          have hcz30_2 : wc.cell? ⟨gb183, 2, none⟩ = some (.int .i64 ((rd_TStep l1_0 x21_2).f2)) := (blk_cell BK183.out 2).trans rfl
                          have hcz30_3 : wc.cell? ⟨gb183, 3, none⟩ = some (.int .i64 ((rd_TStep l1_0 x21_2).f3)) := (blk_cell BK183.out 3).trans rfl
                          have hcz30_4 : wc.cell? ⟨gb183, 4, none⟩ = some (.bool ((rd_TStep l1_0 x21_2).f4)) := (blk_cell BK183.out 4).trans rfl
                          have hcz30_5 : wc.cell? ⟨gb183, 5, none⟩ = some (.string ((rd_TStep l1_0 x21_2).f5)) := (blk_cell BK183.out 5).trans rfl
                          have hcz30_6 : wc.cell? ⟨gb183, 6, none⟩ = some (.slice A182_6 ((rd_TStep l1_0 x21_2).f6).length c182_6) := (blk_cell BK183.out 6).trans rfl
                          have hfz30_0 := blk_frozen BK183.out 0
                          have hfz30_1 := blk_frozen BK183.out 1
                          have hfz30_2 := blk_frozen BK183.out 2
                          have hfz30_3 := blk_frozen BK183.out 3
                          have hfz30_4 := blk_frozen BK183.out 4
                          have hfz30_5 := blk_frozen BK183.out 5
                          have hfz30_6 := blk_frozen BK183.out 6
                          go_wp2_with (first | ((with_reducible refine gate_callee (f := 30) rfl ?_); refine goesL_ (some 42) rfl rfl Try.func30 (by kernel_rfl) rfl #[.slice A0 l0.length c0, .string ((rd_TStep l1_0 x21_2).f5), .slice A182_6 ((rd_TStep l1_0 x21_2).f6).length c182_6] rfl (by (try simp only [List.map_toArray, List.map_cons, List.map_nil]); first | done | rfl | (simp only [List.length_drop, List.length_take]; rfl)) ?_; (with_reducible refine (query_asks.calls _ _ l0 ((rd_TStep l1_0 x21_2).f5) _ _ ((rd_TStep l1_0 x21_2).f6) t185 _ ?side1 ?side2 ?side3 ?side4 A27.out).mono ?_); (case side1 => repeat (first | exact (Kd.C_below HR0.out HB.out) | (with_reducible refine Kd.C_alloc ?_ _) | (with_reducible refine Kd.C_drewN ?_ _) | (with_reducible refine Kd.C_drew ?_))); (case side2 => exact HC0.out); (case side3 => repeat (first | exact (Kd.C_below HR182_6.out HB.out) | (with_reducible refine Kd.C_alloc ?_ _) | (with_reducible refine Kd.C_drewN ?_ _) | (with_reducible refine Kd.C_drew ?_))); (case side4 => exact HC182_6.out); rintro e w31 ⟨rfl, hb⟩; refine ⟨_, rfl, ?_⟩; have n0_ := Aside0.mk (blk_below (g := gb170) (o := .cells #[.slice (some ad182) l1_0.length c1_0, .int .i64 a1_1, .int .i64 a1_2, .int .i64 a1_3, .int .i64 a1_4] 24 (0, 0)) (by (with_reducible repeat (first | refine blk_drewN ?_ _ | refine blk_drew ?_ | refine blk_alloc ?_ _)); exact BK170.out) hb); have n1_ := Aside0.mk (blk_below (g := gb183) (o := .cells #[.string ((rd_TStep l1_0 x21_2).f0), .slice A182_1 ((rd_TStep l1_0 x21_2).f1).length c182_1, .int .i64 ((rd_TStep l1_0 x21_2).f2), .int .i64 ((rd_TStep l1_0 x21_2).f3), .bool ((rd_TStep l1_0 x21_2).f4), .string ((rd_TStep l1_0 x21_2).f5), .slice A182_6 ((rd_TStep l1_0 x21_2).f6).length c182_6] 40 (0, 0)) (by (with_reducible repeat (first | refine blk_drewN ?_ _ | refine blk_drew ?_ | refine blk_alloc ?_ _)); exact BK183.out) hb); have n2_ := Aside0.mk (below_step (by repeat (first | (with_reducible first | exact HB.out | apply below_alloc | apply pw_below_drewN | apply below_drew1 | refine below_set ?_ GE170.out | refine below_set ?_ GE183.out) | exact HB.out)) hb); clear BK170; clear BK183; clear HB; have BK170 := n0_; have BK183 := n1_; have HB := n2_; clear n0_ n1_ n2_; (try clear hb); (try clear hb2); (try clear hk); (try clear hi)))
                          go_roundg kj17
                          case measure => have := HJ2.out; have := HK2.out; have := HJ17.out; omega
                          case rel => exact ⟨(wrap64 (x21_2 + 1)), (by first | rfl | (simp; done) | (simp [*]; done)), H', ⟨by have := HJ2.out; have := HK2.out; have := HJ17.out; omega⟩, ⟨by (with_reducible repeat (first | refine blk_drewN ?_ _ | refine blk_drew ?_ | refine blk_alloc ?_ _)); exact BK170.out⟩, ⟨by repeat (first | (with_reducible first | exact HB.out | apply below_alloc | apply pw_below_drewN | apply below_drew1 | refine below_set ?_ GE170.out | refine below_set ?_ GE183.out) | exact HB.out)⟩⟩
                        · rw [if_neg c28] at H
                          have c28b0 : (t185 == 0) = false := beq_eq_false_iff_ne.mpr c28
                          have c28b1 : (t185 != 0) = true := bne_iff_ne.mpr c28
                          obtain rfl := Option.some.inj H
                          have hnb32 := NB183_170.out
                          have hnc32 := NB170_183.out
                          have hcz33_0 : wc.cell? ⟨gb183, 0, none⟩ = some (.string ((rd_TStep l1_0 x21_2).f0)) := (blk_cell BK183.out 0).trans rfl
                          have hcz33_1 : wc.cell? ⟨gb183, 1, none⟩ = some (.slice A182_1 ((rd_TStep l1_0 x21_2).f1).length c182_1) := (blk_cell BK183.out 1).trans rfl
                          have hcz33_2 : wc.cell? ⟨gb183, 2, none⟩ = some (.int .i64 ((rd_TStep l1_0 x21_2).f2)) := (blk_cell BK183.out 2).trans rfl
                          have hcz33_3 : wc.cell? ⟨gb183, 3, none⟩ = some (.int .i64 ((rd_TStep l1_0 x21_2).f3)) := (blk_cell BK183.out 3).trans rfl
                          have hcz33_4 : wc.cell? ⟨gb183, 4, none⟩ = some (.bool ((rd_TStep l1_0 x21_2).f4)) := (blk_cell BK183.out 4).trans rfl
                          have hcz33_5 : wc.cell? ⟨gb183, 5, none⟩ = some (.string ((rd_TStep l1_0 x21_2).f5)) := (blk_cell BK183.out 5).trans rfl
                          have hcz33_6 : wc.cell? ⟨gb183, 6, none⟩ = some (.slice A182_6 ((rd_TStep l1_0 x21_2).f6).length c182_6) := (blk_cell BK183.out 6).trans rfl
                          have hfz33_0 := blk_frozen BK183.out 0
                          have hfz33_1 := blk_frozen BK183.out 1
                          have hfz33_2 := blk_frozen BK183.out 2
                          have hfz33_3 := blk_frozen BK183.out 3
                          have hfz33_4 := blk_frozen BK183.out 4
                          have hfz33_5 := blk_frozen BK183.out 5
                          have hfz33_6 := blk_frozen BK183.out 6
                          go_wp2_with (first | ((with_reducible refine gate_callee (f := 30) rfl ?_); refine goesL_ (some 42) rfl rfl Try.func30 (by kernel_rfl) rfl #[.slice A0 l0.length c0, .string ((rd_TStep l1_0 x21_2).f5), .slice A182_6 ((rd_TStep l1_0 x21_2).f6).length c182_6] rfl (by (try simp only [List.map_toArray, List.map_cons, List.map_nil]); first | done | rfl | (simp only [List.length_drop, List.length_take]; rfl)) ?_; (with_reducible refine (query_asks.calls _ _ l0 ((rd_TStep l1_0 x21_2).f5) _ _ ((rd_TStep l1_0 x21_2).f6) t185 _ ?side1 ?side2 ?side3 ?side4 A27.out).mono ?_); (case side1 => repeat (first | exact (Kd.C_below HR0.out HB.out) | (with_reducible refine Kd.C_alloc ?_ _) | (with_reducible refine Kd.C_drewN ?_ _) | (with_reducible refine Kd.C_drew ?_))); (case side2 => exact HC0.out); (case side3 => repeat (first | exact (Kd.C_below HR182_6.out HB.out) | (with_reducible refine Kd.C_alloc ?_ _) | (with_reducible refine Kd.C_drewN ?_ _) | (with_reducible refine Kd.C_drew ?_))); (case side4 => exact HC182_6.out); rintro e w34 ⟨rfl, hb⟩; refine ⟨_, rfl, ?_⟩; have n0_ := Aside0.mk (blk_below (g := gb170) (o := .cells #[.slice (some ad182) l1_0.length c1_0, .int .i64 a1_1, .int .i64 a1_2, .int .i64 a1_3, .int .i64 a1_4] 24 (0, 0)) (by (with_reducible repeat (first | refine blk_drewN ?_ _ | refine blk_drew ?_ | refine blk_alloc ?_ _)); exact BK170.out) hb); have n1_ := Aside0.mk (blk_below (g := gb183) (o := .cells #[.string ((rd_TStep l1_0 x21_2).f0), .slice A182_1 ((rd_TStep l1_0 x21_2).f1).length c182_1, .int .i64 ((rd_TStep l1_0 x21_2).f2), .int .i64 ((rd_TStep l1_0 x21_2).f3), .bool ((rd_TStep l1_0 x21_2).f4), .string ((rd_TStep l1_0 x21_2).f5), .slice A182_6 ((rd_TStep l1_0 x21_2).f6).length c182_6] 40 (0, 0)) (by (with_reducible repeat (first | refine blk_drewN ?_ _ | refine blk_drew ?_ | refine blk_alloc ?_ _)); exact BK183.out) hb); have n2_ := Aside0.mk (below_step (by repeat (first | (with_reducible first | exact HB.out | apply below_alloc | apply pw_below_drewN | apply below_drew1 | refine below_set ?_ GE170.out | refine below_set ?_ GE183.out) | exact HB.out)) hb); clear BK170; clear BK183; clear HB; have BK170 := n0_; have BK183 := n1_; have HB := n2_; clear n0_ n1_ n2_; (try clear hb); (try clear hb2); (try clear hk); (try clear hi)))
                          go_ret
                          exact ⟨by first | rfl | (simp [errW_none, errW_some] <;> rfl) | (simp [*, errW_none, errW_some] <;> rfl), by repeat (first | (with_reducible first | exact HB.out | apply below_alloc | apply pw_below_drewN | apply below_drew1 | refine below_set ?_ GE170.out | refine below_set ?_ GE183.out) | exact HB.out)⟩
                      · replace c26 := Bool.eq_false_iff.mpr c26
                        subst c26
                        have H1 : (if t184 = 0 then (query_Check.l0 kj17 l0 l1_0 (l1_0.length : Int) (wrap64 (x21_2 + 1)) l1_0 a1_1 a1_2 a1_3 a1_4) else (some t184)) = some r := by rw [if_neg (show ¬ (false = true) by decide)] at H; exact H
                        clear H
                        have H := H1
                        clear H1
                        by_cases c35 : t184 = 0
                        · rw [if_pos c35] at H
                          have c35b0 : (t184 == 0) = true := beq_iff_eq.mpr c35
                          have c35b1 : (t184 != 0) = false := bne_eq_false_iff_eq.mpr c35
                          clear c35
                          have H' := Aside0.mk H
                          clear H
                          go_wp2
                          go_roundg kj17
                          case measure => have := HJ2.out; have := HK2.out; have := HJ17.out; omega
                          case rel => exact ⟨(wrap64 (x21_2 + 1)), (by first | rfl | (simp; done) | (simp [*]; done)), H', ⟨by have := HJ2.out; have := HK2.out; have := HJ17.out; omega⟩, ⟨by (with_reducible repeat (first | refine blk_drewN ?_ _ | refine blk_drew ?_ | refine blk_alloc ?_ _)); exact BK170.out⟩, ⟨by repeat (first | (with_reducible first | exact HB.out | apply below_alloc | apply pw_below_drewN | apply below_drew1 | refine below_set ?_ GE170.out | refine below_set ?_ GE183.out) | exact HB.out)⟩⟩
                        · rw [if_neg c35] at H
                          have c35b0 : (t184 == 0) = false := beq_eq_false_iff_ne.mpr c35
                          have c35b1 : (t184 != 0) = true := bne_iff_ne.mpr c35
                          obtain rfl := Option.some.inj H
                          go_wp2
                          go_ret
                          exact ⟨by first | rfl | (simp [errW_none, errW_some] <;> rfl) | (simp [*, errW_none, errW_some] <;> rfl), by repeat (first | (with_reducible first | exact HB.out | apply below_alloc | apply pw_below_drewN | apply below_drew1 | refine below_set ?_ GE170.out | refine below_set ?_ GE183.out) | exact HB.out)⟩
                · rw [if_neg c16] at H
                  exact absurd H (by simp)
              · rw [if_neg c15] at H
                exact absurd H (by simp)
            · rw [if_neg c14] at H
              have c14b0 : decide (x21_2 < (l1_0.length : Int)) = false := decide_eq_false c14
              clear c14
              by_cases c36 : 0 ≤ a1_3
              · rw [if_pos c36] at H
                have c36b0 : decide (0 ≤ a1_3) = true := decide_eq_true c36
                clear c36
                by_cases c37 : a1_3 < (l1_0.length : Int)
                · rw [if_pos c37] at H
                  have c37b0 : decide (a1_3 < (l1_0.length : Int)) = true := decide_eq_true c37
                  clear c37
                  replace H := Option.bind_eq_some_iff.mp H
                  obtain ⟨⟨t174, t175, t176, t179⟩, A380, H⟩ := H
                  replace H : (if a1_2 = 0 then (some 0) else (if a1_4 < (t176.length : Int) then (if 0 ≤ a1_4 then (if ((rd_TField t176 a1_4).f1) = 0 then (some 0) else (some 5)) else (none)) else (some 5))) = some r := H
                  have A38 := Aside0.mk A380
                  clear A380
                  by_cases c39 : a1_2 = 0
                  · rw [if_pos c39] at H
                    have c39b0 : (a1_2 == 0) = true := beq_iff_eq.mpr c39
                    have c39b1 : (a1_2 != 0) = false := bne_eq_false_iff_eq.mpr c39
                    clear c39
                    obtain rfl := Option.some.inj H
                    have hcz40_0 : wr.cell? ⟨gb170, 0, none⟩ = some (.slice A1_0 l1_0.length c1_0) := (blk_cell BK170.out 0).trans rfl
                    have hcz40_1 : wr.cell? ⟨gb170, 1, none⟩ = some (.int .i64 a1_1) := (blk_cell BK170.out 1).trans rfl
                    have hcz40_2 : wr.cell? ⟨gb170, 2, none⟩ = some (.int .i64 a1_2) := (blk_cell BK170.out 2).trans rfl
                    have hcz40_3 : wr.cell? ⟨gb170, 3, none⟩ = some (.int .i64 a1_3) := (blk_cell BK170.out 3).trans rfl
                    have hcz40_4 : wr.cell? ⟨gb170, 4, none⟩ = some (.int .i64 a1_4) := (blk_cell BK170.out 4).trans rfl
                    have hfz40_0 := blk_frozen BK170.out 0
                    have hfz40_1 := blk_frozen BK170.out 1
                    have hfz40_2 := blk_frozen BK170.out 2
                    have hfz40_3 := blk_frozen BK170.out 3
                    have hfz40_4 := blk_frozen BK170.out 4
                    have p173 : 0 ≤ (a1_3 : Int) := of_decide_eq_true (by first | (with_reducible assumption) | assumption)
                    have q173 : a1_3 < (l1_0.length : Int) := of_decide_eq_true (by first | (with_reducible assumption) | assumption)
                    obtain ⟨ad173, A173_1, c173_1, A173_6, c173_6, e173, hx173_0, hx173_1, hx173_2, hx173_3, hx173_4, hx173_5, hx173_6, hl173_1, hi173_1, hl173_6, hi173_6⟩ := at_TStep HR1_0.out a1_3 p173 q173
                    cases e173
                    replace hx173_0 := (HB.out.cell (World.block_lt_of_cell? w _ hx173_0)).trans hx173_0
                    replace hx173_1 := (HB.out.cell (World.block_lt_of_cell? w _ hx173_1)).trans hx173_1
                    replace hx173_2 := (HB.out.cell (World.block_lt_of_cell? w _ hx173_2)).trans hx173_2
                    replace hx173_3 := (HB.out.cell (World.block_lt_of_cell? w _ hx173_3)).trans hx173_3
                    replace hx173_4 := (HB.out.cell (World.block_lt_of_cell? w _ hx173_4)).trans hx173_4
                    replace hx173_5 := (HB.out.cell (World.block_lt_of_cell? w _ hx173_5)).trans hx173_5
                    replace hx173_6 := (HB.out.cell (World.block_lt_of_cell? w _ hx173_6)).trans hx173_6
                    have HR173_1 := Aside0.mk hi173_1
                    have HC173_1 := Aside0.mk hl173_1
                    clear hi173_1 hl173_1
                    have HR173_6 := Aside0.mk hi173_6
                    have HC173_6 := Aside0.mk hl173_6
                    clear hi173_6 hl173_6
                    replace p173 := eq_true p173
                    replace q173 := eq_true q173
                    go_wp2_with (first | ((with_reducible refine gate_callee (f := 31) rfl ?_); refine goesL_ (some 56) rfl rfl Try.func31 (by kernel_rfl) rfl #[.slice A0 l0.length c0, .string ((rd_TStep l1_0 a1_3).f0)] rfl (by (try simp only [List.map_toArray, List.map_cons, List.map_nil]); first | done | rfl | (simp only [List.length_drop, List.length_take]; rfl)) ?_; (with_reducible refine (registry_Find.calls _ _ l0 ((rd_TStep l1_0 a1_3).f0) t174 t175 t176 t179 _ ?side1 ?side2 A38.out).mono ?_); (case side1 => repeat (first | exact (Kd.C_below HR0.out HB.out) | (with_reducible refine Kd.C_alloc ?_ _) | (with_reducible refine Kd.C_drewN ?_ _) | (with_reducible refine Kd.C_drew ?_))); (case side2 => exact HC0.out); rintro e w41 ⟨v177, rfl, ho0, hb⟩; refine ⟨_, rfl, ?_⟩; have n0_ := Aside0.mk (Kd.R_lower ho0 (below_size (by repeat (first | (with_reducible first | exact HB.out | apply below_alloc | apply pw_below_drewN | apply below_drew1 | refine below_set ?_ GE170.out) | exact HB.out)))); have n1_ := Aside0.mk (blk_below (g := gb170) (o := .cells #[.slice (some ad173) l1_0.length c1_0, .int .i64 a1_1, .int .i64 a1_2, .int .i64 a1_3, .int .i64 a1_4] 24 (0, 0)) (by (with_reducible repeat (first | refine blk_drewN ?_ _ | refine blk_drew ?_ | refine blk_alloc ?_ _)); exact BK170.out) hb); have n2_ := Aside0.mk (below_step (by repeat (first | (with_reducible first | exact HB.out | apply below_alloc | apply pw_below_drewN | apply below_drew1 | refine below_set ?_ GE170.out) | exact HB.out)) hb); clear BK170; clear HB; have HO178 := n0_; have BK170 := n1_; have HB := n2_; clear n0_ n1_ n2_; (try clear hb); (try clear hb2); (try clear hk); (try clear hi); (try clear ho0)) | ((with_reducible refine gate_dst (N := 8) rfl ?_); (try (refine gate_guard (by rfl) ?_; dsimp only)); refine box_event ?hg (N := 8) ?hd (cs := #[.string (⟨#[]⟩ : ByteArray), .int .i64 0, .slice none 0 0]) (t := 43) ?hr ?_; (case hd => rfl); (case hg => rfl); (case hr => first | (go_simp; done) | (go_simp; rfl)); intro gb180 hg w42 hbox hb; have n0_ := Aside0.mk (Kd.R_below (by (with_reducible repeat (first | apply Kd.R_alloc | apply Kd.R_drewN | apply Kd.R_drew)); exact HO178.out) hb); have n1_ := Aside0.mk (blk_below (g := gb170) (o := .cells #[.slice (some ad173) l1_0.length c1_0, .int .i64 a1_1, .int .i64 a1_2, .int .i64 a1_3, .int .i64 a1_4] 24 (0, 0)) (by (with_reducible repeat (first | refine blk_drewN ?_ _ | refine blk_drew ?_ | refine blk_alloc ?_ _)); exact BK170.out) hb); have n2_ := Aside0.mk (below_step (by repeat (first | (with_reducible first | exact HB.out | apply below_alloc | apply pw_below_drewN | apply below_drew1 | refine below_set ?_ GE170.out) | exact HB.out)) hb); have n3_ := Aside0.mk (hbox); have n4_ := Aside0.mk ((by rw [hg]; exact (below_size (by repeat (first | (with_reducible first | exact HB.out | apply below_alloc | apply pw_below_drewN | apply below_drew1 | refine below_set ?_ GE170.out) | exact HB.out))) : w.heap.size ≤ gb180)); have n5_ := Aside0.mk ((by rw [hg]; exact (below_size (by repeat (first | (with_reducible first | exact HB.out | apply below_alloc | apply pw_below_drewN | apply below_drew1 | refine below_set ?_ GE170.out) | exact HB.out))) : w.heap.size ≤ gb180)); have n6_ := Aside0.mk ((by rw [hg]; exact Nat.ne_of_lt (blk_lt (g := gb170) (o := .cells #[.slice (some ad173) l1_0.length c1_0, .int .i64 a1_1, .int .i64 a1_2, .int .i64 a1_3, .int .i64 a1_4] 24 (0, 0)) (by (with_reducible repeat (first | refine blk_drewN ?_ _ | refine blk_drew ?_ | refine blk_alloc ?_ _)); exact BK170.out)) : gb170 ≠ gb180)); have n7_ := Aside0.mk ((by rw [hg]; exact Nat.ne_of_gt (blk_lt (g := gb170) (o := .cells #[.slice (some ad173) l1_0.length c1_0, .int .i64 a1_1, .int .i64 a1_2, .int .i64 a1_3, .int .i64 a1_4] 24 (0, 0)) (by (with_reducible repeat (first | refine blk_drewN ?_ _ | refine blk_drew ?_ | refine blk_alloc ?_ _)); exact BK170.out)) : gb180 ≠ gb170)); clear HO178; clear BK170; clear HB; have HO178 := n0_; have BK170 := n1_; have HB := n2_; have BK180 := n3_; have GW180 := n4_; have GE180 := n5_; have NB170_180 := n6_; have NB180_170 := n7_; clear n0_ n1_ n2_ n3_ n4_ n5_ n6_ n7_; clear hb hbox hg; have hnb43 := NB180_170.out; have hnc43 := NB170_180.out; have hcz44_0 : w42.cell? ⟨gb180, 0, none⟩ = some (.string (⟨#[]⟩ : ByteArray)) := (blk_cell BK180.out 0).trans rfl; have hcz44_1 : w42.cell? ⟨gb180, 1, none⟩ = some (.int .i64 0) := (blk_cell BK180.out 1).trans rfl; have hcz44_2 : w42.cell? ⟨gb180, 2, none⟩ = some (.slice none 0 0) := (blk_cell BK180.out 2).trans rfl; have hfz44_0 := blk_frozen BK180.out 0; have hfz44_1 := blk_frozen BK180.out 1; have hfz44_2 := blk_frozen BK180.out 2; obtain ⟨Ao45, co45, eo45⟩ := Kd.R_slice HO178.out; subst eo45; have hcz46_0 : w42.cell? ⟨gb170, 0, none⟩ = some (.slice (some ad173) l1_0.length c1_0) := (blk_cell BK170.out 0).trans rfl; have hcz46_1 : w42.cell? ⟨gb170, 1, none⟩ = some (.int .i64 a1_1) := (blk_cell BK170.out 1).trans rfl; have hcz46_2 : w42.cell? ⟨gb170, 2, none⟩ = some (.int .i64 a1_2) := (blk_cell BK170.out 2).trans rfl; have hcz46_3 : w42.cell? ⟨gb170, 3, none⟩ = some (.int .i64 a1_3) := (blk_cell BK170.out 3).trans rfl; have hcz46_4 : w42.cell? ⟨gb170, 4, none⟩ = some (.int .i64 a1_4) := (blk_cell BK170.out 4).trans rfl; have hfz46_0 := blk_frozen BK170.out 0; have hfz46_1 := blk_frozen BK170.out 1; have hfz46_2 := blk_frozen BK170.out 2; have hfz46_3 := blk_frozen BK170.out 3; have hfz46_4 := blk_frozen BK170.out 4))
                    go_ret
                    exact ⟨by first | rfl | (simp [errW_none, errW_some] <;> rfl) | (simp [*, errW_none, errW_some] <;> rfl), by repeat (first | (with_reducible first | exact HB.out | apply below_alloc | apply pw_below_drewN | apply below_drew1 | refine below_set ?_ GE170.out | refine below_set ?_ GE180.out) | exact HB.out)⟩
                  · rw [if_neg c39] at H
                    have c39b0 : (a1_2 == 0) = false := beq_eq_false_iff_ne.mpr c39
                    have c39b1 : (a1_2 != 0) = true := bne_iff_ne.mpr c39
                    by_cases c47 : a1_4 < (t176.length : Int)
                    · rw [if_pos c47] at H
                      have c47b0 : decide (a1_4 < (t176.length : Int)) = true := decide_eq_true c47
                      clear c47
                      by_cases c48 : 0 ≤ a1_4
                      · rw [if_pos c48] at H
                        have c48b0 : decide (0 ≤ a1_4) = true := decide_eq_true c48
                        clear c48
                        by_cases c49 : ((rd_TField t176 a1_4).f1) = 0
                        · rw [if_pos c49] at H
                          have c49b0 : (((rd_TField t176 a1_4).f1) == 0) = true := beq_iff_eq.mpr c49
                          have c49b1 : (((rd_TField t176 a1_4).f1) != 0) = false := bne_eq_false_iff_eq.mpr c49
                          clear c49
                          obtain rfl := Option.some.inj H
                          have hcz50_0 : wr.cell? ⟨gb170, 0, none⟩ = some (.slice A1_0 l1_0.length c1_0) := (blk_cell BK170.out 0).trans rfl
                          have hcz50_1 : wr.cell? ⟨gb170, 1, none⟩ = some (.int .i64 a1_1) := (blk_cell BK170.out 1).trans rfl
                          have hcz50_2 : wr.cell? ⟨gb170, 2, none⟩ = some (.int .i64 a1_2) := (blk_cell BK170.out 2).trans rfl
                          have hcz50_3 : wr.cell? ⟨gb170, 3, none⟩ = some (.int .i64 a1_3) := (blk_cell BK170.out 3).trans rfl
                          have hcz50_4 : wr.cell? ⟨gb170, 4, none⟩ = some (.int .i64 a1_4) := (blk_cell BK170.out 4).trans rfl
                          have hfz50_0 := blk_frozen BK170.out 0
                          have hfz50_1 := blk_frozen BK170.out 1
                          have hfz50_2 := blk_frozen BK170.out 2
                          have hfz50_3 := blk_frozen BK170.out 3
                          have hfz50_4 := blk_frozen BK170.out 4
                          have p173 : 0 ≤ (a1_3 : Int) := of_decide_eq_true (by first | (with_reducible assumption) | assumption)
                          have q173 : a1_3 < (l1_0.length : Int) := of_decide_eq_true (by first | (with_reducible assumption) | assumption)
                          obtain ⟨ad173, A173_1, c173_1, A173_6, c173_6, e173, hx173_0, hx173_1, hx173_2, hx173_3, hx173_4, hx173_5, hx173_6, hl173_1, hi173_1, hl173_6, hi173_6⟩ := at_TStep HR1_0.out a1_3 p173 q173
                          cases e173
                          replace hx173_0 := (HB.out.cell (World.block_lt_of_cell? w _ hx173_0)).trans hx173_0
                          replace hx173_1 := (HB.out.cell (World.block_lt_of_cell? w _ hx173_1)).trans hx173_1
                          replace hx173_2 := (HB.out.cell (World.block_lt_of_cell? w _ hx173_2)).trans hx173_2
                          replace hx173_3 := (HB.out.cell (World.block_lt_of_cell? w _ hx173_3)).trans hx173_3
                          replace hx173_4 := (HB.out.cell (World.block_lt_of_cell? w _ hx173_4)).trans hx173_4
                          replace hx173_5 := (HB.out.cell (World.block_lt_of_cell? w _ hx173_5)).trans hx173_5
                          replace hx173_6 := (HB.out.cell (World.block_lt_of_cell? w _ hx173_6)).trans hx173_6
                          have HR173_1 := Aside0.mk hi173_1
                          have HC173_1 := Aside0.mk hl173_1
                          clear hi173_1 hl173_1
                          have HR173_6 := Aside0.mk hi173_6
                          have HC173_6 := Aside0.mk hl173_6
                          clear hi173_6 hl173_6
                          replace p173 := eq_true p173
                          replace q173 := eq_true q173
                          go_wp2_with (first | ((with_reducible refine gate_callee (f := 31) rfl ?_); refine goesL_ (some 56) rfl rfl Try.func31 (by kernel_rfl) rfl #[.slice A0 l0.length c0, .string ((rd_TStep l1_0 a1_3).f0)] rfl (by (try simp only [List.map_toArray, List.map_cons, List.map_nil]); first | done | rfl | (simp only [List.length_drop, List.length_take]; rfl)) ?_; (with_reducible refine (registry_Find.calls _ _ l0 ((rd_TStep l1_0 a1_3).f0) t174 t175 t176 t179 _ ?side1 ?side2 A38.out).mono ?_); (case side1 => repeat (first | exact (Kd.C_below HR0.out HB.out) | (with_reducible refine Kd.C_alloc ?_ _) | (with_reducible refine Kd.C_drewN ?_ _) | (with_reducible refine Kd.C_drew ?_))); (case side2 => exact HC0.out); rintro e w51 ⟨v177, rfl, ho0, hb⟩; refine ⟨_, rfl, ?_⟩; obtain ⟨Az_, cz_, hz_⟩ := Kd.R_slice ho0; subst hz_; obtain ⟨zk1_, zk2_, zk3_, zk4_⟩ := know (blk_new w51 (.cells #[.string t174, .int .i64 t175, .slice Az_ t176.length cz_] 43)); have zp_ : 0 ≤ (a1_4 : Int) := of_decide_eq_true (by assumption); have zq_ : a1_4 < (t176.length : Int) := of_decide_eq_true (by assumption); obtain ⟨adz_, ez_, hz0_, hz1_⟩ := at_TField (Kd.R_reads' ho0).2.2 a1_4 zp_ zq_; replace zp_ := eq_true zp_; replace zq_ := eq_true zq_; cases ez_; have hz0o_ := fun (o : Obj) => cell_later o hz0_; have hz1o_ := fun (o : Obj) => cell_later o hz1_; have n0_ := Aside0.mk (Kd.R_lower ho0 (below_size (by repeat (first | (with_reducible first | exact HB.out | apply below_alloc | apply pw_below_drewN | apply below_drew1 | refine below_set ?_ GE170.out) | exact HB.out)))); have n1_ := Aside0.mk (blk_below (g := gb170) (o := .cells #[.slice (some ad173) l1_0.length c1_0, .int .i64 a1_1, .int .i64 a1_2, .int .i64 a1_3, .int .i64 a1_4] 24 (0, 0)) (by (with_reducible repeat (first | refine blk_drewN ?_ _ | refine blk_drew ?_ | refine blk_alloc ?_ _)); exact BK170.out) hb); have n2_ := Aside0.mk (below_step (by repeat (first | (with_reducible first | exact HB.out | apply below_alloc | apply pw_below_drewN | apply below_drew1 | refine below_set ?_ GE170.out) | exact HB.out)) hb); clear BK170; clear HB; have HO178 := n0_; have BK170 := n1_; have HB := n2_; clear n0_ n1_ n2_; obtain ⟨zb1_, zb2_, zb3_, zb4_⟩ := know BK170.out; (try clear hb); (try clear hb2); (try clear hk); (try clear hi); (try clear ho0)) | ((with_reducible refine gate_dst (N := 8) rfl ?_); (try (refine gate_guard (by rfl) ?_; dsimp only)); refine box_event ?hg (N := 8) ?hd (cs := #[.string (⟨#[]⟩ : ByteArray), .int .i64 0, .slice none 0 0]) (t := 43) ?hr ?_; (case hd => rfl); (case hg => rfl); (case hr => first | (go_simp; done) | (go_simp; rfl)); intro gb180 hg w52 hbox hb; have n0_ := Aside0.mk (Kd.R_below (by (with_reducible repeat (first | apply Kd.R_alloc | apply Kd.R_drewN | apply Kd.R_drew)); exact HO178.out) hb); have n1_ := Aside0.mk (blk_below (g := gb170) (o := .cells #[.slice (some ad173) l1_0.length c1_0, .int .i64 a1_1, .int .i64 a1_2, .int .i64 a1_3, .int .i64 a1_4] 24 (0, 0)) (by (with_reducible repeat (first | refine blk_drewN ?_ _ | refine blk_drew ?_ | refine blk_alloc ?_ _)); exact BK170.out) hb); have n2_ := Aside0.mk (below_step (by repeat (first | (with_reducible first | exact HB.out | apply below_alloc | apply pw_below_drewN | apply below_drew1 | refine below_set ?_ GE170.out) | exact HB.out)) hb); have n3_ := Aside0.mk (hbox); have n4_ := Aside0.mk ((by rw [hg]; exact (below_size (by repeat (first | (with_reducible first | exact HB.out | apply below_alloc | apply pw_below_drewN | apply below_drew1 | refine below_set ?_ GE170.out) | exact HB.out))) : w.heap.size ≤ gb180)); have n5_ := Aside0.mk ((by rw [hg]; exact (below_size (by repeat (first | (with_reducible first | exact HB.out | apply below_alloc | apply pw_below_drewN | apply below_drew1 | refine below_set ?_ GE170.out) | exact HB.out))) : w.heap.size ≤ gb180)); have n6_ := Aside0.mk ((by rw [hg]; exact Nat.ne_of_lt (blk_lt (g := gb170) (o := .cells #[.slice (some ad173) l1_0.length c1_0, .int .i64 a1_1, .int .i64 a1_2, .int .i64 a1_3, .int .i64 a1_4] 24 (0, 0)) (by (with_reducible repeat (first | refine blk_drewN ?_ _ | refine blk_drew ?_ | refine blk_alloc ?_ _)); exact BK170.out)) : gb170 ≠ gb180)); have n7_ := Aside0.mk ((by rw [hg]; exact Nat.ne_of_gt (blk_lt (g := gb170) (o := .cells #[.slice (some ad173) l1_0.length c1_0, .int .i64 a1_1, .int .i64 a1_2, .int .i64 a1_3, .int .i64 a1_4] 24 (0, 0)) (by (with_reducible repeat (first | refine blk_drewN ?_ _ | refine blk_drew ?_ | refine blk_alloc ?_ _)); exact BK170.out)) : gb180 ≠ gb170)); clear HO178; clear BK170; clear HB; have HO178 := n0_; have BK170 := n1_; have HB := n2_; have BK180 := n3_; have GW180 := n4_; have GE180 := n5_; have NB170_180 := n6_; have NB180_170 := n7_; clear n0_ n1_ n2_ n3_ n4_ n5_ n6_ n7_; clear hb hbox hg; have hnb53 := NB180_170.out; have hnc53 := NB170_180.out; have hcz54_0 : w52.cell? ⟨gb180, 0, none⟩ = some (.string (⟨#[]⟩ : ByteArray)) := (blk_cell BK180.out 0).trans rfl; have hcz54_1 : w52.cell? ⟨gb180, 1, none⟩ = some (.int .i64 0) := (blk_cell BK180.out 1).trans rfl; have hcz54_2 : w52.cell? ⟨gb180, 2, none⟩ = some (.slice none 0 0) := (blk_cell BK180.out 2).trans rfl; have hfz54_0 := blk_frozen BK180.out 0; have hfz54_1 := blk_frozen BK180.out 1; have hfz54_2 := blk_frozen BK180.out 2; obtain ⟨Ao55, co55, eo55⟩ := Kd.R_slice HO178.out; subst eo55; have hcz56_0 : w52.cell? ⟨gb170, 0, none⟩ = some (.slice (some ad173) l1_0.length c1_0) := (blk_cell BK170.out 0).trans rfl; have hcz56_1 : w52.cell? ⟨gb170, 1, none⟩ = some (.int .i64 a1_1) := (blk_cell BK170.out 1).trans rfl; have hcz56_2 : w52.cell? ⟨gb170, 2, none⟩ = some (.int .i64 a1_2) := (blk_cell BK170.out 2).trans rfl; have hcz56_3 : w52.cell? ⟨gb170, 3, none⟩ = some (.int .i64 a1_3) := (blk_cell BK170.out 3).trans rfl; have hcz56_4 : w52.cell? ⟨gb170, 4, none⟩ = some (.int .i64 a1_4) := (blk_cell BK170.out 4).trans rfl; have hfz56_0 := blk_frozen BK170.out 0; have hfz56_1 := blk_frozen BK170.out 1; have hfz56_2 := blk_frozen BK170.out 2; have hfz56_3 := blk_frozen BK170.out 3; have hfz56_4 := blk_frozen BK170.out 4; have p181 : 0 ≤ (a1_4 : Int) := of_decide_eq_true (by first | (with_reducible assumption) | assumption); have q181 : a1_4 < (t176.length : Int) := of_decide_eq_true (by first | (with_reducible assumption) | assumption); obtain ⟨ad181, e181, hx181_0, hx181_1⟩ := at_TField (Kd.R_reads' HO178.out).2.2 a1_4 p181 q181; cases e181; have hn181_0 : ad181.block ≠ gb180 := Kd.own_blk (Kd.R_ne HO178.out BK180.out (by decide)); have hn181_1 : ad181.block ≠ gb180 := Kd.own_blk (Kd.R_ne HO178.out BK180.out (by decide)); have hn181_2 : ad181.block ≠ gb180 := Kd.own_blk (Kd.R_ne HO178.out BK180.out (by decide)); replace hx181_0 := (cell_far (p := ⟨gb180, 0, none⟩) (by first | (rw [add_block]; exact hn181_0) | (show (Addr.add _ _).block ≠ _; rw [add_block]; exact hn181_0) | exact hn181_0) (.string t174)).trans hx181_0; replace hx181_1 := (cell_far (p := ⟨gb180, 0, none⟩) (by first | (rw [add_block]; exact hn181_0) | (show (Addr.add _ _).block ≠ _; rw [add_block]; exact hn181_0) | exact hn181_0) (.string t174)).trans hx181_1; replace hx181_0 := (cell_far (p := ⟨gb180, 1, none⟩) (by first | (rw [add_block]; exact hn181_1) | (show (Addr.add _ _).block ≠ _; rw [add_block]; exact hn181_1) | exact hn181_1) (.int .i64 t175)).trans hx181_0; replace hx181_1 := (cell_far (p := ⟨gb180, 1, none⟩) (by first | (rw [add_block]; exact hn181_1) | (show (Addr.add _ _).block ≠ _; rw [add_block]; exact hn181_1) | exact hn181_1) (.int .i64 t175)).trans hx181_1; replace hx181_0 := (cell_far (p := ⟨gb180, 2, none⟩) (by first | (rw [add_block]; exact hn181_2) | (show (Addr.add _ _).block ≠ _; rw [add_block]; exact hn181_2) | exact hn181_2) (.slice (some ad181) t176.length co55)).trans hx181_0; replace hx181_1 := (cell_far (p := ⟨gb180, 2, none⟩) (by first | (rw [add_block]; exact hn181_2) | (show (Addr.add _ _).block ≠ _; rw [add_block]; exact hn181_2) | exact hn181_2) (.slice (some ad181) t176.length co55)).trans hx181_1; clear hn181_0; clear hn181_1; clear hn181_2; replace p181 := eq_true p181; replace q181 := eq_true q181))
                          go_ret
                          exact ⟨by first | rfl | (simp [errW_none, errW_some] <;> rfl) | (simp [*, errW_none, errW_some] <;> rfl), by repeat (first | (with_reducible first | exact HB.out | apply below_alloc | apply pw_below_drewN | apply below_drew1 | refine below_set ?_ GE170.out | refine below_set ?_ GE180.out) | exact HB.out)⟩
                        · rw [if_neg c49] at H
                          have c49b0 : (((rd_TField t176 a1_4).f1) == 0) = false := beq_eq_false_iff_ne.mpr c49
                          have c49b1 : (((rd_TField t176 a1_4).f1) != 0) = true := bne_iff_ne.mpr c49
                          obtain rfl := Option.some.inj H
                          have hcz57_0 : wr.cell? ⟨gb170, 0, none⟩ = some (.slice A1_0 l1_0.length c1_0) := (blk_cell BK170.out 0).trans rfl
                          have hcz57_1 : wr.cell? ⟨gb170, 1, none⟩ = some (.int .i64 a1_1) := (blk_cell BK170.out 1).trans rfl
                          have hcz57_2 : wr.cell? ⟨gb170, 2, none⟩ = some (.int .i64 a1_2) := (blk_cell BK170.out 2).trans rfl
                          have hcz57_3 : wr.cell? ⟨gb170, 3, none⟩ = some (.int .i64 a1_3) := (blk_cell BK170.out 3).trans rfl
                          have hcz57_4 : wr.cell? ⟨gb170, 4, none⟩ = some (.int .i64 a1_4) := (blk_cell BK170.out 4).trans rfl
                          have hfz57_0 := blk_frozen BK170.out 0
                          have hfz57_1 := blk_frozen BK170.out 1
                          have hfz57_2 := blk_frozen BK170.out 2
                          have hfz57_3 := blk_frozen BK170.out 3
                          have hfz57_4 := blk_frozen BK170.out 4
                          have p173 : 0 ≤ (a1_3 : Int) := of_decide_eq_true (by first | (with_reducible assumption) | assumption)
                          have q173 : a1_3 < (l1_0.length : Int) := of_decide_eq_true (by first | (with_reducible assumption) | assumption)
                          obtain ⟨ad173, A173_1, c173_1, A173_6, c173_6, e173, hx173_0, hx173_1, hx173_2, hx173_3, hx173_4, hx173_5, hx173_6, hl173_1, hi173_1, hl173_6, hi173_6⟩ := at_TStep HR1_0.out a1_3 p173 q173
                          cases e173
                          replace hx173_0 := (HB.out.cell (World.block_lt_of_cell? w _ hx173_0)).trans hx173_0
                          replace hx173_1 := (HB.out.cell (World.block_lt_of_cell? w _ hx173_1)).trans hx173_1
                          replace hx173_2 := (HB.out.cell (World.block_lt_of_cell? w _ hx173_2)).trans hx173_2
                          replace hx173_3 := (HB.out.cell (World.block_lt_of_cell? w _ hx173_3)).trans hx173_3
                          replace hx173_4 := (HB.out.cell (World.block_lt_of_cell? w _ hx173_4)).trans hx173_4
                          replace hx173_5 := (HB.out.cell (World.block_lt_of_cell? w _ hx173_5)).trans hx173_5
                          replace hx173_6 := (HB.out.cell (World.block_lt_of_cell? w _ hx173_6)).trans hx173_6
                          have HR173_1 := Aside0.mk hi173_1
                          have HC173_1 := Aside0.mk hl173_1
                          clear hi173_1 hl173_1
                          have HR173_6 := Aside0.mk hi173_6
                          have HC173_6 := Aside0.mk hl173_6
                          clear hi173_6 hl173_6
                          replace p173 := eq_true p173
                          replace q173 := eq_true q173
                          go_wp2_with (first | ((with_reducible refine gate_callee (f := 31) rfl ?_); refine goesL_ (some 56) rfl rfl Try.func31 (by kernel_rfl) rfl #[.slice A0 l0.length c0, .string ((rd_TStep l1_0 a1_3).f0)] rfl (by (try simp only [List.map_toArray, List.map_cons, List.map_nil]); first | done | rfl | (simp only [List.length_drop, List.length_take]; rfl)) ?_; (with_reducible refine (registry_Find.calls _ _ l0 ((rd_TStep l1_0 a1_3).f0) t174 t175 t176 t179 _ ?side1 ?side2 A38.out).mono ?_); (case side1 => repeat (first | exact (Kd.C_below HR0.out HB.out) | (with_reducible refine Kd.C_alloc ?_ _) | (with_reducible refine Kd.C_drewN ?_ _) | (with_reducible refine Kd.C_drew ?_))); (case side2 => exact HC0.out); rintro e w58 ⟨v177, rfl, ho0, hb⟩; refine ⟨_, rfl, ?_⟩; obtain ⟨Az_, cz_, hz_⟩ := Kd.R_slice ho0; subst hz_; obtain ⟨zk1_, zk2_, zk3_, zk4_⟩ := know (blk_new w58 (.cells #[.string t174, .int .i64 t175, .slice Az_ t176.length cz_] 43)); have zp_ : 0 ≤ (a1_4 : Int) := of_decide_eq_true (by assumption); have zq_ : a1_4 < (t176.length : Int) := of_decide_eq_true (by assumption); obtain ⟨adz_, ez_, hz0_, hz1_⟩ := at_TField (Kd.R_reads' ho0).2.2 a1_4 zp_ zq_; replace zp_ := eq_true zp_; replace zq_ := eq_true zq_; cases ez_; have hz0o_ := fun (o : Obj) => cell_later o hz0_; have hz1o_ := fun (o : Obj) => cell_later o hz1_; have n0_ := Aside0.mk (Kd.R_lower ho0 (below_size (by repeat (first | (with_reducible first | exact HB.out | apply below_alloc | apply pw_below_drewN | apply below_drew1 | refine below_set ?_ GE170.out) | exact HB.out)))); have n1_ := Aside0.mk (blk_below (g := gb170) (o := .cells #[.slice (some ad173) l1_0.length c1_0, .int .i64 a1_1, .int .i64 a1_2, .int .i64 a1_3, .int .i64 a1_4] 24 (0, 0)) (by (with_reducible repeat (first | refine blk_drewN ?_ _ | refine blk_drew ?_ | refine blk_alloc ?_ _)); exact BK170.out) hb); have n2_ := Aside0.mk (below_step (by repeat (first | (with_reducible first | exact HB.out | apply below_alloc | apply pw_below_drewN | apply below_drew1 | refine below_set ?_ GE170.out) | exact HB.out)) hb); clear BK170; clear HB; have HO178 := n0_; have BK170 := n1_; have HB := n2_; clear n0_ n1_ n2_; obtain ⟨zb1_, zb2_, zb3_, zb4_⟩ := know BK170.out; (try clear hb); (try clear hb2); (try clear hk); (try clear hi); (try clear ho0)) | ((with_reducible refine gate_dst (N := 8) rfl ?_); (try (refine gate_guard (by rfl) ?_; dsimp only)); refine box_event ?hg (N := 8) ?hd (cs := #[.string (⟨#[]⟩ : ByteArray), .int .i64 0, .slice none 0 0]) (t := 43) ?hr ?_; (case hd => rfl); (case hg => rfl); (case hr => first | (go_simp; done) | (go_simp; rfl)); intro gb180 hg w59 hbox hb; have n0_ := Aside0.mk (Kd.R_below (by (with_reducible repeat (first | apply Kd.R_alloc | apply Kd.R_drewN | apply Kd.R_drew)); exact HO178.out) hb); have n1_ := Aside0.mk (blk_below (g := gb170) (o := .cells #[.slice (some ad173) l1_0.length c1_0, .int .i64 a1_1, .int .i64 a1_2, .int .i64 a1_3, .int .i64 a1_4] 24 (0, 0)) (by (with_reducible repeat (first | refine blk_drewN ?_ _ | refine blk_drew ?_ | refine blk_alloc ?_ _)); exact BK170.out) hb); have n2_ := Aside0.mk (below_step (by repeat (first | (with_reducible first | exact HB.out | apply below_alloc | apply pw_below_drewN | apply below_drew1 | refine below_set ?_ GE170.out) | exact HB.out)) hb); have n3_ := Aside0.mk (hbox); have n4_ := Aside0.mk ((by rw [hg]; exact (below_size (by repeat (first | (with_reducible first | exact HB.out | apply below_alloc | apply pw_below_drewN | apply below_drew1 | refine below_set ?_ GE170.out) | exact HB.out))) : w.heap.size ≤ gb180)); have n5_ := Aside0.mk ((by rw [hg]; exact (below_size (by repeat (first | (with_reducible first | exact HB.out | apply below_alloc | apply pw_below_drewN | apply below_drew1 | refine below_set ?_ GE170.out) | exact HB.out))) : w.heap.size ≤ gb180)); have n6_ := Aside0.mk ((by rw [hg]; exact Nat.ne_of_lt (blk_lt (g := gb170) (o := .cells #[.slice (some ad173) l1_0.length c1_0, .int .i64 a1_1, .int .i64 a1_2, .int .i64 a1_3, .int .i64 a1_4] 24 (0, 0)) (by (with_reducible repeat (first | refine blk_drewN ?_ _ | refine blk_drew ?_ | refine blk_alloc ?_ _)); exact BK170.out)) : gb170 ≠ gb180)); have n7_ := Aside0.mk ((by rw [hg]; exact Nat.ne_of_gt (blk_lt (g := gb170) (o := .cells #[.slice (some ad173) l1_0.length c1_0, .int .i64 a1_1, .int .i64 a1_2, .int .i64 a1_3, .int .i64 a1_4] 24 (0, 0)) (by (with_reducible repeat (first | refine blk_drewN ?_ _ | refine blk_drew ?_ | refine blk_alloc ?_ _)); exact BK170.out)) : gb180 ≠ gb170)); clear HO178; clear BK170; clear HB; have HO178 := n0_; have BK170 := n1_; have HB := n2_; have BK180 := n3_; have GW180 := n4_; have GE180 := n5_; have NB170_180 := n6_; have NB180_170 := n7_; clear n0_ n1_ n2_ n3_ n4_ n5_ n6_ n7_; clear hb hbox hg; have hnb60 := NB180_170.out; have hnc60 := NB170_180.out; have hcz61_0 : w59.cell? ⟨gb180, 0, none⟩ = some (.string (⟨#[]⟩ : ByteArray)) := (blk_cell BK180.out 0).trans rfl; have hcz61_1 : w59.cell? ⟨gb180, 1, none⟩ = some (.int .i64 0) := (blk_cell BK180.out 1).trans rfl; have hcz61_2 : w59.cell? ⟨gb180, 2, none⟩ = some (.slice none 0 0) := (blk_cell BK180.out 2).trans rfl; have hfz61_0 := blk_frozen BK180.out 0; have hfz61_1 := blk_frozen BK180.out 1; have hfz61_2 := blk_frozen BK180.out 2; obtain ⟨Ao62, co62, eo62⟩ := Kd.R_slice HO178.out; subst eo62; have hcz63_0 : w59.cell? ⟨gb170, 0, none⟩ = some (.slice (some ad173) l1_0.length c1_0) := (blk_cell BK170.out 0).trans rfl; have hcz63_1 : w59.cell? ⟨gb170, 1, none⟩ = some (.int .i64 a1_1) := (blk_cell BK170.out 1).trans rfl; have hcz63_2 : w59.cell? ⟨gb170, 2, none⟩ = some (.int .i64 a1_2) := (blk_cell BK170.out 2).trans rfl; have hcz63_3 : w59.cell? ⟨gb170, 3, none⟩ = some (.int .i64 a1_3) := (blk_cell BK170.out 3).trans rfl; have hcz63_4 : w59.cell? ⟨gb170, 4, none⟩ = some (.int .i64 a1_4) := (blk_cell BK170.out 4).trans rfl; have hfz63_0 := blk_frozen BK170.out 0; have hfz63_1 := blk_frozen BK170.out 1; have hfz63_2 := blk_frozen BK170.out 2; have hfz63_3 := blk_frozen BK170.out 3; have hfz63_4 := blk_frozen BK170.out 4; have p181 : 0 ≤ (a1_4 : Int) := of_decide_eq_true (by first | (with_reducible assumption) | assumption); have q181 : a1_4 < (t176.length : Int) := of_decide_eq_true (by first | (with_reducible assumption) | assumption); obtain ⟨ad181, e181, hx181_0, hx181_1⟩ := at_TField (Kd.R_reads' HO178.out).2.2 a1_4 p181 q181; cases e181; have hn181_0 : ad181.block ≠ gb180 := Kd.own_blk (Kd.R_ne HO178.out BK180.out (by decide)); have hn181_1 : ad181.block ≠ gb180 := Kd.own_blk (Kd.R_ne HO178.out BK180.out (by decide)); have hn181_2 : ad181.block ≠ gb180 := Kd.own_blk (Kd.R_ne HO178.out BK180.out (by decide)); replace hx181_0 := (cell_far (p := ⟨gb180, 0, none⟩) (by first | (rw [add_block]; exact hn181_0) | (show (Addr.add _ _).block ≠ _; rw [add_block]; exact hn181_0) | exact hn181_0) (.string t174)).trans hx181_0; replace hx181_1 := (cell_far (p := ⟨gb180, 0, none⟩) (by first | (rw [add_block]; exact hn181_0) | (show (Addr.add _ _).block ≠ _; rw [add_block]; exact hn181_0) | exact hn181_0) (.string t174)).trans hx181_1; replace hx181_0 := (cell_far (p := ⟨gb180, 1, none⟩) (by first | (rw [add_block]; exact hn181_1) | (show (Addr.add _ _).block ≠ _; rw [add_block]; exact hn181_1) | exact hn181_1) (.int .i64 t175)).trans hx181_0; replace hx181_1 := (cell_far (p := ⟨gb180, 1, none⟩) (by first | (rw [add_block]; exact hn181_1) | (show (Addr.add _ _).block ≠ _; rw [add_block]; exact hn181_1) | exact hn181_1) (.int .i64 t175)).trans hx181_1; replace hx181_0 := (cell_far (p := ⟨gb180, 2, none⟩) (by first | (rw [add_block]; exact hn181_2) | (show (Addr.add _ _).block ≠ _; rw [add_block]; exact hn181_2) | exact hn181_2) (.slice (some ad181) t176.length co62)).trans hx181_0; replace hx181_1 := (cell_far (p := ⟨gb180, 2, none⟩) (by first | (rw [add_block]; exact hn181_2) | (show (Addr.add _ _).block ≠ _; rw [add_block]; exact hn181_2) | exact hn181_2) (.slice (some ad181) t176.length co62)).trans hx181_1; clear hn181_0; clear hn181_1; clear hn181_2; replace p181 := eq_true p181; replace q181 := eq_true q181))
                          go_ret
                          exact ⟨by first | rfl | (simp [errW_none, errW_some] <;> rfl) | (simp [*, errW_none, errW_some] <;> rfl), by repeat (first | (with_reducible first | exact HB.out | apply below_alloc | apply pw_below_drewN | apply below_drew1 | refine below_set ?_ GE170.out | refine below_set ?_ GE180.out) | exact HB.out)⟩
                      · rw [if_neg c48] at H
                        exact absurd H (by simp)
                    · rw [if_neg c47] at H
                      have c47b0 : decide (a1_4 < (t176.length : Int)) = false := decide_eq_false c47
                      clear c47
                      obtain rfl := Option.some.inj H
                      have hcz64_0 : wr.cell? ⟨gb170, 0, none⟩ = some (.slice A1_0 l1_0.length c1_0) := (blk_cell BK170.out 0).trans rfl
                      have hcz64_1 : wr.cell? ⟨gb170, 1, none⟩ = some (.int .i64 a1_1) := (blk_cell BK170.out 1).trans rfl
                      have hcz64_2 : wr.cell? ⟨gb170, 2, none⟩ = some (.int .i64 a1_2) := (blk_cell BK170.out 2).trans rfl
                      have hcz64_3 : wr.cell? ⟨gb170, 3, none⟩ = some (.int .i64 a1_3) := (blk_cell BK170.out 3).trans rfl
                      have hcz64_4 : wr.cell? ⟨gb170, 4, none⟩ = some (.int .i64 a1_4) := (blk_cell BK170.out 4).trans rfl
                      have hfz64_0 := blk_frozen BK170.out 0
                      have hfz64_1 := blk_frozen BK170.out 1
                      have hfz64_2 := blk_frozen BK170.out 2
                      have hfz64_3 := blk_frozen BK170.out 3
                      have hfz64_4 := blk_frozen BK170.out 4
                      have p173 : 0 ≤ (a1_3 : Int) := of_decide_eq_true (by first | (with_reducible assumption) | assumption)
                      have q173 : a1_3 < (l1_0.length : Int) := of_decide_eq_true (by first | (with_reducible assumption) | assumption)
                      obtain ⟨ad173, A173_1, c173_1, A173_6, c173_6, e173, hx173_0, hx173_1, hx173_2, hx173_3, hx173_4, hx173_5, hx173_6, hl173_1, hi173_1, hl173_6, hi173_6⟩ := at_TStep HR1_0.out a1_3 p173 q173
                      cases e173
                      replace hx173_0 := (HB.out.cell (World.block_lt_of_cell? w _ hx173_0)).trans hx173_0
                      replace hx173_1 := (HB.out.cell (World.block_lt_of_cell? w _ hx173_1)).trans hx173_1
                      replace hx173_2 := (HB.out.cell (World.block_lt_of_cell? w _ hx173_2)).trans hx173_2
                      replace hx173_3 := (HB.out.cell (World.block_lt_of_cell? w _ hx173_3)).trans hx173_3
                      replace hx173_4 := (HB.out.cell (World.block_lt_of_cell? w _ hx173_4)).trans hx173_4
                      replace hx173_5 := (HB.out.cell (World.block_lt_of_cell? w _ hx173_5)).trans hx173_5
                      replace hx173_6 := (HB.out.cell (World.block_lt_of_cell? w _ hx173_6)).trans hx173_6
                      have HR173_1 := Aside0.mk hi173_1
                      have HC173_1 := Aside0.mk hl173_1
                      clear hi173_1 hl173_1
                      have HR173_6 := Aside0.mk hi173_6
                      have HC173_6 := Aside0.mk hl173_6
                      clear hi173_6 hl173_6
                      replace p173 := eq_true p173
                      replace q173 := eq_true q173
                      go_wp2_with (first | ((with_reducible refine gate_callee (f := 31) rfl ?_); refine goesL_ (some 56) rfl rfl Try.func31 (by kernel_rfl) rfl #[.slice A0 l0.length c0, .string ((rd_TStep l1_0 a1_3).f0)] rfl (by (try simp only [List.map_toArray, List.map_cons, List.map_nil]); first | done | rfl | (simp only [List.length_drop, List.length_take]; rfl)) ?_; (with_reducible refine (registry_Find.calls _ _ l0 ((rd_TStep l1_0 a1_3).f0) t174 t175 t176 t179 _ ?side1 ?side2 A38.out).mono ?_); (case side1 => repeat (first | exact (Kd.C_below HR0.out HB.out) | (with_reducible refine Kd.C_alloc ?_ _) | (with_reducible refine Kd.C_drewN ?_ _) | (with_reducible refine Kd.C_drew ?_))); (case side2 => exact HC0.out); rintro e w65 ⟨v177, rfl, ho0, hb⟩; refine ⟨_, rfl, ?_⟩; have n0_ := Aside0.mk (Kd.R_lower ho0 (below_size (by repeat (first | (with_reducible first | exact HB.out | apply below_alloc | apply pw_below_drewN | apply below_drew1 | refine below_set ?_ GE170.out) | exact HB.out)))); have n1_ := Aside0.mk (blk_below (g := gb170) (o := .cells #[.slice (some ad173) l1_0.length c1_0, .int .i64 a1_1, .int .i64 a1_2, .int .i64 a1_3, .int .i64 a1_4] 24 (0, 0)) (by (with_reducible repeat (first | refine blk_drewN ?_ _ | refine blk_drew ?_ | refine blk_alloc ?_ _)); exact BK170.out) hb); have n2_ := Aside0.mk (below_step (by repeat (first | (with_reducible first | exact HB.out | apply below_alloc | apply pw_below_drewN | apply below_drew1 | refine below_set ?_ GE170.out) | exact HB.out)) hb); clear BK170; clear HB; have HO178 := n0_; have BK170 := n1_; have HB := n2_; clear n0_ n1_ n2_; (try clear hb); (try clear hb2); (try clear hk); (try clear hi); (try clear ho0)) | ((with_reducible refine gate_dst (N := 8) rfl ?_); (try (refine gate_guard (by rfl) ?_; dsimp only)); refine box_event ?hg (N := 8) ?hd (cs := #[.string (⟨#[]⟩ : ByteArray), .int .i64 0, .slice none 0 0]) (t := 43) ?hr ?_; (case hd => rfl); (case hg => rfl); (case hr => first | (go_simp; done) | (go_simp; rfl)); intro gb180 hg w66 hbox hb; have n0_ := Aside0.mk (Kd.R_below (by (with_reducible repeat (first | apply Kd.R_alloc | apply Kd.R_drewN | apply Kd.R_drew)); exact HO178.out) hb); have n1_ := Aside0.mk (blk_below (g := gb170) (o := .cells #[.slice (some ad173) l1_0.length c1_0, .int .i64 a1_1, .int .i64 a1_2, .int .i64 a1_3, .int .i64 a1_4] 24 (0, 0)) (by (with_reducible repeat (first | refine blk_drewN ?_ _ | refine blk_drew ?_ | refine blk_alloc ?_ _)); exact BK170.out) hb); have n2_ := Aside0.mk (below_step (by repeat (first | (with_reducible first | exact HB.out | apply below_alloc | apply pw_below_drewN | apply below_drew1 | refine below_set ?_ GE170.out) | exact HB.out)) hb); have n3_ := Aside0.mk (hbox); have n4_ := Aside0.mk ((by rw [hg]; exact (below_size (by repeat (first | (with_reducible first | exact HB.out | apply below_alloc | apply pw_below_drewN | apply below_drew1 | refine below_set ?_ GE170.out) | exact HB.out))) : w.heap.size ≤ gb180)); have n5_ := Aside0.mk ((by rw [hg]; exact (below_size (by repeat (first | (with_reducible first | exact HB.out | apply below_alloc | apply pw_below_drewN | apply below_drew1 | refine below_set ?_ GE170.out) | exact HB.out))) : w.heap.size ≤ gb180)); have n6_ := Aside0.mk ((by rw [hg]; exact Nat.ne_of_lt (blk_lt (g := gb170) (o := .cells #[.slice (some ad173) l1_0.length c1_0, .int .i64 a1_1, .int .i64 a1_2, .int .i64 a1_3, .int .i64 a1_4] 24 (0, 0)) (by (with_reducible repeat (first | refine blk_drewN ?_ _ | refine blk_drew ?_ | refine blk_alloc ?_ _)); exact BK170.out)) : gb170 ≠ gb180)); have n7_ := Aside0.mk ((by rw [hg]; exact Nat.ne_of_gt (blk_lt (g := gb170) (o := .cells #[.slice (some ad173) l1_0.length c1_0, .int .i64 a1_1, .int .i64 a1_2, .int .i64 a1_3, .int .i64 a1_4] 24 (0, 0)) (by (with_reducible repeat (first | refine blk_drewN ?_ _ | refine blk_drew ?_ | refine blk_alloc ?_ _)); exact BK170.out)) : gb180 ≠ gb170)); clear HO178; clear BK170; clear HB; have HO178 := n0_; have BK170 := n1_; have HB := n2_; have BK180 := n3_; have GW180 := n4_; have GE180 := n5_; have NB170_180 := n6_; have NB180_170 := n7_; clear n0_ n1_ n2_ n3_ n4_ n5_ n6_ n7_; clear hb hbox hg; have hnb67 := NB180_170.out; have hnc67 := NB170_180.out; have hcz68_0 : w66.cell? ⟨gb180, 0, none⟩ = some (.string (⟨#[]⟩ : ByteArray)) := (blk_cell BK180.out 0).trans rfl; have hcz68_1 : w66.cell? ⟨gb180, 1, none⟩ = some (.int .i64 0) := (blk_cell BK180.out 1).trans rfl; have hcz68_2 : w66.cell? ⟨gb180, 2, none⟩ = some (.slice none 0 0) := (blk_cell BK180.out 2).trans rfl; have hfz68_0 := blk_frozen BK180.out 0; have hfz68_1 := blk_frozen BK180.out 1; have hfz68_2 := blk_frozen BK180.out 2; obtain ⟨Ao69, co69, eo69⟩ := Kd.R_slice HO178.out; subst eo69; have hcz70_0 : w66.cell? ⟨gb170, 0, none⟩ = some (.slice (some ad173) l1_0.length c1_0) := (blk_cell BK170.out 0).trans rfl; have hcz70_1 : w66.cell? ⟨gb170, 1, none⟩ = some (.int .i64 a1_1) := (blk_cell BK170.out 1).trans rfl; have hcz70_2 : w66.cell? ⟨gb170, 2, none⟩ = some (.int .i64 a1_2) := (blk_cell BK170.out 2).trans rfl; have hcz70_3 : w66.cell? ⟨gb170, 3, none⟩ = some (.int .i64 a1_3) := (blk_cell BK170.out 3).trans rfl; have hcz70_4 : w66.cell? ⟨gb170, 4, none⟩ = some (.int .i64 a1_4) := (blk_cell BK170.out 4).trans rfl; have hfz70_0 := blk_frozen BK170.out 0; have hfz70_1 := blk_frozen BK170.out 1; have hfz70_2 := blk_frozen BK170.out 2; have hfz70_3 := blk_frozen BK170.out 3; have hfz70_4 := blk_frozen BK170.out 4))
                      go_ret
                      exact ⟨by first | rfl | (simp [errW_none, errW_some] <;> rfl) | (simp [*, errW_none, errW_some] <;> rfl), by repeat (first | (with_reducible first | exact HB.out | apply below_alloc | apply pw_below_drewN | apply below_drew1 | refine below_set ?_ GE170.out | refine below_set ?_ GE180.out) | exact HB.out)⟩
                · rw [if_neg c37] at H
                  exact absurd H (by simp)
              · rw [if_neg c36] at H
                exact absurd H (by simp)
end Go.Proofs.Ytooemobolfoefaa.P

namespace Go.Proofs.Ytooemobolfoefaa.P
open Go.RowKit Go.Proofs.YtooemobolfoefaaW.PrintWords Go.Proofs.YtooemobolfoefaaW.PrintLast Go.Proofs.YtooemobolfoefaaW.PrintMore
attribute [local go_sem] max2_int min2_int max_two min_two max_three min_three max_four min_four   -- for this text's walks alone
set_option linter.unusedVariables false
set_option linter.unusedSimpArgs false
def towncrierlaw09_One.f  : Option ((List (SStep)) × Int × Int × Int × Int) := some ((([(⟨(⟨#[97]⟩ : ByteArray), ([] : List (SOp)), 1, 1, false, (⟨#[]⟩ : ByteArray), ([] : List (SOp))⟩ : SStep)] : List (SStep))), 0, 0, 0, 0)
set_option maxHeartbeats 8000000 in
set_option maxRecDepth 100000 in
theorem towncrierlaw09_One.calls  (r1 : List (SStep)) (r2 : Int) (r3 : Int) (r4 : Int) (r5 : Int) (w : World) (h : towncrierlaw09_One.f  = some (r1, r2, r3, r4, r5)) :
    Calls Try.prog 19 #[] w fun e w' => ∃ v0_ : Value, e = .returned (.agg #[v0_, .int .i64 r2, .int .i64 r3, .int .i64 r4, .int .i64 r5]) ∧ Kd.S kStep 40 w' w.heap.size (fun _ => True) v0_ r1 ∧ Below w.heap.size w w' := by
  have hu24 := Try.underlying24
  have hu40 := Try.underlying40
  have HB := Aside0.mk (Below.refl w.heap.size w)
  have H : (some ((([(⟨(⟨#[97]⟩ : ByteArray), ([] : List (SOp)), 1, 1, false, (⟨#[]⟩ : ByteArray), ([] : List (SOp))⟩ : SStep)] : List (SStep))), 0, 0, 0, 0)) = some (r1, r2, r3, r4, r5) := h
  clear h
  obtain ⟨y187, hy187⟩ : ∃ y_ : List (SStep), y_ = (([(⟨(⟨#[97]⟩ : ByteArray), ([] : List (SOp)), 1, 1, false, (⟨#[]⟩ : ByteArray), ([] : List (SOp))⟩ : SStep)] : List (SStep))) := ⟨_, rfl⟩
  replace H : (some (y187, 0, 0, 0, 0)) = some (r1, r2, r3, r4, r5) := by first | (rw [hy187]; with_reducible exact H) | (have H2_ := (Option.bind_some _ _).symm.trans H; rw [hy187]; with_reducible exact H2_) | (have H2_ := (Option.bind_some _ _).symm.trans H; with_reducible exact H2_) | with_reducible exact H | (rw [hy187]; exact H) | exact H
  have Ny187 := Aside0.mk hy187
  clear hy187
  simp only [Option.some.injEq, Prod.mk.injEq] at H
  obtain ⟨rfl, rfl, rfl, rfl, rfl⟩ := H
  go_enter Try.func19, Try.ntmps19
  go_wp2_with (first | ((with_reducible refine gate_dst (N := 0) rfl ?_); refine box_event ?hg (N := 0) ?hd (cs := #[.slice none 0 0, .int .i64 0, .int .i64 0, .int .i64 0, .int .i64 0]) (t := 24) ?hr ?_; (case hd => rfl); (case hg => rfl); (case hr => first | (go_simp; done) | (go_simp; rfl)); intro gb186 hg w1 hbox hb; have n0_ := Aside0.mk (below_step (by repeat (first | (with_reducible first | exact HB.out | apply below_alloc | apply pw_below_drewN | apply below_drew1) | exact HB.out)) hb); have n1_ := Aside0.mk (hbox); have n2_ := Aside0.mk ((by rw [hg]; exact (below_size (by repeat (first | (with_reducible first | exact HB.out | apply below_alloc | apply pw_below_drewN | apply below_drew1) | exact HB.out))) : w.heap.size ≤ gb186)); have n3_ := Aside0.mk ((by rw [hg]; exact (below_size (by repeat (first | (with_reducible first | exact HB.out | apply below_alloc | apply pw_below_drewN | apply below_drew1) | exact HB.out))) : w.heap.size ≤ gb186)); clear HB; have HB := n0_; have BK186 := n1_; have GW186 := n2_; have GE186 := n3_; clear n0_ n1_ n2_ n3_; clear hb hbox hg) | ((with_reducible refine gate_dst (N := 2) rfl ?_); refine Kd.S_lit kStep _ 40 ?hg (N := 2) ?hd (xs := ([(⟨(⟨#[97]⟩ : ByteArray), ([] : List (SOp)), 1, 1, false, (⟨#[]⟩ : ByteArray), ([] : List (SOp))⟩ : SStep)] : List (SStep))) (inner := [.string (⟨#[97]⟩ : ByteArray), .slice none 0 0, .int .i64 1, .int .i64 1, .bool false, .string (⟨#[]⟩ : ByteArray), .slice none 0 0]) (ok := fun _ => True) (okp := fun _ => True) ?hr ?hp (fun _ hk => hk) trivial (Below.refl _ _) (Nat.le_refl _) (by simp) ?_; (case hd => rfl); (case hg => rfl); (case hr => first | (go_simp; done) | (go_simp; rfl)); (case hp => exact (Reps.c7 (show Kd.M kStep _ _ _ (⟨(⟨#[97]⟩ : ByteArray), ([] : List (SOp)), 1, 1, false, (⟨#[]⟩ : ByteArray), ([] : List (SOp))⟩ : SStep) [.string (⟨#[97]⟩ : ByteArray), .slice none 0 0, .int .i64 1, .int .i64 1, .bool false, .string (⟨#[]⟩ : ByteArray), .slice none 0 0] from (kStep_mkM _ _ _ (⟨(⟨#[97]⟩ : ByteArray), ([] : List (SOp)), 1, 1, false, (⟨#[]⟩ : ByteArray), ([] : List (SOp))⟩ : SStep) (Kd.R_nil _ _ _ _ _) (Kd.R_nil _ _ _ _ _))) (Reps.none _ _))); intro v188 w2 ho3 hb hg_ hnew_; clear hg_ hnew_; (first | rw [← Ny187.out] at ho3 | (simp only [Int.reduceToNat] at ho3; rw [← Ny187.out] at ho3)); have n0_ := Aside0.mk (Kd.S_lower ho3 (below_size (by repeat (first | (with_reducible first | exact HB.out | apply below_alloc | apply pw_below_drewN | apply below_drew1 | refine below_set ?_ GE186.out) | exact HB.out)))); have n1_ := Aside0.mk (blk_below (g := gb186) (o := .cells #[.slice none 0 0, .int .i64 0, .int .i64 0, .int .i64 0, .int .i64 0] 24 (0, 0)) (by (with_reducible repeat (first | refine blk_drewN ?_ _ | refine blk_drew ?_ | refine blk_alloc ?_ _)); exact BK186.out) hb); have n2_ := Aside0.mk (below_step (by repeat (first | (with_reducible first | exact HB.out | apply below_alloc | apply pw_below_drewN | apply below_drew1 | refine below_set ?_ GE186.out) | exact HB.out)) hb); clear BK186; clear HB; have HO189 := n0_; have BK186 := n1_; have HB := n2_; clear n0_ n1_ n2_; clear hb ho3; obtain ⟨Ao4, co4, eo4⟩ := Kd.S_slice HO189.out; subst eo4; have hcz5_0 : w2.cell? ⟨gb186, 0, none⟩ = some (.slice none 0 0) := (blk_cell BK186.out 0).trans rfl; have hcz5_1 : w2.cell? ⟨gb186, 1, none⟩ = some (.int .i64 0) := (blk_cell BK186.out 1).trans rfl; have hcz5_2 : w2.cell? ⟨gb186, 2, none⟩ = some (.int .i64 0) := (blk_cell BK186.out 2).trans rfl; have hcz5_3 : w2.cell? ⟨gb186, 3, none⟩ = some (.int .i64 0) := (blk_cell BK186.out 3).trans rfl; have hcz5_4 : w2.cell? ⟨gb186, 4, none⟩ = some (.int .i64 0) := (blk_cell BK186.out 4).trans rfl; have hfz5_0 := blk_frozen BK186.out 0; have hfz5_1 := blk_frozen BK186.out 1; have hfz5_2 := blk_frozen BK186.out 2; have hfz5_3 := blk_frozen BK186.out 3; have hfz5_4 := blk_frozen BK186.out 4))
  refine bodyPost_ret (results_cell_row rfl _ _ gb186 24 #[.slice Ao4 y187.length co4, .int .i64 0, .int .i64 0, .int .i64 0, .int .i64 0] (0, 0) _ rfl (by (with_reducible repeat (first | refine blk_drewN ?_ _ | refine blk_drew ?_ | refine blk_alloc ?_ _)); refine blk_put (cs := #[.slice Ao4 y187.length co4, .int .i64 0, .int .i64 0, .int .i64 0, .int .i64 0]) ?_ 4 _ rfl; (with_reducible repeat (first | refine blk_drewN ?_ _ | refine blk_drew ?_ | refine blk_alloc ?_ _)); refine blk_put (cs := #[.slice Ao4 y187.length co4, .int .i64 0, .int .i64 0, .int .i64 0, .int .i64 0]) ?_ 3 _ rfl; (with_reducible repeat (first | refine blk_drewN ?_ _ | refine blk_drew ?_ | refine blk_alloc ?_ _)); refine blk_put (cs := #[.slice Ao4 y187.length co4, .int .i64 0, .int .i64 0, .int .i64 0, .int .i64 0]) ?_ 2 _ rfl; (with_reducible repeat (first | refine blk_drewN ?_ _ | refine blk_drew ?_ | refine blk_alloc ?_ _)); refine blk_put (cs := #[.slice Ao4 y187.length co4, .int .i64 0, .int .i64 0, .int .i64 0, .int .i64 0]) ?_ 1 _ rfl; (with_reducible repeat (first | refine blk_drewN ?_ _ | refine blk_drew ?_ | refine blk_alloc ?_ _)); refine blk_put (cs := #[.slice none 0 0, .int .i64 0, .int .i64 0, .int .i64 0, .int .i64 0]) ?_ 0 _ rfl; (with_reducible repeat (first | refine blk_drewN ?_ _ | refine blk_drew ?_ | refine blk_alloc ?_ _)); exact BK186.out) Try.underlying24 rfl (by kernel_rfl)) rfl ?_
  exact ⟨_, by first | rfl | (simp [errW_none, errW_some] <;> rfl) | (simp [*, errW_none, errW_some] <;> rfl), by (with_reducible repeat (first | apply Kd.S_alloc | apply Kd.S_drewN | apply Kd.S_drew)); exact Kd.S_mono (Kd.S_far (p := ⟨gb186, 4, none⟩) (Kd.S_far (p := ⟨gb186, 3, none⟩) (Kd.S_far (p := ⟨gb186, 2, none⟩) (Kd.S_far (p := ⟨gb186, 1, none⟩) (Kd.S_far (p := ⟨gb186, 0, none⟩) (Kd.S_types HO189.out BK186.out (by decide)) (fun _ hk => hk.2) (.slice Ao4 y187.length co4)) (fun _ hk => hk.2) (.int .i64 0)) (fun _ hk => hk.2) (.int .i64 0)) (fun _ hk => hk.2) (.int .i64 0)) (fun _ hk => hk.2) (.int .i64 0)) (fun _ hk => trivial), by repeat (first | (with_reducible first | exact HB.out | apply below_alloc | apply pw_below_drewN | apply below_drew1 | refine below_set ?_ GE186.out) | exact HB.out)⟩
end Go.Proofs.Ytooemobolfoefaa.P

namespace Go.Proofs.Ytooemobolfoefaa.P
open Go.RowKit Go.Proofs.YtooemobolfoefaaW.PrintWords Go.Proofs.YtooemobolfoefaaW.PrintLast Go.Proofs.YtooemobolfoefaaW.PrintMore
attribute [local go_sem] max2_int min2_int max_two min_two max_three min_three max_four min_four   -- for this text's walks alone
set_option linter.unusedVariables false
set_option linter.unusedSimpArgs false
def towncrierlaw09_Few.l0 : Nat → Int → List (SStep) → Int → Int → Int → Int → Option (Bool)
  | 0, _, _, _, _, _, _ => none
  | k + 1, x3, x199000, x199001, x199002, x199003, x199004 => if x3 < (x199000.length : Int) then (if 0 ≤ x3 then ((towncrierlaw08_Few.f k ((rd_TStep x199000 x3).f1)).bind fun t201 => ((towncrierlaw08_Few.f k ((rd_TStep x199000 x3).f6)).bind fun t202 => (if t201 = true then (if t202 = true then (if (((rd_TStep x199000 x3).f0).size : Int) > 60 then (some false) else (if (((rd_TStep x199000 x3).f5).size : Int) > 60 then (some false) else (towncrierlaw09_Few.l0 k (wrap64 (x3 + 1)) x199000 x199001 x199002 x199003 x199004))) else (some false)) else (some false)))) else (none)) else (some true)
def towncrierlaw09_Few.f (k : Nat) (l0_0 : List (SStep)) (a0_1 : Int) (a0_2 : Int) (a0_3 : Int) (a0_4 : Int) : Option (Bool) := if (l0_0.length : Int) > 8 then (some false) else (towncrierlaw09_Few.l0 k 0 l0_0 a0_1 a0_2 a0_3 a0_4)
set_option maxHeartbeats 8000000 in
set_option maxRecDepth 100000 in
theorem towncrierlaw09_Few.calls (k : Nat) (A0_0 : Option Addr) (c0_0 : Nat) (l0_0 : List (SStep)) (a0_1 : Int) (a0_2 : Int) (a0_3 : Int) (a0_4 : Int) (r : Bool) (w : World) (hr0_0 : Kd.C kStep w A0_0 l0_0.length l0_0) (hc0_0 : l0_0.length ≤ c0_0) (h : towncrierlaw09_Few.f k l0_0 a0_1 a0_2 a0_3 a0_4 = some r) :
    Calls Try.prog 10 #[.agg #[.slice A0_0 l0_0.length c0_0, .int .i64 a0_1, .int .i64 a0_2, .int .i64 a0_3, .int .i64 a0_4]] w fun e w' => e = .returned (.bool r) ∧ Below w.heap.size w w' := by
  have hu24 := Try.underlying24
  have hu40 := Try.underlying40
  have HR0_0 := Aside0.mk hr0_0
  have HC0_0 := Aside0.mk hc0_0
  clear hr0_0 hc0_0
  have HB := Aside0.mk (Below.refl w.heap.size w)
  have H : (if (l0_0.length : Int) > 8 then (some false) else (towncrierlaw09_Few.l0 k 0 l0_0 a0_1 a0_2 a0_3 a0_4)) = some r := h
  clear h
  by_cases c2 : (l0_0.length : Int) > 8
  · rw [if_pos c2] at H
    have c2b0 : decide (8 < (l0_0.length : Int)) = true := decide_eq_true c2
    have c2b1 : decide (8 < l0_0.length) = true := decide_eq_true (by omega)
    clear c2
    obtain rfl := Option.some.inj H
    go_enter Try.func10, Try.ntmps10
    go_wp2_with (first | ((with_reducible refine gate_dst (N := 1) rfl ?_); (try (refine gate_guard (by rfl) ?_; dsimp only)); refine box_event ?hg (N := 1) ?hd (cs := #[.slice A0_0 l0_0.length c0_0, .int .i64 a0_1, .int .i64 a0_2, .int .i64 a0_3, .int .i64 a0_4]) (t := 24) ?hr ?_; (case hd => rfl); (case hg => rfl); (case hr => first | (go_simp; done) | (go_simp; rfl)); intro gb198 hg w3 hbox hb; have n0_ := Aside0.mk (below_step (by repeat (first | (with_reducible first | exact HB.out | apply below_alloc | apply pw_below_drewN | apply below_drew1) | exact HB.out)) hb); have n1_ := Aside0.mk (hbox); have n2_ := Aside0.mk ((by rw [hg]; exact (below_size (by repeat (first | (with_reducible first | exact HB.out | apply below_alloc | apply pw_below_drewN | apply below_drew1) | exact HB.out))) : w.heap.size ≤ gb198)); have n3_ := Aside0.mk ((by rw [hg]; exact (below_size (by repeat (first | (with_reducible first | exact HB.out | apply below_alloc | apply pw_below_drewN | apply below_drew1) | exact HB.out))) : w.heap.size ≤ gb198)); clear HB; have HB := n0_; have BK198 := n1_; have GW198 := n2_; have GE198 := n3_; clear n0_ n1_ n2_ n3_; clear hb hbox hg; have hcz4_0 : w3.cell? ⟨gb198, 0, none⟩ = some (.slice A0_0 l0_0.length c0_0) := (blk_cell BK198.out 0).trans rfl; have hcz4_1 : w3.cell? ⟨gb198, 1, none⟩ = some (.int .i64 a0_1) := (blk_cell BK198.out 1).trans rfl; have hcz4_2 : w3.cell? ⟨gb198, 2, none⟩ = some (.int .i64 a0_2) := (blk_cell BK198.out 2).trans rfl; have hcz4_3 : w3.cell? ⟨gb198, 3, none⟩ = some (.int .i64 a0_3) := (blk_cell BK198.out 3).trans rfl; have hcz4_4 : w3.cell? ⟨gb198, 4, none⟩ = some (.int .i64 a0_4) := (blk_cell BK198.out 4).trans rfl; have hfz4_0 := blk_frozen BK198.out 0; have hfz4_1 := blk_frozen BK198.out 1; have hfz4_2 := blk_frozen BK198.out 2; have hfz4_3 := blk_frozen BK198.out 3; have hfz4_4 := blk_frozen BK198.out 4))
    go_ret
    exact ⟨by first | rfl | (simp [errW_none, errW_some] <;> rfl) | (simp [*, errW_none, errW_some] <;> rfl), by repeat (first | (with_reducible first | exact HB.out | apply below_alloc | apply pw_below_drewN | apply below_drew1 | refine below_set ?_ GE198.out) | exact HB.out)⟩
  · rw [if_neg c2] at H
    have c2b0 : decide (8 < (l0_0.length : Int)) = false := decide_eq_false c2
    have c2b1 : decide (8 < l0_0.length) = false := decide_eq_false (by omega)
    clear c2
    have H' := Aside0.mk H
    clear H
    go_enter Try.func10, Try.ntmps10
    go_wp2_with (first | ((with_reducible refine gate_dst (N := 1) rfl ?_); (try (refine gate_guard (by rfl) ?_; dsimp only)); refine box_event ?hg (N := 1) ?hd (cs := #[.slice A0_0 l0_0.length c0_0, .int .i64 a0_1, .int .i64 a0_2, .int .i64 a0_3, .int .i64 a0_4]) (t := 24) ?hr ?_; (case hd => rfl); (case hg => rfl); (case hr => first | (go_simp; done) | (go_simp; rfl)); intro gb198 hg w5 hbox hb; have n0_ := Aside0.mk (below_step (by repeat (first | (with_reducible first | exact HB.out | apply below_alloc | apply pw_below_drewN | apply below_drew1) | exact HB.out)) hb); have n1_ := Aside0.mk (hbox); have n2_ := Aside0.mk ((by rw [hg]; exact (below_size (by repeat (first | (with_reducible first | exact HB.out | apply below_alloc | apply pw_below_drewN | apply below_drew1) | exact HB.out))) : w.heap.size ≤ gb198)); have n3_ := Aside0.mk ((by rw [hg]; exact (below_size (by repeat (first | (with_reducible first | exact HB.out | apply below_alloc | apply pw_below_drewN | apply below_drew1) | exact HB.out))) : w.heap.size ≤ gb198)); clear HB; have HB := n0_; have BK198 := n1_; have GW198 := n2_; have GE198 := n3_; clear n0_ n1_ n2_ n3_; clear hb hbox hg; have hcz6_0 : w5.cell? ⟨gb198, 0, none⟩ = some (.slice A0_0 l0_0.length c0_0) := (blk_cell BK198.out 0).trans rfl; have hcz6_1 : w5.cell? ⟨gb198, 1, none⟩ = some (.int .i64 a0_1) := (blk_cell BK198.out 1).trans rfl; have hcz6_2 : w5.cell? ⟨gb198, 2, none⟩ = some (.int .i64 a0_2) := (blk_cell BK198.out 2).trans rfl; have hcz6_3 : w5.cell? ⟨gb198, 3, none⟩ = some (.int .i64 a0_3) := (blk_cell BK198.out 3).trans rfl; have hcz6_4 : w5.cell? ⟨gb198, 4, none⟩ = some (.int .i64 a0_4) := (blk_cell BK198.out 4).trans rfl; have hfz6_0 := blk_frozen BK198.out 0; have hfz6_1 := blk_frozen BK198.out 1; have hfz6_2 := blk_frozen BK198.out 2; have hfz6_3 := blk_frozen BK198.out 3; have hfz6_4 := blk_frozen BK198.out 4))
    go_loopg [3] k (fun kq v3 w' => ∃ (x3_1 : Int), v3 = .int .i64 x3_1 ∧ Aside0 (towncrierlaw09_Few.l0 kq x3_1 l0_0 a0_1 a0_2 a0_3 a0_4 = some r) ∧ Aside0 (kq ≤ k) ∧ Aside0 (w'.heap[gb198]? = some (.cells #[(.slice A0_0 l0_0.length c0_0), .int .i64 a0_1, .int .i64 a0_2, .int .i64 a0_3, .int .i64 a0_4] 24 (0, 0))) ∧ Aside0 (Below w.heap.size w w'))
    case atStart => exact ⟨(0), (by first | rfl | (simp; done) | (simp [*]; done)), H', ⟨Nat.le_refl _⟩, ⟨by (with_reducible repeat (first | refine blk_drewN ?_ _ | refine blk_drew ?_ | refine blk_alloc ?_ _)); exact BK198.out⟩, ⟨by repeat (first | (with_reducible first | exact HB.out | apply below_alloc | apply pw_below_drewN | apply below_drew1 | refine below_set ?_ GE198.out) | exact HB.out)⟩⟩
    case round =>
      clear H'
      try clear c1
      try clear c2
      try clear c2b0
      try clear c2b1
      try clear p2
      try clear hcz4_0
      try clear hcz4_1
      try clear hcz4_2
      try clear hcz4_3
      try clear hcz4_4
      try clear hcz6_0
      try clear hcz6_1
      try clear hcz6_2
      try clear hcz6_3
      try clear hcz6_4
      try clear hfz4_0
      try clear hfz4_1
      try clear hfz4_2
      try clear hfz4_3
      try clear hfz4_4
      try clear hfz6_0
      try clear hfz6_1
      try clear hfz6_2
      try clear hfz6_3
      try clear hfz6_4
      obtain ⟨x3_1, rfl, HA, HK1, BK198, HB⟩ := hrel
      cases gk with
      | zero => exact absurd HA.out (by simp [towncrierlaw09_Few.l0])
      | succ k1 =>
        have H := HA.out
        clear HA
        simp only [towncrierlaw09_Few.l0] at H
        by_cases c7 : x3_1 < (l0_0.length : Int)
        · rw [if_pos c7] at H
          have c7b0 : decide (x3_1 < (l0_0.length : Int)) = true := decide_eq_true c7
          clear c7
          by_cases c8 : 0 ≤ x3_1
          · rw [if_pos c8] at H
            have c8b0 : decide (0 ≤ x3_1) = true := decide_eq_true c8
            clear c8
            replace H := Option.bind_eq_some_iff.mp H
            obtain ⟨t201, A90, H⟩ := H
            replace H : ((towncrierlaw08_Few.f k1 ((rd_TStep l0_0 x3_1).f6)).bind fun t202 => (if t201 = true then (if t202 = true then (if (((rd_TStep l0_0 x3_1).f0).size : Int) > 60 then (some false) else (if (((rd_TStep l0_0 x3_1).f5).size : Int) > 60 then (some false) else (towncrierlaw09_Few.l0 k1 (wrap64 (x3_1 + 1)) l0_0 a0_1 a0_2 a0_3 a0_4))) else (some false)) else (some false))) = some r := H
            have A9 := Aside0.mk A90
            clear A90
            replace H := Option.bind_eq_some_iff.mp H
            obtain ⟨t202, A100, H⟩ := H
            replace H : (if t201 = true then (if t202 = true then (if (((rd_TStep l0_0 x3_1).f0).size : Int) > 60 then (some false) else (if (((rd_TStep l0_0 x3_1).f5).size : Int) > 60 then (some false) else (towncrierlaw09_Few.l0 k1 (wrap64 (x3_1 + 1)) l0_0 a0_1 a0_2 a0_3 a0_4))) else (some false)) else (some false)) = some r := H
            have A10 := Aside0.mk A100
            clear A100
            by_cases c11 : t201 = true
            · subst c11
              have H1 : (if t202 = true then (if (((rd_TStep l0_0 x3_1).f0).size : Int) > 60 then (some false) else (if (((rd_TStep l0_0 x3_1).f5).size : Int) > 60 then (some false) else (towncrierlaw09_Few.l0 k1 (wrap64 (x3_1 + 1)) l0_0 a0_1 a0_2 a0_3 a0_4))) else (some false)) = some r := by rw [if_pos rfl] at H; exact H
              clear H
              have H := H1
              clear H1
              by_cases c12 : t202 = true
              · subst c12
                have H1 : (if (((rd_TStep l0_0 x3_1).f0).size : Int) > 60 then (some false) else (if (((rd_TStep l0_0 x3_1).f5).size : Int) > 60 then (some false) else (towncrierlaw09_Few.l0 k1 (wrap64 (x3_1 + 1)) l0_0 a0_1 a0_2 a0_3 a0_4))) = some r := by rw [if_pos rfl] at H; exact H
                clear H
                have H := H1
                clear H1
                by_cases c13 : (((rd_TStep l0_0 x3_1).f0).size : Int) > 60
                · rw [if_pos c13] at H
                  have c13b0 : decide (60 < (((rd_TStep l0_0 x3_1).f0).size : Int)) = true := decide_eq_true c13
                  have c13b1 : decide (60 < ((rd_TStep l0_0 x3_1).f0).size) = true := decide_eq_true (by omega)
                  clear c13
                  obtain rfl := Option.some.inj H
                  have hcz14_0 : wr.cell? ⟨gb198, 0, none⟩ = some (.slice A0_0 l0_0.length c0_0) := (blk_cell BK198.out 0).trans rfl
                  have hcz14_1 : wr.cell? ⟨gb198, 1, none⟩ = some (.int .i64 a0_1) := (blk_cell BK198.out 1).trans rfl
                  have hcz14_2 : wr.cell? ⟨gb198, 2, none⟩ = some (.int .i64 a0_2) := (blk_cell BK198.out 2).trans rfl
                  have hcz14_3 : wr.cell? ⟨gb198, 3, none⟩ = some (.int .i64 a0_3) := (blk_cell BK198.out 3).trans rfl
                  have hcz14_4 : wr.cell? ⟨gb198, 4, none⟩ = some (.int .i64 a0_4) := (blk_cell BK198.out 4).trans rfl
                  have hfz14_0 := blk_frozen BK198.out 0
                  have hfz14_1 := blk_frozen BK198.out 1
                  have hfz14_2 := blk_frozen BK198.out 2
                  have hfz14_3 := blk_frozen BK198.out 3
                  have hfz14_4 := blk_frozen BK198.out 4
                  have p199 : 0 ≤ (x3_1 : Int) := of_decide_eq_true (by first | (with_reducible assumption) | assumption)
                  have q199 : x3_1 < (l0_0.length : Int) := of_decide_eq_true (by first | (with_reducible assumption) | assumption)
                  obtain ⟨ad199, A199_1, c199_1, A199_6, c199_6, e199, hx199_0, hx199_1, hx199_2, hx199_3, hx199_4, hx199_5, hx199_6, hl199_1, hi199_1, hl199_6, hi199_6⟩ := at_TStep HR0_0.out x3_1 p199 q199
                  cases e199
                  replace hx199_0 := (HB.out.cell (World.block_lt_of_cell? w _ hx199_0)).trans hx199_0
                  replace hx199_1 := (HB.out.cell (World.block_lt_of_cell? w _ hx199_1)).trans hx199_1
                  replace hx199_2 := (HB.out.cell (World.block_lt_of_cell? w _ hx199_2)).trans hx199_2
                  replace hx199_3 := (HB.out.cell (World.block_lt_of_cell? w _ hx199_3)).trans hx199_3
                  replace hx199_4 := (HB.out.cell (World.block_lt_of_cell? w _ hx199_4)).trans hx199_4
                  replace hx199_5 := (HB.out.cell (World.block_lt_of_cell? w _ hx199_5)).trans hx199_5
                  replace hx199_6 := (HB.out.cell (World.block_lt_of_cell? w _ hx199_6)).trans hx199_6
                  have HR199_1 := Aside0.mk hi199_1
                  have HC199_1 := Aside0.mk hl199_1
                  clear hi199_1 hl199_1
                  have HR199_6 := Aside0.mk hi199_6
                  have HC199_6 := Aside0.mk hl199_6
                  clear hi199_6 hl199_6
                  replace p199 := eq_true p199
                  replace q199 := eq_true q199
                  go_wp2_with (first | ((with_reducible refine gate_dst (N := 4) rfl ?_); (try (refine gate_guard (by rfl) ?_; dsimp only)); refine box_event ?hg (N := 4) ?hd (cs := #[.string (⟨#[]⟩ : ByteArray), .slice none 0 0, .int .i64 0, .int .i64 0, .bool false, .string (⟨#[]⟩ : ByteArray), .slice none 0 0]) (t := 40) ?hr ?_; (case hd => rfl); (case hg => rfl); (case hr => first | (go_simp; done) | (go_simp; rfl)); intro gb200 hg w15 hbox hb; have n0_ := Aside0.mk (blk_below (g := gb198) (o := .cells #[.slice (some ad199) l0_0.length c0_0, .int .i64 a0_1, .int .i64 a0_2, .int .i64 a0_3, .int .i64 a0_4] 24 (0, 0)) (by (with_reducible repeat (first | refine blk_drewN ?_ _ | refine blk_drew ?_ | refine blk_alloc ?_ _)); exact BK198.out) hb); have n1_ := Aside0.mk (below_step (by repeat (first | (with_reducible first | exact HB.out | apply below_alloc | apply pw_below_drewN | apply below_drew1 | refine below_set ?_ GE198.out) | exact HB.out)) hb); have n2_ := Aside0.mk (hbox); have n3_ := Aside0.mk ((by rw [hg]; exact (below_size (by repeat (first | (with_reducible first | exact HB.out | apply below_alloc | apply pw_below_drewN | apply below_drew1 | refine below_set ?_ GE198.out) | exact HB.out))) : w.heap.size ≤ gb200)); have n4_ := Aside0.mk ((by rw [hg]; exact (below_size (by repeat (first | (with_reducible first | exact HB.out | apply below_alloc | apply pw_below_drewN | apply below_drew1 | refine below_set ?_ GE198.out) | exact HB.out))) : w.heap.size ≤ gb200)); have n5_ := Aside0.mk ((by rw [hg]; exact Nat.ne_of_lt (blk_lt (g := gb198) (o := .cells #[.slice (some ad199) l0_0.length c0_0, .int .i64 a0_1, .int .i64 a0_2, .int .i64 a0_3, .int .i64 a0_4] 24 (0, 0)) (by (with_reducible repeat (first | refine blk_drewN ?_ _ | refine blk_drew ?_ | refine blk_alloc ?_ _)); exact BK198.out)) : gb198 ≠ gb200)); have n6_ := Aside0.mk ((by rw [hg]; exact Nat.ne_of_gt (blk_lt (g := gb198) (o := .cells #[.slice (some ad199) l0_0.length c0_0, .int .i64 a0_1, .int .i64 a0_2, .int .i64 a0_3, .int .i64 a0_4] 24 (0, 0)) (by (with_reducible repeat (first | refine blk_drewN ?_ _ | refine blk_drew ?_ | refine blk_alloc ?_ _)); exact BK198.out)) : gb200 ≠ gb198)); clear BK198; clear HB; have BK198 := n0_; have HB := n1_; have BK200 := n2_; have GW200 := n3_; have GE200 := n4_; have NB198_200 := n5_; have NB200_198 := n6_; clear n0_ n1_ n2_ n3_ n4_ n5_ n6_; clear hb hbox hg; have hnb16 := NB200_198.out; have hnc16 := NB198_200.out; have hcz17_0 : w15.cell? ⟨gb200, 0, none⟩ = some (.string (⟨#[]⟩ : ByteArray)) := (blk_cell BK200.out 0).trans rfl; have hcz17_1 : w15.cell? ⟨gb200, 1, none⟩ = some (.slice none 0 0) := (blk_cell BK200.out 1).trans rfl; have hcz17_2 : w15.cell? ⟨gb200, 2, none⟩ = some (.int .i64 0) := (blk_cell BK200.out 2).trans rfl; have hcz17_3 : w15.cell? ⟨gb200, 3, none⟩ = some (.int .i64 0) := (blk_cell BK200.out 3).trans rfl; have hcz17_4 : w15.cell? ⟨gb200, 4, none⟩ = some (.bool false) := (blk_cell BK200.out 4).trans rfl; have hcz17_5 : w15.cell? ⟨gb200, 5, none⟩ = some (.string (⟨#[]⟩ : ByteArray)) := (blk_cell BK200.out 5).trans rfl; have hcz17_6 : w15.cell? ⟨gb200, 6, none⟩ = some (.slice none 0 0) := (blk_cell BK200.out 6).trans rfl; have hfz17_0 := blk_frozen BK200.out 0; have hfz17_1 := blk_frozen BK200.out 1; have hfz17_2 := blk_frozen BK200.out 2; have hfz17_3 := blk_frozen BK200.out 3; have hfz17_4 := blk_frozen BK200.out 4; have hfz17_5 := blk_frozen BK200.out 5; have hfz17_6 := blk_frozen BK200.out 6) | ((with_reducible refine gate_callee (f := 20) rfl ?_); refine goesL_ (some 25) rfl rfl Try.func20 (by kernel_rfl) rfl #[.slice A199_1 ((rd_TStep l0_0 x3_1).f1).length c199_1] rfl (by (try simp only [List.map_toArray, List.map_cons, List.map_nil]); first | done | rfl | (simp only [List.length_drop, List.length_take]; rfl)) ?_; (with_reducible refine (towncrierlaw08_Few.calls k1 _ _ ((rd_TStep l0_0 x3_1).f1) true _ ?side1 ?side2 A9.out).mono ?_); (case side1 => exact Kd.C_below HR199_1.out (by repeat (first | (with_reducible first | exact HB.out | apply below_alloc | apply pw_below_drewN | apply below_drew1 | refine below_set ?_ GE198.out | refine below_set ?_ GE200.out) | exact HB.out))); (case side2 => exact HC199_1.out); rintro e w' ⟨rfl, ⟨nd, rfl⟩⟩; refine ⟨_, rfl, ?_⟩) | ((with_reducible refine gate_callee (f := 20) rfl ?_); refine goesL_ (some 28) rfl rfl Try.func20 (by kernel_rfl) rfl #[.slice A199_6 ((rd_TStep l0_0 x3_1).f6).length c199_6] rfl (by (try simp only [List.map_toArray, List.map_cons, List.map_nil]); first | done | rfl | (simp only [List.length_drop, List.length_take]; rfl)) ?_; (with_reducible refine (towncrierlaw08_Few.calls k1 _ _ ((rd_TStep l0_0 x3_1).f6) true _ ?side1 ?side2 A10.out).mono ?_); (case side1 => exact Kd.C_below HR199_6.out (by repeat (first | (with_reducible first | exact HB.out | apply below_alloc | apply pw_below_drewN | apply below_drew1 | refine below_set ?_ GE198.out | refine below_set ?_ GE200.out) | exact HB.out))); (case side2 => exact HC199_6.out); rintro e w' ⟨rfl, ⟨nd, rfl⟩⟩; refine ⟨_, rfl, ?_⟩))
                  go_ret
                  exact ⟨by first | rfl | (simp [errW_none, errW_some] <;> rfl) | (simp [*, errW_none, errW_some] <;> rfl), by repeat (first | (with_reducible first | exact HB.out | apply below_alloc | apply pw_below_drewN | apply below_drew1 | refine below_set ?_ GE198.out | refine below_set ?_ GE200.out) | exact HB.out)⟩
                · rw [if_neg c13] at H
                  have c13b0 : decide (60 < (((rd_TStep l0_0 x3_1).f0).size : Int)) = false := decide_eq_false c13
                  have c13b1 : decide (60 < ((rd_TStep l0_0 x3_1).f0).size) = false := decide_eq_false (by omega)
                  clear c13
                  by_cases c18 : (((rd_TStep l0_0 x3_1).f5).size : Int) > 60
                  · rw [if_pos c18] at H
                    have c18b0 : decide (60 < (((rd_TStep l0_0 x3_1).f5).size : Int)) = true := decide_eq_true c18
                    have c18b1 : decide (60 < ((rd_TStep l0_0 x3_1).f5).size) = true := decide_eq_true (by omega)
                    clear c18
                    obtain rfl := Option.some.inj H
                    have hcz19_0 : wr.cell? ⟨gb198, 0, none⟩ = some (.slice A0_0 l0_0.length c0_0) := (blk_cell BK198.out 0).trans rfl
                    have hcz19_1 : wr.cell? ⟨gb198, 1, none⟩ = some (.int .i64 a0_1) := (blk_cell BK198.out 1).trans rfl
                    have hcz19_2 : wr.cell? ⟨gb198, 2, none⟩ = some (.int .i64 a0_2) := (blk_cell BK198.out 2).trans rfl
                    have hcz19_3 : wr.cell? ⟨gb198, 3, none⟩ = some (.int .i64 a0_3) := (blk_cell BK198.out 3).trans rfl
                    have hcz19_4 : wr.cell? ⟨gb198, 4, none⟩ = some (.int .i64 a0_4) := (blk_cell BK198.out 4).trans rfl
                    have hfz19_0 := blk_frozen BK198.out 0
                    have hfz19_1 := blk_frozen BK198.out 1
                    have hfz19_2 := blk_frozen BK198.out 2
                    have hfz19_3 := blk_frozen BK198.out 3
                    have hfz19_4 := blk_frozen BK198.out 4
                    have p199 : 0 ≤ (x3_1 : Int) := of_decide_eq_true (by first | (with_reducible assumption) | assumption)
                    have q199 : x3_1 < (l0_0.length : Int) := of_decide_eq_true (by first | (with_reducible assumption) | assumption)
                    obtain ⟨ad199, A199_1, c199_1, A199_6, c199_6, e199, hx199_0, hx199_1, hx199_2, hx199_3, hx199_4, hx199_5, hx199_6, hl199_1, hi199_1, hl199_6, hi199_6⟩ := at_TStep HR0_0.out x3_1 p199 q199
                    cases e199
                    replace hx199_0 := (HB.out.cell (World.block_lt_of_cell? w _ hx199_0)).trans hx199_0
                    replace hx199_1 := (HB.out.cell (World.block_lt_of_cell? w _ hx199_1)).trans hx199_1
                    replace hx199_2 := (HB.out.cell (World.block_lt_of_cell? w _ hx199_2)).trans hx199_2
                    replace hx199_3 := (HB.out.cell (World.block_lt_of_cell? w _ hx199_3)).trans hx199_3
                    replace hx199_4 := (HB.out.cell (World.block_lt_of_cell? w _ hx199_4)).trans hx199_4
                    replace hx199_5 := (HB.out.cell (World.block_lt_of_cell? w _ hx199_5)).trans hx199_5
                    replace hx199_6 := (HB.out.cell (World.block_lt_of_cell? w _ hx199_6)).trans hx199_6
                    have HR199_1 := Aside0.mk hi199_1
                    have HC199_1 := Aside0.mk hl199_1
                    clear hi199_1 hl199_1
                    have HR199_6 := Aside0.mk hi199_6
                    have HC199_6 := Aside0.mk hl199_6
                    clear hi199_6 hl199_6
                    replace p199 := eq_true p199
                    replace q199 := eq_true q199
                    go_wp2_with (first | ((with_reducible refine gate_dst (N := 4) rfl ?_); (try (refine gate_guard (by rfl) ?_; dsimp only)); refine box_event ?hg (N := 4) ?hd (cs := #[.string (⟨#[]⟩ : ByteArray), .slice none 0 0, .int .i64 0, .int .i64 0, .bool false, .string (⟨#[]⟩ : ByteArray), .slice none 0 0]) (t := 40) ?hr ?_; (case hd => rfl); (case hg => rfl); (case hr => first | (go_simp; done) | (go_simp; rfl)); intro gb200 hg w20 hbox hb; have n0_ := Aside0.mk (blk_below (g := gb198) (o := .cells #[.slice (some ad199) l0_0.length c0_0, .int .i64 a0_1, .int .i64 a0_2, .int .i64 a0_3, .int .i64 a0_4] 24 (0, 0)) (by (with_reducible repeat (first | refine blk_drewN ?_ _ | refine blk_drew ?_ | refine blk_alloc ?_ _)); exact BK198.out) hb); have n1_ := Aside0.mk (below_step (by repeat (first | (with_reducible first | exact HB.out | apply below_alloc | apply pw_below_drewN | apply below_drew1 | refine below_set ?_ GE198.out) | exact HB.out)) hb); have n2_ := Aside0.mk (hbox); have n3_ := Aside0.mk ((by rw [hg]; exact (below_size (by repeat (first | (with_reducible first | exact HB.out | apply below_alloc | apply pw_below_drewN | apply below_drew1 | refine below_set ?_ GE198.out) | exact HB.out))) : w.heap.size ≤ gb200)); have n4_ := Aside0.mk ((by rw [hg]; exact (below_size (by repeat (first | (with_reducible first | exact HB.out | apply below_alloc | apply pw_below_drewN | apply below_drew1 | refine below_set ?_ GE198.out) | exact HB.out))) : w.heap.size ≤ gb200)); have n5_ := Aside0.mk ((by rw [hg]; exact Nat.ne_of_lt (blk_lt (g := gb198) (o := .cells #[.slice (some ad199) l0_0.length c0_0, .int .i64 a0_1, .int .i64 a0_2, .int .i64 a0_3, .int .i64 a0_4] 24 (0, 0)) (by (with_reducible repeat (first | refine blk_drewN ?_ _ | refine blk_drew ?_ | refine blk_alloc ?_ _)); exact BK198.out)) : gb198 ≠ gb200)); have n6_ := Aside0.mk ((by rw [hg]; exact Nat.ne_of_gt (blk_lt (g := gb198) (o := .cells #[.slice (some ad199) l0_0.length c0_0, .int .i64 a0_1, .int .i64 a0_2, .int .i64 a0_3, .int .i64 a0_4] 24 (0, 0)) (by (with_reducible repeat (first | refine blk_drewN ?_ _ | refine blk_drew ?_ | refine blk_alloc ?_ _)); exact BK198.out)) : gb200 ≠ gb198)); clear BK198; clear HB; have BK198 := n0_; have HB := n1_; have BK200 := n2_; have GW200 := n3_; have GE200 := n4_; have NB198_200 := n5_; have NB200_198 := n6_; clear n0_ n1_ n2_ n3_ n4_ n5_ n6_; clear hb hbox hg; have hnb21 := NB200_198.out; have hnc21 := NB198_200.out; have hcz22_0 : w20.cell? ⟨gb200, 0, none⟩ = some (.string (⟨#[]⟩ : ByteArray)) := (blk_cell BK200.out 0).trans rfl; have hcz22_1 : w20.cell? ⟨gb200, 1, none⟩ = some (.slice none 0 0) := (blk_cell BK200.out 1).trans rfl; have hcz22_2 : w20.cell? ⟨gb200, 2, none⟩ = some (.int .i64 0) := (blk_cell BK200.out 2).trans rfl; have hcz22_3 : w20.cell? ⟨gb200, 3, none⟩ = some (.int .i64 0) := (blk_cell BK200.out 3).trans rfl; have hcz22_4 : w20.cell? ⟨gb200, 4, none⟩ = some (.bool false) := (blk_cell BK200.out 4).trans rfl; have hcz22_5 : w20.cell? ⟨gb200, 5, none⟩ = some (.string (⟨#[]⟩ : ByteArray)) := (blk_cell BK200.out 5).trans rfl; have hcz22_6 : w20.cell? ⟨gb200, 6, none⟩ = some (.slice none 0 0) := (blk_cell BK200.out 6).trans rfl; have hfz22_0 := blk_frozen BK200.out 0; have hfz22_1 := blk_frozen BK200.out 1; have hfz22_2 := blk_frozen BK200.out 2; have hfz22_3 := blk_frozen BK200.out 3; have hfz22_4 := blk_frozen BK200.out 4; have hfz22_5 := blk_frozen BK200.out 5; have hfz22_6 := blk_frozen BK200.out 6) | ((with_reducible refine gate_callee (f := 20) rfl ?_); refine goesL_ (some 25) rfl rfl Try.func20 (by kernel_rfl) rfl #[.slice A199_1 ((rd_TStep l0_0 x3_1).f1).length c199_1] rfl (by (try simp only [List.map_toArray, List.map_cons, List.map_nil]); first | done | rfl | (simp only [List.length_drop, List.length_take]; rfl)) ?_; (with_reducible refine (towncrierlaw08_Few.calls k1 _ _ ((rd_TStep l0_0 x3_1).f1) true _ ?side1 ?side2 A9.out).mono ?_); (case side1 => exact Kd.C_below HR199_1.out (by repeat (first | (with_reducible first | exact HB.out | apply below_alloc | apply pw_below_drewN | apply below_drew1 | refine below_set ?_ GE198.out | refine below_set ?_ GE200.out) | exact HB.out))); (case side2 => exact HC199_1.out); rintro e w' ⟨rfl, ⟨nd, rfl⟩⟩; refine ⟨_, rfl, ?_⟩) | ((with_reducible refine gate_callee (f := 20) rfl ?_); refine goesL_ (some 28) rfl rfl Try.func20 (by kernel_rfl) rfl #[.slice A199_6 ((rd_TStep l0_0 x3_1).f6).length c199_6] rfl (by (try simp only [List.map_toArray, List.map_cons, List.map_nil]); first | done | rfl | (simp only [List.length_drop, List.length_take]; rfl)) ?_; (with_reducible refine (towncrierlaw08_Few.calls k1 _ _ ((rd_TStep l0_0 x3_1).f6) true _ ?side1 ?side2 A10.out).mono ?_); (case side1 => exact Kd.C_below HR199_6.out (by repeat (first | (with_reducible first | exact HB.out | apply below_alloc | apply pw_below_drewN | apply below_drew1 | refine below_set ?_ GE198.out | refine below_set ?_ GE200.out) | exact HB.out))); (case side2 => exact HC199_6.out); rintro e w' ⟨rfl, ⟨nd, rfl⟩⟩; refine ⟨_, rfl, ?_⟩))
                    go_ret
                    exact ⟨by first | rfl | (simp [errW_none, errW_some] <;> rfl) | (simp [*, errW_none, errW_some] <;> rfl), by repeat (first | (with_reducible first | exact HB.out | apply below_alloc | apply pw_below_drewN | apply below_drew1 | refine below_set ?_ GE198.out | refine below_set ?_ GE200.out) | exact HB.out)⟩
                  · rw [if_neg c18] at H
                    have c18b0 : decide (60 < (((rd_TStep l0_0 x3_1).f5).size : Int)) = false := decide_eq_false c18
                    have c18b1 : decide (60 < ((rd_TStep l0_0 x3_1).f5).size) = false := decide_eq_false (by omega)
                    clear c18
                    have H' := Aside0.mk H
                    clear H
                    have hcz23_0 : wr.cell? ⟨gb198, 0, none⟩ = some (.slice A0_0 l0_0.length c0_0) := (blk_cell BK198.out 0).trans rfl
                    have hcz23_1 : wr.cell? ⟨gb198, 1, none⟩ = some (.int .i64 a0_1) := (blk_cell BK198.out 1).trans rfl
                    have hcz23_2 : wr.cell? ⟨gb198, 2, none⟩ = some (.int .i64 a0_2) := (blk_cell BK198.out 2).trans rfl
                    have hcz23_3 : wr.cell? ⟨gb198, 3, none⟩ = some (.int .i64 a0_3) := (blk_cell BK198.out 3).trans rfl
                    have hcz23_4 : wr.cell? ⟨gb198, 4, none⟩ = some (.int .i64 a0_4) := (blk_cell BK198.out 4).trans rfl
                    have hfz23_0 := blk_frozen BK198.out 0
                    have hfz23_1 := blk_frozen BK198.out 1
                    have hfz23_2 := blk_frozen BK198.out 2
                    have hfz23_3 := blk_frozen BK198.out 3
                    have hfz23_4 := blk_frozen BK198.out 4
                    have p199 : 0 ≤ (x3_1 : Int) := of_decide_eq_true (by first | (with_reducible assumption) | assumption)
                    have q199 : x3_1 < (l0_0.length : Int) := of_decide_eq_true (by first | (with_reducible assumption) | assumption)
                    obtain ⟨ad199, A199_1, c199_1, A199_6, c199_6, e199, hx199_0, hx199_1, hx199_2, hx199_3, hx199_4, hx199_5, hx199_6, hl199_1, hi199_1, hl199_6, hi199_6⟩ := at_TStep HR0_0.out x3_1 p199 q199
                    cases e199
                    replace hx199_0 := (HB.out.cell (World.block_lt_of_cell? w _ hx199_0)).trans hx199_0
                    replace hx199_1 := (HB.out.cell (World.block_lt_of_cell? w _ hx199_1)).trans hx199_1
                    replace hx199_2 := (HB.out.cell (World.block_lt_of_cell? w _ hx199_2)).trans hx199_2
                    replace hx199_3 := (HB.out.cell (World.block_lt_of_cell? w _ hx199_3)).trans hx199_3
                    replace hx199_4 := (HB.out.cell (World.block_lt_of_cell? w _ hx199_4)).trans hx199_4
                    replace hx199_5 := (HB.out.cell (World.block_lt_of_cell? w _ hx199_5)).trans hx199_5
                    replace hx199_6 := (HB.out.cell (World.block_lt_of_cell? w _ hx199_6)).trans hx199_6
                    have HR199_1 := Aside0.mk hi199_1
                    have HC199_1 := Aside0.mk hl199_1
                    clear hi199_1 hl199_1
                    have HR199_6 := Aside0.mk hi199_6
                    have HC199_6 := Aside0.mk hl199_6
                    clear hi199_6 hl199_6
                    replace p199 := eq_true p199
                    replace q199 := eq_true q199
                    go_wp2_with (first | ((with_reducible refine gate_dst (N := 4) rfl ?_); (try (refine gate_guard (by rfl) ?_; dsimp only)); refine box_event ?hg (N := 4) ?hd (cs := #[.string (⟨#[]⟩ : ByteArray), .slice none 0 0, .int .i64 0, .int .i64 0, .bool false, .string (⟨#[]⟩ : ByteArray), .slice none 0 0]) (t := 40) ?hr ?_; (case hd => rfl); (case hg => rfl); (case hr => first | (go_simp; done) | (go_simp; rfl)); intro gb200 hg w24 hbox hb; have n0_ := Aside0.mk (blk_below (g := gb198) (o := .cells #[.slice (some ad199) l0_0.length c0_0, .int .i64 a0_1, .int .i64 a0_2, .int .i64 a0_3, .int .i64 a0_4] 24 (0, 0)) (by (with_reducible repeat (first | refine blk_drewN ?_ _ | refine blk_drew ?_ | refine blk_alloc ?_ _)); exact BK198.out) hb); have n1_ := Aside0.mk (below_step (by repeat (first | (with_reducible first | exact HB.out | apply below_alloc | apply pw_below_drewN | apply below_drew1 | refine below_set ?_ GE198.out) | exact HB.out)) hb); have n2_ := Aside0.mk (hbox); have n3_ := Aside0.mk ((by rw [hg]; exact (below_size (by repeat (first | (with_reducible first | exact HB.out | apply below_alloc | apply pw_below_drewN | apply below_drew1 | refine below_set ?_ GE198.out) | exact HB.out))) : w.heap.size ≤ gb200)); have n4_ := Aside0.mk ((by rw [hg]; exact (below_size (by repeat (first | (with_reducible first | exact HB.out | apply below_alloc | apply pw_below_drewN | apply below_drew1 | refine below_set ?_ GE198.out) | exact HB.out))) : w.heap.size ≤ gb200)); have n5_ := Aside0.mk ((by rw [hg]; exact Nat.ne_of_lt (blk_lt (g := gb198) (o := .cells #[.slice (some ad199) l0_0.length c0_0, .int .i64 a0_1, .int .i64 a0_2, .int .i64 a0_3, .int .i64 a0_4] 24 (0, 0)) (by (with_reducible repeat (first | refine blk_drewN ?_ _ | refine blk_drew ?_ | refine blk_alloc ?_ _)); exact BK198.out)) : gb198 ≠ gb200)); have n6_ := Aside0.mk ((by rw [hg]; exact Nat.ne_of_gt (blk_lt (g := gb198) (o := .cells #[.slice (some ad199) l0_0.length c0_0, .int .i64 a0_1, .int .i64 a0_2, .int .i64 a0_3, .int .i64 a0_4] 24 (0, 0)) (by (with_reducible repeat (first | refine blk_drewN ?_ _ | refine blk_drew ?_ | refine blk_alloc ?_ _)); exact BK198.out)) : gb200 ≠ gb198)); clear BK198; clear HB; have BK198 := n0_; have HB := n1_; have BK200 := n2_; have GW200 := n3_; have GE200 := n4_; have NB198_200 := n5_; have NB200_198 := n6_; clear n0_ n1_ n2_ n3_ n4_ n5_ n6_; clear hb hbox hg; have hnb25 := NB200_198.out; have hnc25 := NB198_200.out; have hcz26_0 : w24.cell? ⟨gb200, 0, none⟩ = some (.string (⟨#[]⟩ : ByteArray)) := (blk_cell BK200.out 0).trans rfl; have hcz26_1 : w24.cell? ⟨gb200, 1, none⟩ = some (.slice none 0 0) := (blk_cell BK200.out 1).trans rfl; have hcz26_2 : w24.cell? ⟨gb200, 2, none⟩ = some (.int .i64 0) := (blk_cell BK200.out 2).trans rfl; have hcz26_3 : w24.cell? ⟨gb200, 3, none⟩ = some (.int .i64 0) := (blk_cell BK200.out 3).trans rfl; have hcz26_4 : w24.cell? ⟨gb200, 4, none⟩ = some (.bool false) := (blk_cell BK200.out 4).trans rfl; have hcz26_5 : w24.cell? ⟨gb200, 5, none⟩ = some (.string (⟨#[]⟩ : ByteArray)) := (blk_cell BK200.out 5).trans rfl; have hcz26_6 : w24.cell? ⟨gb200, 6, none⟩ = some (.slice none 0 0) := (blk_cell BK200.out 6).trans rfl; have hfz26_0 := blk_frozen BK200.out 0; have hfz26_1 := blk_frozen BK200.out 1; have hfz26_2 := blk_frozen BK200.out 2; have hfz26_3 := blk_frozen BK200.out 3; have hfz26_4 := blk_frozen BK200.out 4; have hfz26_5 := blk_frozen BK200.out 5; have hfz26_6 := blk_frozen BK200.out 6) | ((with_reducible refine gate_callee (f := 20) rfl ?_); refine goesL_ (some 25) rfl rfl Try.func20 (by kernel_rfl) rfl #[.slice A199_1 ((rd_TStep l0_0 x3_1).f1).length c199_1] rfl (by (try simp only [List.map_toArray, List.map_cons, List.map_nil]); first | done | rfl | (simp only [List.length_drop, List.length_take]; rfl)) ?_; (with_reducible refine (towncrierlaw08_Few.calls k1 _ _ ((rd_TStep l0_0 x3_1).f1) true _ ?side1 ?side2 A9.out).mono ?_); (case side1 => exact Kd.C_below HR199_1.out (by repeat (first | (with_reducible first | exact HB.out | apply below_alloc | apply pw_below_drewN | apply below_drew1 | refine below_set ?_ GE198.out | refine below_set ?_ GE200.out) | exact HB.out))); (case side2 => exact HC199_1.out); rintro e w' ⟨rfl, ⟨nd, rfl⟩⟩; refine ⟨_, rfl, ?_⟩) | ((with_reducible refine gate_callee (f := 20) rfl ?_); refine goesL_ (some 28) rfl rfl Try.func20 (by kernel_rfl) rfl #[.slice A199_6 ((rd_TStep l0_0 x3_1).f6).length c199_6] rfl (by (try simp only [List.map_toArray, List.map_cons, List.map_nil]); first | done | rfl | (simp only [List.length_drop, List.length_take]; rfl)) ?_; (with_reducible refine (towncrierlaw08_Few.calls k1 _ _ ((rd_TStep l0_0 x3_1).f6) true _ ?side1 ?side2 A10.out).mono ?_); (case side1 => exact Kd.C_below HR199_6.out (by repeat (first | (with_reducible first | exact HB.out | apply below_alloc | apply pw_below_drewN | apply below_drew1 | refine below_set ?_ GE198.out | refine below_set ?_ GE200.out) | exact HB.out))); (case side2 => exact HC199_6.out); rintro e w' ⟨rfl, ⟨nd, rfl⟩⟩; refine ⟨_, rfl, ?_⟩))
                    go_roundg k1
                    case measure => have := HK1.out; omega
                    case rel => exact ⟨(wrap64 (x3_1 + 1)), (by first | rfl | (simp; done) | (simp [*]; done)), H', ⟨by have := HK1.out; omega⟩, ⟨by (with_reducible repeat (first | refine blk_drewN ?_ _ | refine blk_drew ?_ | refine blk_alloc ?_ _)); refine blk_far ?_ NB198_200.out _; (with_reducible repeat (first | refine blk_drewN ?_ _ | refine blk_drew ?_ | refine blk_alloc ?_ _)); refine blk_far ?_ NB198_200.out _; (with_reducible repeat (first | refine blk_drewN ?_ _ | refine blk_drew ?_ | refine blk_alloc ?_ _)); refine blk_far ?_ NB198_200.out _; (with_reducible repeat (first | refine blk_drewN ?_ _ | refine blk_drew ?_ | refine blk_alloc ?_ _)); refine blk_far ?_ NB198_200.out _; (with_reducible repeat (first | refine blk_drewN ?_ _ | refine blk_drew ?_ | refine blk_alloc ?_ _)); refine blk_far ?_ NB198_200.out _; (with_reducible repeat (first | refine blk_drewN ?_ _ | refine blk_drew ?_ | refine blk_alloc ?_ _)); refine blk_far ?_ NB198_200.out _; (with_reducible repeat (first | refine blk_drewN ?_ _ | refine blk_drew ?_ | refine blk_alloc ?_ _)); refine blk_far ?_ NB198_200.out _; (with_reducible repeat (first | refine blk_drewN ?_ _ | refine blk_drew ?_ | refine blk_alloc ?_ _)); exact BK198.out⟩, ⟨by repeat (first | (with_reducible first | exact HB.out | apply below_alloc | apply pw_below_drewN | apply below_drew1 | refine below_set ?_ GE198.out | refine below_set ?_ GE200.out) | exact HB.out)⟩⟩
              · replace c12 := Bool.eq_false_iff.mpr c12
                subst c12
                have H1 : (some false) = some r := by rw [if_neg (show ¬ (false = true) by decide)] at H; exact H
                clear H
                have H := H1
                clear H1
                obtain rfl := Option.some.inj H
                have hcz27_0 : wr.cell? ⟨gb198, 0, none⟩ = some (.slice A0_0 l0_0.length c0_0) := (blk_cell BK198.out 0).trans rfl
                have hcz27_1 : wr.cell? ⟨gb198, 1, none⟩ = some (.int .i64 a0_1) := (blk_cell BK198.out 1).trans rfl
                have hcz27_2 : wr.cell? ⟨gb198, 2, none⟩ = some (.int .i64 a0_2) := (blk_cell BK198.out 2).trans rfl
                have hcz27_3 : wr.cell? ⟨gb198, 3, none⟩ = some (.int .i64 a0_3) := (blk_cell BK198.out 3).trans rfl
                have hcz27_4 : wr.cell? ⟨gb198, 4, none⟩ = some (.int .i64 a0_4) := (blk_cell BK198.out 4).trans rfl
                have hfz27_0 := blk_frozen BK198.out 0
                have hfz27_1 := blk_frozen BK198.out 1
                have hfz27_2 := blk_frozen BK198.out 2
                have hfz27_3 := blk_frozen BK198.out 3
                have hfz27_4 := blk_frozen BK198.out 4
                have p199 : 0 ≤ (x3_1 : Int) := of_decide_eq_true (by first | (with_reducible assumption) | assumption)
                have q199 : x3_1 < (l0_0.length : Int) := of_decide_eq_true (by first | (with_reducible assumption) | assumption)
                obtain ⟨ad199, A199_1, c199_1, A199_6, c199_6, e199, hx199_0, hx199_1, hx199_2, hx199_3, hx199_4, hx199_5, hx199_6, hl199_1, hi199_1, hl199_6, hi199_6⟩ := at_TStep HR0_0.out x3_1 p199 q199
                cases e199
                replace hx199_0 := (HB.out.cell (World.block_lt_of_cell? w _ hx199_0)).trans hx199_0
                replace hx199_1 := (HB.out.cell (World.block_lt_of_cell? w _ hx199_1)).trans hx199_1
                replace hx199_2 := (HB.out.cell (World.block_lt_of_cell? w _ hx199_2)).trans hx199_2
                replace hx199_3 := (HB.out.cell (World.block_lt_of_cell? w _ hx199_3)).trans hx199_3
                replace hx199_4 := (HB.out.cell (World.block_lt_of_cell? w _ hx199_4)).trans hx199_4
                replace hx199_5 := (HB.out.cell (World.block_lt_of_cell? w _ hx199_5)).trans hx199_5
                replace hx199_6 := (HB.out.cell (World.block_lt_of_cell? w _ hx199_6)).trans hx199_6
                have HR199_1 := Aside0.mk hi199_1
                have HC199_1 := Aside0.mk hl199_1
                clear hi199_1 hl199_1
                have HR199_6 := Aside0.mk hi199_6
                have HC199_6 := Aside0.mk hl199_6
                clear hi199_6 hl199_6
                replace p199 := eq_true p199
                replace q199 := eq_true q199
                go_wp2_with (first | ((with_reducible refine gate_dst (N := 4) rfl ?_); (try (refine gate_guard (by rfl) ?_; dsimp only)); refine box_event ?hg (N := 4) ?hd (cs := #[.string (⟨#[]⟩ : ByteArray), .slice none 0 0, .int .i64 0, .int .i64 0, .bool false, .string (⟨#[]⟩ : ByteArray), .slice none 0 0]) (t := 40) ?hr ?_; (case hd => rfl); (case hg => rfl); (case hr => first | (go_simp; done) | (go_simp; rfl)); intro gb200 hg w28 hbox hb; have n0_ := Aside0.mk (blk_below (g := gb198) (o := .cells #[.slice (some ad199) l0_0.length c0_0, .int .i64 a0_1, .int .i64 a0_2, .int .i64 a0_3, .int .i64 a0_4] 24 (0, 0)) (by (with_reducible repeat (first | refine blk_drewN ?_ _ | refine blk_drew ?_ | refine blk_alloc ?_ _)); exact BK198.out) hb); have n1_ := Aside0.mk (below_step (by repeat (first | (with_reducible first | exact HB.out | apply below_alloc | apply pw_below_drewN | apply below_drew1 | refine below_set ?_ GE198.out) | exact HB.out)) hb); have n2_ := Aside0.mk (hbox); have n3_ := Aside0.mk ((by rw [hg]; exact (below_size (by repeat (first | (with_reducible first | exact HB.out | apply below_alloc | apply pw_below_drewN | apply below_drew1 | refine below_set ?_ GE198.out) | exact HB.out))) : w.heap.size ≤ gb200)); have n4_ := Aside0.mk ((by rw [hg]; exact (below_size (by repeat (first | (with_reducible first | exact HB.out | apply below_alloc | apply pw_below_drewN | apply below_drew1 | refine below_set ?_ GE198.out) | exact HB.out))) : w.heap.size ≤ gb200)); have n5_ := Aside0.mk ((by rw [hg]; exact Nat.ne_of_lt (blk_lt (g := gb198) (o := .cells #[.slice (some ad199) l0_0.length c0_0, .int .i64 a0_1, .int .i64 a0_2, .int .i64 a0_3, .int .i64 a0_4] 24 (0, 0)) (by (with_reducible repeat (first | refine blk_drewN ?_ _ | refine blk_drew ?_ | refine blk_alloc ?_ _)); exact BK198.out)) : gb198 ≠ gb200)); have n6_ := Aside0.mk ((by rw [hg]; exact Nat.ne_of_gt (blk_lt (g := gb198) (o := .cells #[.slice (some ad199) l0_0.length c0_0, .int .i64 a0_1, .int .i64 a0_2, .int .i64 a0_3, .int .i64 a0_4] 24 (0, 0)) (by (with_reducible repeat (first | refine blk_drewN ?_ _ | refine blk_drew ?_ | refine blk_alloc ?_ _)); exact BK198.out)) : gb200 ≠ gb198)); clear BK198; clear HB; have BK198 := n0_; have HB := n1_; have BK200 := n2_; have GW200 := n3_; have GE200 := n4_; have NB198_200 := n5_; have NB200_198 := n6_; clear n0_ n1_ n2_ n3_ n4_ n5_ n6_; clear hb hbox hg; have hnb29 := NB200_198.out; have hnc29 := NB198_200.out; have hcz30_0 : w28.cell? ⟨gb200, 0, none⟩ = some (.string (⟨#[]⟩ : ByteArray)) := (blk_cell BK200.out 0).trans rfl; have hcz30_1 : w28.cell? ⟨gb200, 1, none⟩ = some (.slice none 0 0) := (blk_cell BK200.out 1).trans rfl; have hcz30_2 : w28.cell? ⟨gb200, 2, none⟩ = some (.int .i64 0) := (blk_cell BK200.out 2).trans rfl; have hcz30_3 : w28.cell? ⟨gb200, 3, none⟩ = some (.int .i64 0) := (blk_cell BK200.out 3).trans rfl; have hcz30_4 : w28.cell? ⟨gb200, 4, none⟩ = some (.bool false) := (blk_cell BK200.out 4).trans rfl; have hcz30_5 : w28.cell? ⟨gb200, 5, none⟩ = some (.string (⟨#[]⟩ : ByteArray)) := (blk_cell BK200.out 5).trans rfl; have hcz30_6 : w28.cell? ⟨gb200, 6, none⟩ = some (.slice none 0 0) := (blk_cell BK200.out 6).trans rfl; have hfz30_0 := blk_frozen BK200.out 0; have hfz30_1 := blk_frozen BK200.out 1; have hfz30_2 := blk_frozen BK200.out 2; have hfz30_3 := blk_frozen BK200.out 3; have hfz30_4 := blk_frozen BK200.out 4; have hfz30_5 := blk_frozen BK200.out 5; have hfz30_6 := blk_frozen BK200.out 6) | ((with_reducible refine gate_callee (f := 20) rfl ?_); refine goesL_ (some 25) rfl rfl Try.func20 (by kernel_rfl) rfl #[.slice A199_1 ((rd_TStep l0_0 x3_1).f1).length c199_1] rfl (by (try simp only [List.map_toArray, List.map_cons, List.map_nil]); first | done | rfl | (simp only [List.length_drop, List.length_take]; rfl)) ?_; (with_reducible refine (towncrierlaw08_Few.calls k1 _ _ ((rd_TStep l0_0 x3_1).f1) true _ ?side1 ?side2 A9.out).mono ?_); (case side1 => exact Kd.C_below HR199_1.out (by repeat (first | (with_reducible first | exact HB.out | apply below_alloc | apply pw_below_drewN | apply below_drew1 | refine below_set ?_ GE198.out | refine below_set ?_ GE200.out) | exact HB.out))); (case side2 => exact HC199_1.out); rintro e w' ⟨rfl, ⟨nd, rfl⟩⟩; refine ⟨_, rfl, ?_⟩) | ((with_reducible refine gate_callee (f := 20) rfl ?_); refine goesL_ (some 28) rfl rfl Try.func20 (by kernel_rfl) rfl #[.slice A199_6 ((rd_TStep l0_0 x3_1).f6).length c199_6] rfl (by (try simp only [List.map_toArray, List.map_cons, List.map_nil]); first | done | rfl | (simp only [List.length_drop, List.length_take]; rfl)) ?_; (with_reducible refine (towncrierlaw08_Few.calls k1 _ _ ((rd_TStep l0_0 x3_1).f6) false _ ?side1 ?side2 A10.out).mono ?_); (case side1 => exact Kd.C_below HR199_6.out (by repeat (first | (with_reducible first | exact HB.out | apply below_alloc | apply pw_below_drewN | apply below_drew1 | refine below_set ?_ GE198.out | refine below_set ?_ GE200.out) | exact HB.out))); (case side2 => exact HC199_6.out); rintro e w' ⟨rfl, ⟨nd, rfl⟩⟩; refine ⟨_, rfl, ?_⟩))
                go_ret
                exact ⟨by first | rfl | (simp [errW_none, errW_some] <;> rfl) | (simp [*, errW_none, errW_some] <;> rfl), by repeat (first | (with_reducible first | exact HB.out | apply below_alloc | apply pw_below_drewN | apply below_drew1 | refine below_set ?_ GE198.out | refine below_set ?_ GE200.out) | exact HB.out)⟩
            · replace c11 := Bool.eq_false_iff.mpr c11
              subst c11
              have H1 : (some false) = some r := by rw [if_neg (show ¬ (false = true) by decide)] at H; exact H
              clear H
              have H := H1
              clear H1
              obtain rfl := Option.some.inj H
              have hcz31_0 : wr.cell? ⟨gb198, 0, none⟩ = some (.slice A0_0 l0_0.length c0_0) := (blk_cell BK198.out 0).trans rfl
              have hcz31_1 : wr.cell? ⟨gb198, 1, none⟩ = some (.int .i64 a0_1) := (blk_cell BK198.out 1).trans rfl
              have hcz31_2 : wr.cell? ⟨gb198, 2, none⟩ = some (.int .i64 a0_2) := (blk_cell BK198.out 2).trans rfl
              have hcz31_3 : wr.cell? ⟨gb198, 3, none⟩ = some (.int .i64 a0_3) := (blk_cell BK198.out 3).trans rfl
              have hcz31_4 : wr.cell? ⟨gb198, 4, none⟩ = some (.int .i64 a0_4) := (blk_cell BK198.out 4).trans rfl
              have hfz31_0 := blk_frozen BK198.out 0
              have hfz31_1 := blk_frozen BK198.out 1
              have hfz31_2 := blk_frozen BK198.out 2
              have hfz31_3 := blk_frozen BK198.out 3
              have hfz31_4 := blk_frozen BK198.out 4
              have p199 : 0 ≤ (x3_1 : Int) := of_decide_eq_true (by first | (with_reducible assumption) | assumption)
              have q199 : x3_1 < (l0_0.length : Int) := of_decide_eq_true (by first | (with_reducible assumption) | assumption)
              obtain ⟨ad199, A199_1, c199_1, A199_6, c199_6, e199, hx199_0, hx199_1, hx199_2, hx199_3, hx199_4, hx199_5, hx199_6, hl199_1, hi199_1, hl199_6, hi199_6⟩ := at_TStep HR0_0.out x3_1 p199 q199
              cases e199
              replace hx199_0 := (HB.out.cell (World.block_lt_of_cell? w _ hx199_0)).trans hx199_0
              replace hx199_1 := (HB.out.cell (World.block_lt_of_cell? w _ hx199_1)).trans hx199_1
              replace hx199_2 := (HB.out.cell (World.block_lt_of_cell? w _ hx199_2)).trans hx199_2
              replace hx199_3 := (HB.out.cell (World.block_lt_of_cell? w _ hx199_3)).trans hx199_3
              replace hx199_4 := (HB.out.cell (World.block_lt_of_cell? w _ hx199_4)).trans hx199_4
              replace hx199_5 := (HB.out.cell (World.block_lt_of_cell? w _ hx199_5)).trans hx199_5
              replace hx199_6 := (HB.out.cell (World.block_lt_of_cell? w _ hx199_6)).trans hx199_6
              have HR199_1 := Aside0.mk hi199_1
              have HC199_1 := Aside0.mk hl199_1
              clear hi199_1 hl199_1
              have HR199_6 := Aside0.mk hi199_6
              have HC199_6 := Aside0.mk hl199_6
              clear hi199_6 hl199_6
              replace p199 := eq_true p199
              replace q199 := eq_true q199
              go_wp2_with (first | ((with_reducible refine gate_dst (N := 4) rfl ?_); (try (refine gate_guard (by rfl) ?_; dsimp only)); refine box_event ?hg (N := 4) ?hd (cs := #[.string (⟨#[]⟩ : ByteArray), .slice none 0 0, .int .i64 0, .int .i64 0, .bool false, .string (⟨#[]⟩ : ByteArray), .slice none 0 0]) (t := 40) ?hr ?_; (case hd => rfl); (case hg => rfl); (case hr => first | (go_simp; done) | (go_simp; rfl)); intro gb200 hg w32 hbox hb; have n0_ := Aside0.mk (blk_below (g := gb198) (o := .cells #[.slice (some ad199) l0_0.length c0_0, .int .i64 a0_1, .int .i64 a0_2, .int .i64 a0_3, .int .i64 a0_4] 24 (0, 0)) (by (with_reducible repeat (first | refine blk_drewN ?_ _ | refine blk_drew ?_ | refine blk_alloc ?_ _)); exact BK198.out) hb); have n1_ := Aside0.mk (below_step (by repeat (first | (with_reducible first | exact HB.out | apply below_alloc | apply pw_below_drewN | apply below_drew1 | refine below_set ?_ GE198.out) | exact HB.out)) hb); have n2_ := Aside0.mk (hbox); have n3_ := Aside0.mk ((by rw [hg]; exact (below_size (by repeat (first | (with_reducible first | exact HB.out | apply below_alloc | apply pw_below_drewN | apply below_drew1 | refine below_set ?_ GE198.out) | exact HB.out))) : w.heap.size ≤ gb200)); have n4_ := Aside0.mk ((by rw [hg]; exact (below_size (by repeat (first | (with_reducible first | exact HB.out | apply below_alloc | apply pw_below_drewN | apply below_drew1 | refine below_set ?_ GE198.out) | exact HB.out))) : w.heap.size ≤ gb200)); have n5_ := Aside0.mk ((by rw [hg]; exact Nat.ne_of_lt (blk_lt (g := gb198) (o := .cells #[.slice (some ad199) l0_0.length c0_0, .int .i64 a0_1, .int .i64 a0_2, .int .i64 a0_3, .int .i64 a0_4] 24 (0, 0)) (by (with_reducible repeat (first | refine blk_drewN ?_ _ | refine blk_drew ?_ | refine blk_alloc ?_ _)); exact BK198.out)) : gb198 ≠ gb200)); have n6_ := Aside0.mk ((by rw [hg]; exact Nat.ne_of_gt (blk_lt (g := gb198) (o := .cells #[.slice (some ad199) l0_0.length c0_0, .int .i64 a0_1, .int .i64 a0_2, .int .i64 a0_3, .int .i64 a0_4] 24 (0, 0)) (by (with_reducible repeat (first | refine blk_drewN ?_ _ | refine blk_drew ?_ | refine blk_alloc ?_ _)); exact BK198.out)) : gb200 ≠ gb198)); clear BK198; clear HB; have BK198 := n0_; have HB := n1_; have BK200 := n2_; have GW200 := n3_; have GE200 := n4_; have NB198_200 := n5_; have NB200_198 := n6_; clear n0_ n1_ n2_ n3_ n4_ n5_ n6_; clear hb hbox hg; have hnb33 := NB200_198.out; have hnc33 := NB198_200.out; have hcz34_0 : w32.cell? ⟨gb200, 0, none⟩ = some (.string (⟨#[]⟩ : ByteArray)) := (blk_cell BK200.out 0).trans rfl; have hcz34_1 : w32.cell? ⟨gb200, 1, none⟩ = some (.slice none 0 0) := (blk_cell BK200.out 1).trans rfl; have hcz34_2 : w32.cell? ⟨gb200, 2, none⟩ = some (.int .i64 0) := (blk_cell BK200.out 2).trans rfl; have hcz34_3 : w32.cell? ⟨gb200, 3, none⟩ = some (.int .i64 0) := (blk_cell BK200.out 3).trans rfl; have hcz34_4 : w32.cell? ⟨gb200, 4, none⟩ = some (.bool false) := (blk_cell BK200.out 4).trans rfl; have hcz34_5 : w32.cell? ⟨gb200, 5, none⟩ = some (.string (⟨#[]⟩ : ByteArray)) := (blk_cell BK200.out 5).trans rfl; have hcz34_6 : w32.cell? ⟨gb200, 6, none⟩ = some (.slice none 0 0) := (blk_cell BK200.out 6).trans rfl; have hfz34_0 := blk_frozen BK200.out 0; have hfz34_1 := blk_frozen BK200.out 1; have hfz34_2 := blk_frozen BK200.out 2; have hfz34_3 := blk_frozen BK200.out 3; have hfz34_4 := blk_frozen BK200.out 4; have hfz34_5 := blk_frozen BK200.out 5; have hfz34_6 := blk_frozen BK200.out 6) | ((with_reducible refine gate_callee (f := 20) rfl ?_); refine goesL_ (some 25) rfl rfl Try.func20 (by kernel_rfl) rfl #[.slice A199_1 ((rd_TStep l0_0 x3_1).f1).length c199_1] rfl (by (try simp only [List.map_toArray, List.map_cons, List.map_nil]); first | done | rfl | (simp only [List.length_drop, List.length_take]; rfl)) ?_; (with_reducible refine (towncrierlaw08_Few.calls k1 _ _ ((rd_TStep l0_0 x3_1).f1) false _ ?side1 ?side2 A9.out).mono ?_); (case side1 => exact Kd.C_below HR199_1.out (by repeat (first | (with_reducible first | exact HB.out | apply below_alloc | apply pw_below_drewN | apply below_drew1 | refine below_set ?_ GE198.out | refine below_set ?_ GE200.out) | exact HB.out))); (case side2 => exact HC199_1.out); rintro e w' ⟨rfl, ⟨nd, rfl⟩⟩; refine ⟨_, rfl, ?_⟩) | ((with_reducible refine gate_callee (f := 20) rfl ?_); refine goesL_ (some 28) rfl rfl Try.func20 (by kernel_rfl) rfl #[.slice A199_6 ((rd_TStep l0_0 x3_1).f6).length c199_6] rfl (by (try simp only [List.map_toArray, List.map_cons, List.map_nil]); first | done | rfl | (simp only [List.length_drop, List.length_take]; rfl)) ?_; (with_reducible refine (towncrierlaw08_Few.calls k1 _ _ ((rd_TStep l0_0 x3_1).f6) t202 _ ?side1 ?side2 A10.out).mono ?_); (case side1 => exact Kd.C_below HR199_6.out (by repeat (first | (with_reducible first | exact HB.out | apply below_alloc | apply pw_below_drewN | apply below_drew1 | refine below_set ?_ GE198.out | refine below_set ?_ GE200.out) | exact HB.out))); (case side2 => exact HC199_6.out); rintro e w' ⟨rfl, ⟨nd, rfl⟩⟩; refine ⟨_, rfl, ?_⟩))
              go_ret
              exact ⟨by first | rfl | (simp [errW_none, errW_some] <;> rfl) | (simp [*, errW_none, errW_some] <;> rfl), by repeat (first | (with_reducible first | exact HB.out | apply below_alloc | apply pw_below_drewN | apply below_drew1 | refine below_set ?_ GE198.out | refine below_set ?_ GE200.out) | exact HB.out)⟩
          · rw [if_neg c8] at H
            exact absurd H (by simp)
        · rw [if_neg c7] at H
          have c7b0 : decide (x3_1 < (l0_0.length : Int)) = false := decide_eq_false c7
          clear c7
          obtain rfl := Option.some.inj H
          have hcz35_0 : wr.cell? ⟨gb198, 0, none⟩ = some (.slice A0_0 l0_0.length c0_0) := (blk_cell BK198.out 0).trans rfl
          have hcz35_1 : wr.cell? ⟨gb198, 1, none⟩ = some (.int .i64 a0_1) := (blk_cell BK198.out 1).trans rfl
          have hcz35_2 : wr.cell? ⟨gb198, 2, none⟩ = some (.int .i64 a0_2) := (blk_cell BK198.out 2).trans rfl
          have hcz35_3 : wr.cell? ⟨gb198, 3, none⟩ = some (.int .i64 a0_3) := (blk_cell BK198.out 3).trans rfl
          have hcz35_4 : wr.cell? ⟨gb198, 4, none⟩ = some (.int .i64 a0_4) := (blk_cell BK198.out 4).trans rfl
          have hfz35_0 := blk_frozen BK198.out 0
          have hfz35_1 := blk_frozen BK198.out 1
          have hfz35_2 := blk_frozen BK198.out 2
          have hfz35_3 := blk_frozen BK198.out 3
          have hfz35_4 := blk_frozen BK198.out 4
          go_wp2
          go_ret
          exact ⟨by first | rfl | (simp [errW_none, errW_some] <;> rfl) | (simp [*, errW_none, errW_some] <;> rfl), by repeat (first | (with_reducible first | exact HB.out | apply below_alloc | apply pw_below_drewN | apply below_drew1 | refine below_set ?_ GE198.out) | exact HB.out)⟩
end Go.Proofs.Ytooemobolfoefaa.P

namespace Go.Proofs.Ytooemobolfoefaa.P
open Go.RowKit Go.Proofs.YtooemobolfoefaaW.PrintWords Go.Proofs.YtooemobolfoefaaW.PrintLast Go.Proofs.YtooemobolfoefaaW.PrintMore
set_option linter.unusedVariables false
set_option linter.unusedSimpArgs false
theorem kQuery_cells {w : World} {x : SQuery} {cs : List Value} (h : kQuery.K w x cs) : ∃ A c, cs = [.slice A x.f0.length c, .int .i64 x.f1, .int .i64 x.f2, .int .i64 x.f3, .int .i64 x.f4] ∧ x.f0.length ≤ c ∧ kStep.C w A x.f0.length x.f0 := by
  obtain ⟨A, c, rfl, h1, h2⟩ := kQuery_open h
  exact ⟨A, c, rfl, h1, h2⟩
theorem wfQ_ok {x : SQuery} (h : wfQuery x) : okQ x ∧ x.f0.length < 4611686018427387904 := by
  obtain ⟨⟨h1, h2⟩, _⟩ := h
  refine ⟨fun y hy => ?_, by omega⟩
  obtain ⟨_, ⟨_, h3⟩, _, _, _, _, ⟨_, h4⟩⟩ := h2 y hy
  exact ⟨i64B_iff.2 fun z hz => i64V_of (h3 z hz).2.2, i64B_iff.2 fun z hz => i64V_of (h4 z hz).2.2⟩
theorem few8_any (l : List SOp) {k : Nat} (hk : 20 < k) : ∃ b, towncrierlaw08_Few.f k l = some b := by
  unfold towncrierlaw08_Few.f
  by_cases h : (l.length : Int) > 20
  · rw [if_pos h]; exact ⟨false, rfl⟩
  · rw [if_neg h]
    exact few8_loop l (by omega) l.length 0 k (by omega) (by omega)
theorem few9_loop (l : List SStep) (hl : l.length ≤ 8) (a b c d : Int) : ∀ (n i k : Nat), i + n = l.length → n + 22 < k → ∃ r, towncrierlaw09_Few.l0 k i l a b c d = some r := by
  intro n
  induction n with
  | zero =>
    intro i k hi hk
    obtain ⟨k, rfl⟩ := rounds_of hk
    simp only [towncrierlaw09_Few.l0]
    rw [if_neg (by omega)]
    exact ⟨_, rfl⟩
  | succ n ih =>
    intro i k hi hk
    obtain ⟨k, rfl⟩ := rounds_of hk
    simp only [towncrierlaw09_Few.l0]
    rw [if_pos (by omega), if_pos (by omega), wrap_succ (by omega)]
    obtain ⟨x, hx⟩ := few8_any (rd_TStep l (i : Int)).f1 (k := k) (by omega)
    obtain ⟨y, hy⟩ := few8_any (rd_TStep l (i : Int)).f6 (k := k) (by omega)
    obtain ⟨z, hz⟩ := ih (i + 1) k (by omega) (by omega)
    rw [hx, hy, Option.bind_some, Option.bind_some, hz]
    repeat' split
    all_goals exact ⟨_, rfl⟩
theorem few9_told (q : SQuery) : ∃ b, (b = true → q.f0.length ≤ 8) ∧ ∀ (A : Option Addr) (c : Nat) (w : World), Kd.C kStep w A q.f0.length q.f0 → q.f0.length ≤ c → Calls Try.prog 10 #[.agg #[.slice A q.f0.length c, .int .i64 q.f1, .int .i64 q.f2, .int .i64 q.f3, .int .i64 q.f4]] w (boolPost b w) := by
  have key : ∃ b, towncrierlaw09_Few.f 40 q.f0 q.f1 q.f2 q.f3 q.f4 = some b ∧ (b = true → q.f0.length ≤ 8) := by
    unfold towncrierlaw09_Few.f
    by_cases h : (q.f0.length : Int) > 8
    · rw [if_pos h]; exact ⟨false, rfl, fun h => by cases h⟩
    · rw [if_neg h]
      obtain ⟨b, hb⟩ := few9_loop q.f0 (by omega) q.f1 q.f2 q.f3 q.f4 q.f0.length 0 40 (by omega) (by omega)
      exact ⟨b, hb, fun _ => by omega⟩
  obtain ⟨b, h1, h2⟩ := key
  exact ⟨b, h2, fun A c w hr hc => (towncrierlaw09_Few.calls 40 A c q.f0 q.f1 q.f2 q.f3 q.f4 b w hr hc h1).mono fun e w' h => by first | exact h | exact ⟨h.1, h.2.below⟩⟩
theorem C_lone {α : Type} {d : Kd α} {W : World} {B T : Nat} {x : α} {cs : List Value} (h : W.heap[B]? = some (.cells cs.toArray T (0, 0))) (hk : d.K W x cs) (hl : cs.length = d.sz) : Kd.C d W (some ⟨B, 0, none⟩) 1 [x] := by
  refine ⟨rfl, by decide, fun _ => ⟨_, rfl, fun j l hj => ?_⟩⟩
  match j with
  | j + 1 => simp at hj
  | 0 =>
    simp at hj
    subst hj
    refine ⟨cs, hl, hk, fun i u hu => ?_⟩
    rw [Nat.zero_mul, add_plain, blk_cell h]
    simpa using hu
def oneS : SStep := ⟨⟨#[97]⟩, [], 1, 1, false, ⟨#[]⟩, []⟩
def oneQ : SQuery := ⟨[oneS], 0, 0, 0, 0⟩
def oneL : List Int := [1, 1, 97, 0, 1, 1, 0, 0, 0, 0, 0]
def exS9 : SSchema := ⟨⟨#[97]⟩, 1, []⟩
theorem oneQ_may : mayQ oneQ = true := by decide +kernel
theorem oneQ_ok : okQ oneQ := fun x hx => by rw [List.mem_singleton.1 hx]; exact ⟨rfl, rfl⟩
theorem oneQ_bytes : bytesQ oneQ = oneL := by decide +kernel
theorem oneQ_get : gotQ (getQ oneL) = (oneQ, 11, true) := by
  have h := getQ_put [] oneQ_may oneQ_ok
  rw [List.append_nil, oneQ_bytes] at h
  rw [h]
  rfl
theorem oneQ_check : query_Check.f 12 [exS9] [oneS] 0 0 0 0 = some 0 := by decide +kernel
theorem oneQ_none : query_Check.f 12 [] [oneS] 0 0 0 0 = some 3 := by decide +kernel
theorem one_told (w : World) : Calls Try.prog 19 #[] w fun e w' => ∃ v, e = .returned (.agg #[v, .int .i64 0, .int .i64 0, .int .i64 0, .int .i64 0]) ∧ Kd.R kStep 40 w' w.heap.size (fun _ => True) v [oneS] ∧ Below w.heap.size w w' :=
  (towncrierlaw09_One.calls [oneS] 0 0 0 0 w rfl).mono fun e w' ⟨v, h1, h2, h3⟩ => ⟨v, h1, Kd.S_R h2, h3⟩
theorem get9_told (w : World) (A : Option Addr) (c : Nat) (hr : Kd.C (Kd.int .u8) w A 11 oneL) (hc : 11 ≤ c) : Calls Try.prog 12 #[.slice A 11 c] w fun e w' => ∃ A3 c3, e = .returned (.tuple #[.agg #[.slice A3 1 c3, .int .i64 0, .int .i64 0, .int .i64 0, .int .i64 0], .int .i64 11, .bool true]) ∧ 1 ≤ c3 ∧ Kd.C kStep w' A3 1 [oneS] ∧ Below w.heap.size w w' := by
  refine (getQ_told w A c oneL hr hc (by decide) (by decide) oneQ_get).mono ?_
  rintro e w' ⟨v, rfl, ho, _, hb⟩
  obtain ⟨A3, c3, rfl, h1, h2⟩ := Kd.R_reads ho
  exact ⟨A3, c3, rfl, h1, h2, hb⟩
theorem put9_told (w : World) (A : Option Addr) (c : Nat) (hr : Kd.C kStep w A 1 [oneS]) (hc : 1 ≤ c) : Calls Try.prog 11 #[.agg #[.slice A 1 c, .int .i64 0, .int .i64 0, .int .i64 0, .int .i64 0]] w fun e w' => ∃ A3 c3, e = .returned (.tuple #[.slice A3 11 c3, .bool true]) ∧ 11 ≤ c3 ∧ Kd.C (Kd.int .u8) w' A3 11 oneL ∧ Below w.heap.size w w' := by
  refine (putQ_told oneQ A c w hr hc oneQ_ok (by decide) oneQ_may ((if_pos rfl).trans oneQ_bytes)).mono ?_
  rintro e w' ⟨v, rfl, ho, hb⟩
  obtain ⟨A3, c3, rfl, h1, h2⟩ := Own8.reads ho
  exact ⟨A3, c3, rfl, h1, h2, hb⟩
theorem one9_told (w : World) : Calls Try.prog 19 #[] w fun e w' => ∃ A3 c3, e = .returned (.agg #[.slice A3 1 c3, .int .i64 0, .int .i64 0, .int .i64 0, .int .i64 0]) ∧ 1 ≤ c3 ∧ Kd.C kStep w' A3 1 [oneS] ∧ Below w.heap.size w w' := by
  refine (one_told w).mono ?_
  rintro e w' ⟨v, rfl, ho, hb⟩
  obtain ⟨A3, c3, rfl, h1, h2⟩ := Kd.R_reads ho
  exact ⟨A3, c3, rfl, h1, h2, hb⟩
theorem same9_told (w : World) (A B : Option Addr) (c d : Nat) (hr : Kd.C kStep w A 1 [oneS]) (hc : 1 ≤ c) (hs : Kd.C kStep w B 1 [oneS]) (hd : 1 ≤ d) : Calls Try.prog 13 #[.agg #[.slice A 1 c, .int .i64 0, .int .i64 0, .int .i64 0, .int .i64 0], .agg #[.slice B 1 d, .int .i64 0, .int .i64 0, .int .i64 0, .int .i64 0]] w (boolPost true w) := sameQ_told oneQ oneQ A c B d w hr hc hs hd (eqQ_refl _)
theorem check9_told (w : World) (A B : Option Addr) (c d : Nat) (hr : Kd.C kSchema w A 1 [exS9]) (hc : 1 ≤ c) (hs : Kd.C kStep w B 1 [oneS]) (hd : 1 ≤ d) : Calls Try.prog 15 #[.slice A 1 c, .agg #[.slice B 1 d, .int .i64 0, .int .i64 0, .int .i64 0, .int .i64 0]] w fun e w' => e = .returned (.int .i64 0) ∧ Below w.heap.size w w' := query_Check.calls 12 A c [exS9] B d [oneS] 0 0 0 0 0 w hr hc hs hd oneQ_check
theorem check90_told (w : World) (B : Option Addr) (d : Nat) (hs : Kd.C kStep w B 1 [oneS]) (hd : 1 ≤ d) : Calls Try.prog 15 #[.slice none 0 0, .agg #[.slice B 1 d, .int .i64 0, .int .i64 0, .int .i64 0, .int .i64 0]] w fun e w' => e = .returned (.int .i64 3) ∧ Below w.heap.size w w' := query_Check.calls 12 none 0 [] B d [oneS] 0 0 0 0 3 w (Kd.C_nil _ _) (Nat.le_refl _) hs hd oneQ_none
end Go.Proofs.Ytooemobolfoefaa.P

namespace Go.Proofs.Ytooemobolfoefaa.P
open Go.RowKit Go.Proofs.YtooemobolfoefaaW.PrintWords Go.Proofs.YtooemobolfoefaaW.PrintLast Go.Proofs.YtooemobolfoefaaW.PrintMore
set_option linter.unusedVariables false
set_option linter.unusedSimpArgs false
set_option maxHeartbeats 8000000 in
set_option maxRecDepth 100000 in
theorem awake9_told (w : World) : Calls Try.prog 9 #[] w (boolPost true w) := by
  go_enter Try.func9, Try.ntmps9
  go_wp2_with fail
  go_at_call 19
  refine (one9_told _).mono ?_
  rintro e w1 ⟨A1, c1, rfl, hc1, hr1, hb1⟩
  have HR1 := Aside0.mk hr1
  have HC1 := Aside0.mk hc1
  have HBY := Aside0.mk hb1
  clear hr1 hc1 hb1
  go_wp2_with fail
  go_at_call 11
  refine (put9_told _ A1 c1 HR1.out HC1.out).mono ?_
  rintro e w2 ⟨A2, c2, rfl, hc2, hr2, hb2⟩
  have HR2 := Aside0.mk hr2
  have HC2 := Aside0.mk hc2
  have HBY := Aside0.mk (below_step HBY.out hb2)
  clear hr2 hc2 hb2
  go_wp2_with fail
  go_at_call 12
  refine (get9_told _ A2 c2 HR2.out HC2.out).mono ?_
  rintro e w3 ⟨A3, c3, rfl, hc3, hr3, hb3⟩
  have HC3 := Aside0.mk hc3
  obtain ⟨B, hB⟩ : ∃ B, w3.heap.size = B := ⟨_, rfl⟩
  have HQ : Aside0 (((w3.alloc (.cells #[.slice A3 1 c3, .int .i64 0, .int .i64 0, .int .i64 0, .int .i64 0] 24)).alloc (.cells #[.string ⟨#[97]⟩, .int .i64 1, .slice none 0 0] 43)).heap[B]? = some (.cells #[.slice A3 1 c3, .int .i64 0, .int .i64 0, .int .i64 0, .int .i64 0] 24 (0, 0))) := ⟨by rw [← hB]; exact blk_alloc (blk_new w3 _) _⟩
  have HL := Aside0.mk (show Kd.C kSchema ((w3.alloc (.cells #[.slice A3 1 c3, .int .i64 0, .int .i64 0, .int .i64 0, .int .i64 0] 24)).alloc (.cells #[.string ⟨#[97]⟩, .int .i64 1, .slice none 0 0] 43)) (some ⟨w3.heap.size + 1, 0, none⟩) 1 [exS9] from C_lone (T := 43) (cs := [.string ⟨#[97]⟩, .int .i64 1, .slice none 0 0]) (blk_new2 w3 _ _) (kSchema_mk _ exS9 (A2 := none) (c2 := 0) (Nat.le_refl _) (Kd.C_nil _ _)) rfl)
  have HBW := Aside0.mk (below_alloc (below_alloc (Below.refl w3.heap.size w3) (.cells #[.slice A3 1 c3, .int .i64 0, .int .i64 0, .int .i64 0, .int .i64 0] 24)) (.cells #[.string ⟨#[97]⟩, .int .i64 1, .slice none 0 0] 43))
  have HBY := Aside0.mk (below_step (below_step HBY.out hb3) HBW.out)
  have HR2W := Aside0.mk (Kd.C_below (Kd.C_below HR2.out hb3) HBW.out)
  have HR3W := Aside0.mk (Kd.C_below hr3 HBW.out)
  clear hr3 hc3 hb3
  go_upto_region 4 with fail
  simp only [hB] at HL ⊢
  generalize (w3.alloc (.cells #[.slice A3 1 c3, .int .i64 0, .int .i64 0, .int .i64 0, .int .i64 0] 24)).alloc (.cells #[.string ⟨#[97]⟩, .int .i64 1, .slice none 0 0] 43) = W3 at HQ HL HBY HR2W HR3W HBW ⊢
  have HCV : Aside0 (∀ W, Below W3.heap.size W3 W → (Go.convert 25 9 (.slice A2 11 c2)).run Try.prog W = .ok (.string (⟨#[1, 1, 97, 0, 1, 1, 0, 0, 0, 0, 0]⟩ : ByteArray)) W) := ⟨fun W h => by
    have z := Kd.C_string (P := Try.prog) (c := c2) Try.underlying25 Try.underlying5 Try.underlying9 (Kd.C_below HR2W.out h)
    rw [show strOfNums oneL = (⟨#[1, 1, 97, 0, 1, 1, 0, 0, 0, 0, 0]⟩ : ByteArray) from toList_inj (by decide +kernel)] at z
    exact z⟩
  have he0 := blk_cell (blk_drew HQ.out) 0
  have he1 := blk_cell (blk_drew HQ.out) 1
  have he2 := blk_cell (blk_drew HQ.out) 2
  have he3 := blk_cell (blk_drew HQ.out) 3
  have he4 := blk_cell (blk_drew HQ.out) 4
  have HBD := Aside0.mk (below_drew (Below.refl W3.heap.size W3))
  have hcv := HCV.out _ HBD.out
  have HBYS := HBY
  clear hB HBW HBY HR1 HR2 HC1 HC2
  go_region_held3 (fun w' => w'.cell? ⟨B, 0, none⟩ = some (.slice A3 1 c3) ∧ w'.cell? ⟨B, 1, none⟩ = some (.int .i64 0) ∧ w'.cell? ⟨B, 2, none⟩ = some (.int .i64 0) ∧ w'.cell? ⟨B, 3, none⟩ = some (.int .i64 0) ∧ w'.cell? ⟨B, 4, none⟩ = some (.int .i64 0) ∧ (Go.convert 25 9 (.slice A2 11 c2)).run Try.prog w' = .ok (.string (⟨#[1, 1, 97, 0, 1, 1, 0, 0, 0, 0, 0]⟩ : ByteArray)) w')
    (first | go_keep | (go_split_ands; refine ⟨blk_cell (blk_below HQ.out HBD.out) 0, blk_cell (blk_below HQ.out HBD.out) 1, blk_cell (blk_below HQ.out HBD.out) 2, blk_cell (blk_below HQ.out HBD.out) 3, blk_cell (blk_below HQ.out HBD.out) 4, ?_⟩; exact HCV.out _ HBD.out))
    (first
      | (go_at_call 19; refine (one9_told _).mono ?_; rintro e w6 ⟨A6, c6, rfl, hc6, hr6, hb6⟩; have HR6 := Aside0.mk hr6; have HC6 := Aside0.mk hc6; have HBD := Aside0.mk (below_step HBD.out hb6); clear hr6 hc6)
      | (go_at_call 13; refine (same9_told _ A3 A6 c3 c6 (Kd.C_below HR3W.out HBD.out) HC3.out HR6.out HC6.out).mono ?_; rintro e w7 ⟨rfl, hb7⟩; have HBD := Aside0.mk (below_step HBD.out hb7))
      | (go_at_call_of 15 (Value.slice none 0 0); refine (check90_told _ A3 c3 (Kd.C_below HR3W.out HBD.out) HC3.out).mono ?_; rintro e w9 ⟨rfl, hb9⟩; have HBD := Aside0.mk (below_step HBD.out hb9))
      | (go_at_call 15; refine (check9_told _ (some ⟨B + 1, 0, none⟩) A3 1 c3 (Kd.C_below HL.out HBD.out) (Nat.le_refl _) (Kd.C_below HR3W.out HBD.out) HC3.out).mono ?_; rintro e w8 ⟨rfl, hb8⟩; have HBD := Aside0.mk (below_step HBD.out hb8)))
  all_goals
    go_wp2_with fail
    go_ret
    exact ⟨rfl, below_step HBYS.out HBD.out⟩
end Go.Proofs.Ytooemobolfoefaa.P

namespace Go.Proofs.Ytooemobolfoefaa.P
open Go.RowKit Go.Proofs.YtooemobolfoefaaW.PrintWords Go.Proofs.YtooemobolfoefaaW.PrintLast Go.Proofs.YtooemobolfoefaaW.PrintMore
attribute [local go_sem] max2_int min2_int max_two min_two max_three min_three max_four min_four   -- for this text's walks alone
set_option linter.unusedVariables false
set_option linter.unusedSimpArgs false
theorem openArg0_QueryMade : Opens Try.prog 24 kQuery wfQuery := openQuery
def QueryMade.Stmt : Prop := ∀ (W : World) (x0 : SQuery) (cs0 : List Value) (K0 : kQuery.K W x0 cs0) (w0 : wfQuery x0),
    Calls Try.prog 7 #[.agg cs0.toArray] W fun e w' => e = .returned (.bool true) ∧ Below W.heap.size W w'
end Go.Proofs.Ytooemobolfoefaa.P

namespace Go.Proofs.Ytooemobolfoefaa.P
open Go.RowKit Go.Proofs.YtooemobolfoefaaW.PrintWords Go.Proofs.YtooemobolfoefaaW.PrintLast Go.Proofs.YtooemobolfoefaaW.PrintMore
set_option linter.unusedVariables false
set_option linter.unusedSimpArgs false
set_option maxHeartbeats 40000000 in
set_option maxRecDepth 100000 in
theorem QueryMade.walk : QueryMade.Stmt := by
  intro W x0 cs0 K0 w0
  obtain ⟨A0, c0, rfl, hc0, hr0⟩ := kQuery_cells K0
  have HR0 := Aside0.mk hr0
  have HC0 := Aside0.mk hc0
  have HOK0 := Aside0.mk (wfQ_ok w0).1
  have HLN0 := Aside0.mk (wfQ_ok w0).2
  obtain ⟨p, hp8, hpC⟩ := few9_told x0
  have HPC := Aside0.mk hpC
  have HSZ := Aside0.mk (wfQ_sizes w0)
  clear hr0 hc0 w0 hpC hp8 K0
  obtain ⟨m, hm⟩ : ∃ m, mayQ x0 = m := ⟨_, rfl⟩
  have HM := Aside0.mk hm
  obtain ⟨P, hP⟩ : ∃ P, (if m then bytesQ x0 else []) = P := ⟨_, rfl⟩
  have HPP := Aside0.mk hP
  clear hm hP
  by_cases hgo : p = true ∧ m = true
  · obtain ⟨rfl, rfl⟩ := hgo
    obtain ⟨hst, g1, g2, g3, g4, g5, g6, _, g7, g8, _⟩ := mayQ_iff.1 HM.out
    have HST := Aside0.mk hst
    have hd1 : decide ((x0.f0.length : Int) ≥ 1) = true := decide_eq_true (by omega)
    have hd1b : decide ((1 : Int) ≤ (x0.f0.length : Int)) = true := decide_eq_true (by omega)
    have hd4 : decide ((x0.f0.length : Int) ≤ 4) = true := decide_eq_true (by omega)
    have hdl : decide (x0.f3 < (x0.f0.length : Int)) = true := decide_eq_true (by omega)
    have hge1 : (x0.f0.length : Int) ≥ 1 := by omega
    have hle4 : (x0.f0.length : Int) ≤ 4 := by omega
    have hw1 : IntKind.i64.wrap ((x0.f0.length : Int) - 1) = ((x0.f0.length - 1 : Nat) : Int) := by rw [IntWalk.i64_in _ (by omega)]; omega
    have hin0 : (0 : Int) < (x0.f0.length : Int) := by omega
    have hinl : ((x0.f0.length - 1 : Nat) : Int) < (x0.f0.length : Int) := by omega
    have G := Aside0.mk (And.intro g7 g8)
    clear hst g1 g2 g3 g4 g5 g6 g7 g8
    go_enter Try.func7, Try.ntmps7
    go_wp2_with fail
    go_at_call 9
    refine (awake9_told _).mono ?_
    rintro e w1_ ⟨rfl, hb1_⟩
    have HB1_ := Aside0.mk (below_step (below_alloc (Below.refl _ _) _) hb1_)
    have HKx01_ := Aside0.mk (blk_below (blk_new _ _) hb1_)
    obtain ⟨kx01a_, kx01b_, kx01c_, kx01d_⟩ := know HKx01_.out
    clear hb1_
    go_wp2_with fail
    go_at_call_of 10 (Value.agg #[.slice A0 x0.f0.length c0, .int .i64 x0.f1, .int .i64 x0.f2, .int .i64 x0.f3, .int .i64 x0.f4])
    refine (HPC.out A0 c0 _ (Kd.C_below HR0.out (HB1_.out)) HC0.out).mono ?_
    rintro e w2_ ⟨rfl, hb2_⟩
    have HB2_ := Aside0.mk (below_step (HB1_.out) hb2_)
    have HKx02_ := Aside0.mk (blk_below (HKx01_.out) hb2_)
    obtain ⟨kx02a_, kx02b_, kx02c_, kx02d_⟩ := know HKx02_.out
    clear kx01a_ kx01b_ kx01c_ kx01d_
    clear hb2_
    go_wp2_with fail
    go_at_call_of 11 (Value.agg #[.slice A0 x0.f0.length c0, .int .i64 x0.f1, .int .i64 x0.f2, .int .i64 x0.f3, .int .i64 x0.f4])
    refine (putQ_told x0 A0 c0 _ (Kd.C_below HR0.out (HB2_.out)) HC0.out HOK0.out HLN0.out HM.out HPP.out).mono ?_
    rintro e w3_ ⟨v3_, rfl, ho3_, hb3_⟩
    have HB3_ := Aside0.mk (below_step (HB2_.out) hb3_)
    have HKx03_ := Aside0.mk (blk_below (HKx02_.out) hb3_)
    obtain ⟨kx03a_, kx03b_, kx03c_, kx03d_⟩ := know HKx03_.out
    clear kx02a_ kx02b_ kx02c_ kx02d_
    clear hb3_
    obtain ⟨A3_, c3_, hv3_, hq3_, hp3_⟩ := Own8.reads ho3_
    subst hv3_
    have HP3_ := Aside0.mk hp3_
    have HQ3_ := Aside0.mk hq3_
    clear ho3_ hp3_ hq3_
    go_wp2_with fail
    go_at_call_of 16 (Value.agg #[.slice A0 x0.f0.length c0, .int .i64 x0.f1, .int .i64 x0.f2, .int .i64 x0.f3, .int .i64 x0.f4])
    refine (refMayQ_told x0 A0 c0 _ (Kd.C_below HR0.out (HB3_.out)) HC0.out HSZ.out HM.out).mono ?_
    rintro e w4_ ⟨rfl, hb4_⟩
    have HB4_ := Aside0.mk (below_step (HB3_.out) hb4_)
    have HKx04_ := Aside0.mk (blk_below (HKx03_.out) hb4_)
    obtain ⟨kx04a_, kx04b_, kx04c_, kx04d_⟩ := know HKx04_.out
    clear kx03a_ kx03b_ kx03c_ kx03d_
    clear hb4_
    go_wp2_with fail
    go_loopw [9] (fun v9 w' => ∃ k : Nat, v9 = .int .i64 k ∧ k ≤ x0.f0.length ∧ Below W.heap.size W w' ∧ w'.heap[W.heap.size]? = some (.cells #[.slice A0 x0.f0.length c0, .int .i64 x0.f1, .int .i64 x0.f2, .int .i64 x0.f3, .int .i64 x0.f4] 24 (0, 0))) (fun i _ => x0.f0.length - (intOf i).toNat)
    case atStart => exact ⟨0, rfl, Nat.zero_le _, HB4_.out, HKx04_.out⟩
    case round =>
      obtain ⟨k, rfl, hk, hb, hx⟩ := hrel
      have HB := Aside0.mk hb
      have HX := Aside0.mk hx
      have HRB := Aside0.mk (Kd.C_below HR0.out hb)
      clear kx04a_ kx04b_ kx04c_ kx04d_
      by_cases hlt : k < x0.f0.length
      · obtain ⟨ad, A1, c1, A6, c6, e, z0, z1, z2, z3, z4, z5, z6, _, _, _, _⟩ := at_TStep HRB.out (k : Int) (by omega) (by omega)
        cases e
        simp only [Int.toNat_natCast] at z2 z3
        rw [show rd_TStep x0.f0 (k : Int) = x0.f0.getD k zStep from rfl] at z2 z3
        have hs := stepB_iff.1 (HST.out k hlt)
        generalize x0.f0.getD k zStep = y at *
        obtain ⟨_, _, s1, s2, s3, _⟩ := hs
        have b1 : decide (y.f2 < 1) = false := decide_eq_false (by omega)
        have b2 : decide (y.f3 < y.f2) = false := decide_eq_false (by omega)
        have b3 : decide ((4 : Int) < y.f3) = false := decide_eq_false (by omega)
        have b4 : decide (y.f3 > 4) = false := decide_eq_false (by omega)
        have hk1 : k + 1 ≤ x0.f0.length := hlt
        have hq0 : ∀ m, (wr.drewN m).cell? ⟨W.heap.size, 0, none⟩ = some (.slice (some ad) x0.f0.length c0) := fun m => blk_cell (blk_drewN HX.out m) 0
        have hz2 : ∀ m, (wr.drewN m).cell? ⟨(ad.add (k * 7)).block, (ad.add (k * 7)).off + 2, none⟩ = some (.int .i64 y.f2) := fun m => pw_cell_below (pw_below_drewN (Below.refl _ _) m) z2
        have hz3 : ∀ m, (wr.drewN m).cell? ⟨(ad.add (k * 7)).block, (ad.add (k * 7)).off + 3, none⟩ = some (.int .i64 y.f3) := fun m => pw_cell_below (pw_below_drewN (Below.refl _ _) m) z3
        have hlti : (k : Int) < (x0.f0.length : Int) := by omega
        clear s1 s2 s3 z0 z1 z2 z3 z4 z5 z6 hlt hk hb hx
        go_wp2
        go_quiet (fail)
        go_wp2
        go_roundw
        case rel => exact ⟨k + 1, by go_num, hk1, pw_below_drewN HB.out _, blk_drewN HX.out _⟩
        case measure => simp [intOf]; omega
      · obtain ⟨g7, g8⟩ := G.out
        obtain ⟨ad, A1, c1, A6, c6, e, z0, z1, z2, z3, z4, z5, z6, _, _, _, _⟩ := at_TStep HRB.out (0 : Int) (by omega) (by omega)
        cases e
        obtain ⟨ad', B1, d1, B6, d6, e, y0, y1, y2, y3, y4, y5, y6, _, _, _, _⟩ := at_TStep HRB.out ((x0.f0.length - 1 : Nat) : Int) (by omega) (by omega)
        cases e
        simp only [Int.toNat_natCast] at y2 y3
        rw [show rd_TStep x0.f0 ((x0.f0.length - 1 : Nat) : Int) = x0.f0.getD (x0.f0.length - 1) zStep from rfl] at y2 y3
        rw [show rd_TStep x0.f0 (0 : Int) = x0.f0.getD 0 zStep from rfl, show ad.add ((0 : Int).toNat * 7) = ad from addr_zero ad] at z4
        have hs0 := (stepB_iff.1 (HST.out 0 (by omega))).1
        have hsl := (stepB_iff.1 (HST.out (x0.f0.length - 1) (by omega))).2.2.2.2.2 (by rw [beq_iff_eq]; omega)
        have hg0 : (x0.f0.getD 0 zStep).f4 = false := by
          rcases hs0 with ⟨_, h2, _⟩ | ⟨h2, _⟩
          · cases h2
          · exact h2
        rw [hg0] at z4
        generalize x0.f0.getD (x0.f0.length - 1) zStep = y at *
        have b1 : (y.f2 == y.f3) = true := beq_iff_eq.2 hsl
        have hq0 : ∀ m, (wr.drewN m).cell? ⟨W.heap.size, 0, none⟩ = some (.slice (some ad) x0.f0.length c0) := fun m => blk_cell (blk_drewN HX.out m) 0
        have hq3 : ∀ m, (wr.drewN m).cell? ⟨W.heap.size, 3, none⟩ = some (.int .i64 x0.f3) := fun m => blk_cell (blk_drewN HX.out m) 3
        have hz4 : ∀ m, (wr.drewN m).cell? ⟨ad.block, ad.off + 4, none⟩ = some (.bool false) := fun m => pw_cell_below (pw_below_drewN (Below.refl _ _) m) z4
        have hy2 : ∀ m, (wr.drewN m).cell? ⟨(ad.add ((x0.f0.length - 1) * 7)).block, (ad.add ((x0.f0.length - 1) * 7)).off + 2, none⟩ = some (.int .i64 y.f2) := fun m => pw_cell_below (pw_below_drewN (Below.refl _ _) m) y2
        have hy3 : ∀ m, (wr.drewN m).cell? ⟨(ad.add ((x0.f0.length - 1) * 7)).block, (ad.add ((x0.f0.length - 1) * 7)).off + 3, none⟩ = some (.int .i64 y.f3) := fun m => pw_cell_below (pw_below_drewN (Below.refl _ _) m) y3
        have hnl : ¬ (k : Int) < (x0.f0.length : Int) := by omega
        clear z0 z1 z2 z3 z4 z5 z6 y0 y1 y2 y3 y4 y5 y6 hs0 hsl hg0 hlt hk hb hx g7 g8
        go_wp2
        go_quiet (fail)
        go_wp2
        go_ret
        exact ⟨by first | rfl | simp [*], pw_below_drewN HB.out _⟩
  · have HNO := Aside0.mk hgo
    clear hgo
    cases m <;> cases p
    all_goals first
      | (exfalso; exact HNO.out ⟨rfl, rfl⟩)
      | skip
    all_goals
      go_enter Try.func7, Try.ntmps7
      go_wp2_with fail
      go_at_call 9
      refine (awake9_told _).mono ?_
      rintro e w1_ ⟨rfl, hb1_⟩
      have HB1_ := Aside0.mk (below_step (below_alloc (Below.refl _ _) _) hb1_)
      have HKx01_ := Aside0.mk (blk_below (blk_new _ _) hb1_)
      obtain ⟨kx01a_, kx01b_, kx01c_, kx01d_⟩ := know HKx01_.out
      clear hb1_
      go_wp2_with fail
      go_at_call_of 10 (Value.agg #[.slice A0 x0.f0.length c0, .int .i64 x0.f1, .int .i64 x0.f2, .int .i64 x0.f3, .int .i64 x0.f4])
      refine (HPC.out A0 c0 _ (Kd.C_below HR0.out (HB1_.out)) HC0.out).mono ?_
      rintro e w2_ ⟨rfl, hb2_⟩
      have HB2_ := Aside0.mk (below_step (HB1_.out) hb2_)
      have HKx02_ := Aside0.mk (blk_below (HKx01_.out) hb2_)
      obtain ⟨kx02a_, kx02b_, kx02c_, kx02d_⟩ := know HKx02_.out
      clear kx01a_ kx01b_ kx01c_ kx01d_
      clear hb2_
      go_wp2_with fail
      go_at_call_of 11 (Value.agg #[.slice A0 x0.f0.length c0, .int .i64 x0.f1, .int .i64 x0.f2, .int .i64 x0.f3, .int .i64 x0.f4])
      refine (putQ_told x0 A0 c0 _ (Kd.C_below HR0.out (HB2_.out)) HC0.out HOK0.out HLN0.out HM.out HPP.out).mono ?_
      rintro e w3_ ⟨v3_, rfl, ho3_, hb3_⟩
      have HB3_ := Aside0.mk (below_step (HB2_.out) hb3_)
      have HKx03_ := Aside0.mk (blk_below (HKx02_.out) hb3_)
      obtain ⟨kx03a_, kx03b_, kx03c_, kx03d_⟩ := know HKx03_.out
      clear kx02a_ kx02b_ kx02c_ kx02d_
      clear hb3_
      obtain ⟨A3_, c3_, hv3_, hq3_, hp3_⟩ := Own8.reads ho3_
      subst hv3_
      have HP3_ := Aside0.mk hp3_
      have HQ3_ := Aside0.mk hq3_
      clear ho3_ hp3_ hq3_
      go_wp2_with fail
      go_at_call_of 16 (Value.agg #[.slice A0 x0.f0.length c0, .int .i64 x0.f1, .int .i64 x0.f2, .int .i64 x0.f3, .int .i64 x0.f4])
      refine (refMayQ_told x0 A0 c0 _ (Kd.C_below HR0.out (HB3_.out)) HC0.out HSZ.out HM.out).mono ?_
      rintro e w4_ ⟨rfl, hb4_⟩
      have HB4_ := Aside0.mk (below_step (HB3_.out) hb4_)
      have HKx04_ := Aside0.mk (blk_below (HKx03_.out) hb4_)
      obtain ⟨kx04a_, kx04b_, kx04c_, kx04d_⟩ := know HKx04_.out
      clear kx03a_ kx03b_ kx03c_ kx03d_
      clear hb4_
      go_wp2_with fail
      go_ret
      exact ⟨rfl, HB4_.out⟩
end Go.Proofs.Ytooemobolfoefaa.P
