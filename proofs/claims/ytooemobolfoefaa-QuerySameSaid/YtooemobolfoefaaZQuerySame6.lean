/- What QuerySame's row stands on: words, contracts of the functions that it reaches, plain facts, its walk (part 6): no condition but those that each theorem names. -/
import Derived.Test.YtooemobolfoefaaZQuerySame5
set_option linter.unusedVariables false
set_option linter.unusedSimpArgs false
namespace Go.Proofs.Ytooemobolfoefaa.P
open Go.RowKit Go.Proofs.YtooemobolfoefaaW.PrintWords Go.Proofs.YtooemobolfoefaaW.PrintLast Go.Proofs.YtooemobolfoefaaW.PrintMore
attribute [local go_sem] zaX zaV zbf zbe zaO zaN zaW zaU   -- for this text's walks alone
set_option linter.unusedVariables false
set_option linter.unusedSimpArgs false
set_option maxHeartbeats 8000000 in
set_option maxRecDepth 100000 in
theorem query_Check.calls (k : Nat) (A0 : Option Addr) (c0 : Nat) (l0 : List (SSchema)) (A1_0 : Option Addr) (c1_0 : Nat) (l1_0 : List (SStep)) (a1_1 : Int) (a1_2 : Int) (a1_3 : Int) (a1_4 : Int) (r : Int) (w : World) (hr0 : Kd.C kSchema w A0 l0.length l0) (hc0 : l0.length ≤ c0) (hr1_0 : Kd.C kStep w A1_0 l1_0.length l1_0) (hc1_0 : l1_0.length ≤ c1_0) (h : query_Check.f k l0 l1_0 a1_1 a1_2 a1_3 a1_4 = some r) :
  Calls Try.prog 15 #[.slice A0 l0.length c0, .agg #[.slice A1_0 l1_0.length c1_0, .int .i64 a1_1, .int .i64 a1_2, .int .i64 a1_3, .int .i64 a1_4]] w fun e w' => e = .returned (.int .i64 r) ∧ Below w.heap.size w w' := by
 have hu24 := Try.underlying24
 have hu40 := Try.underlying40
 have hu43 := Try.underlying43
 have HR0 := Aside0.mk hr0
 have HC0 := Aside0.mk hc0
 clear hr0 hc0
 have HR1_0 := Aside0.mk hr1_0
 have HC1_0 := Aside0.mk hc1_0
 clear hr1_0 hc1_0
 have HB := Aside0.mk (Below.refl w.heap.size w)
 have H : ((registry_May.f k l0).bind fun t171 => (if t171 = true then ((query_may.f k l1_0 a1_1 a1_2 a1_3 a1_4).bind fun t172 => (query_Check.j0 k l0 (!t172) l1_0 a1_1 a1_2 a1_3 a1_4)) else (query_Check.j0 k l0 true l1_0 a1_1 a1_2 a1_3 a1_4))) = some r := h
 clear h
 have HC3 := Aside0.mk H
 clear H
 go_enter Try.func15, Try.ntmps15
 go_upto_region 1 with (first | ((with_reducible refine zaw (N := 3) rfl ?_); (try (refine zaQ (by rfl) ?_; dsimp only)); refine zas ?hg (N := 3) ?hd (cs := #[.slice A1_0 l1_0.length c1_0, .int .i64 a1_1, .int .i64 a1_2, .int .i64 a1_3, .int .i64 a1_4]) (t := 24) ?hr ?_; (case hd => rfl); (case hg => rfl); (case hr => first | (go_simp; done) | (go_simp; rfl)); intro gb170 hg w4 hbox hb; have n0_ := Aside0.mk (zah (by repeat (first | (with_reducible first | exact HB.out | apply zab | apply zad | apply zae) | exact HB.out)) hb); have n1_ := Aside0.mk (hbox); have n2_ := Aside0.mk ((by rw [hg]; exact (zao (by repeat (first | (with_reducible first | exact HB.out | apply zab | apply zad | apply zae) | exact HB.out))) : w.heap.size ≤ gb170)); have n3_ := Aside0.mk ((by rw [hg]; exact (zao (by repeat (first | (with_reducible first | exact HB.out | apply zab | apply zad | apply zae) | exact HB.out))) : w.heap.size ≤ gb170)); clear HB; have HB := n0_; have BK170 := n1_; have GW170 := n2_; have GE170 := n3_; clear n0_ n1_ n2_ n3_; clear hb hbox hg))
 (try simp only [Act.put, List.setIfInBounds_toArray, List.set_cons_zero, List.set_cons_succ])
 go_cut [17] (fun v17 wc => ∃ (kq : Nat) (x17_2 : Bool), v17 = .bool x17_2 ∧ Aside0 (query_Check.j0 kq l0 x17_2 l1_0 a1_1 a1_2 a1_3 a1_4 = some r) ∧ Aside0 (kq ≤ k) ∧ Aside0 (wc.heap[gb170]? = some (.cells #[(.slice A1_0 l1_0.length c1_0), .int .i64 a1_1, .int .i64 a1_2, .int .i64 a1_3, .int .i64 a1_4] 24 (0, 0))) ∧ Aside0 (Below w.heap.size w wc))
 case first =>
  have H := HC3.out
  clear HC3
  replace H := Option.bind_eq_some_iff.mp H
  obtain ⟨t171, A50, H⟩ := H
  replace H : (if t171 = true then ((query_may.f k l1_0 a1_1 a1_2 a1_3 a1_4).bind fun t172 => (query_Check.j0 k l0 (!t172) l1_0 a1_1 a1_2 a1_3 a1_4)) else (query_Check.j0 k l0 true l1_0 a1_1 a1_2 a1_3 a1_4)) = some r := H
  have A5 := Aside0.mk A50
  clear A50
  by_cases c6 : t171 = true
  ·subst c6
   have H1 : ((query_may.f k l1_0 a1_1 a1_2 a1_3 a1_4).bind fun t172 => (query_Check.j0 k l0 (!t172) l1_0 a1_1 a1_2 a1_3 a1_4)) = some r := by rw [if_pos rfl] at H; exact H
   clear H
   have H := H1
   clear H1
   replace H := Option.bind_eq_some_iff.mp H
   obtain ⟨t172, A70, H⟩ := H
   replace H : (query_Check.j0 k l0 (!t172) l1_0 a1_1 a1_2 a1_3 a1_4) = some r := H
   have A7 := Aside0.mk A70
   clear A70
   have H' := Aside0.mk H
   clear H
   go_wp2_with (first | ((with_reducible refine zap (f := 29) rfl ?_); refine zau (some 11) rfl rfl Try.func29 (by kernel_rfl) rfl #[.slice A0 l0.length c0] rfl (by (try simp only [List.map_toArray, List.map_cons, List.map_nil]); first | done | rfl | (simp only [List.length_drop, List.length_take]; rfl)) ?_; (with_reducible refine (registry_May.calls k _ _ l0 true _ ?side1 ?side2 A5.out).mono ?_); (case side1 => repeat (first | exact (Kd.C_below HR0.out HB.out) | (with_reducible refine Kd.C_alloc ?_ _) | (with_reducible refine Kd.C_drewN ?_ _) | (with_reducible refine Kd.C_drew ?_))); (case side2 => exact HC0.out); rintro e w8 ⟨rfl, hb⟩; refine ⟨_, rfl, ?_⟩; have n0_ := Aside0.mk (zak (g := gb170) (o := .cells #[.slice A1_0 l1_0.length c1_0, .int .i64 a1_1, .int .i64 a1_2, .int .i64 a1_3, .int .i64 a1_4] 24 (0, 0)) (by (with_reducible repeat (first | refine zai ?_ _ | refine zal ?_ | refine zag ?_ _)); exact BK170.out) hb); have n1_ := Aside0.mk (zah (by repeat (first | (with_reducible first | exact HB.out | apply zab | apply zad | apply zae | refine zaf ?_ GE170.out) | exact HB.out)) hb); clear BK170; clear HB; have BK170 := n0_; have HB := n1_; clear n0_ n1_; (try clear hb); (try clear hb2); (try clear hk); (try clear hi); have hcz9_0 : w8.cell? ⟨gb170, 0, none⟩ = some (.slice A1_0 l1_0.length c1_0) := (zac BK170.out 0).trans rfl; have hcz9_1 : w8.cell? ⟨gb170, 1, none⟩ = some (.int .i64 a1_1) := (zac BK170.out 1).trans rfl; have hcz9_2 : w8.cell? ⟨gb170, 2, none⟩ = some (.int .i64 a1_2) := (zac BK170.out 2).trans rfl; have hcz9_3 : w8.cell? ⟨gb170, 3, none⟩ = some (.int .i64 a1_3) := (zac BK170.out 3).trans rfl; have hcz9_4 : w8.cell? ⟨gb170, 4, none⟩ = some (.int .i64 a1_4) := (zac BK170.out 4).trans rfl; have hfz9_0 := zaa BK170.out 0; have hfz9_1 := zaa BK170.out 1; have hfz9_2 := zaa BK170.out 2; have hfz9_3 := zaa BK170.out 3; have hfz9_4 := zaa BK170.out 4) | (go_at_call 21; (with_reducible refine (query_may.calls k _ _ l1_0 a1_1 a1_2 a1_3 a1_4 t172 _ ?side1 ?side2 A7.out).mono ?_); (case side1 => repeat (first | exact (Kd.C_below HR1_0.out HB.out) | (with_reducible refine Kd.C_alloc ?_ _) | (with_reducible refine Kd.C_drewN ?_ _) | (with_reducible refine Kd.C_drew ?_))); (case side2 => exact HC1_0.out); rintro e w10 ⟨rfl, hb⟩; have n0_ := Aside0.mk (zak (g := gb170) (o := .cells #[.slice A1_0 l1_0.length c1_0, .int .i64 a1_1, .int .i64 a1_2, .int .i64 a1_3, .int .i64 a1_4] 24 (0, 0)) (by (with_reducible repeat (first | refine zai ?_ _ | refine zal ?_ | refine zag ?_ _)); exact BK170.out) hb); have n1_ := Aside0.mk (zah (by repeat (first | (with_reducible first | exact HB.out | apply zab | apply zad | apply zae | refine zaf ?_ GE170.out) | exact HB.out)) hb); clear BK170; clear HB; have BK170 := n0_; have HB := n1_; clear n0_ n1_; (try clear hb); (try clear hb2); (try clear hk); (try clear hi)))
   go_meet
   case rel => exact ⟨_, (!t172), (by first | rfl | (simp; done) | (simp [*]; done)), H', ⟨by first | omega | exact Nat.le_refl _⟩, ⟨by (with_reducible repeat (first | refine zai ?_ _ | refine zal ?_ | refine zag ?_ _)); exact BK170.out⟩, ⟨by repeat (first | (with_reducible first | exact HB.out | apply zab | apply zad | apply zae | refine zaf ?_ GE170.out) | exact HB.out)⟩⟩
  ·replace c6 := Bool.eq_false_iff.mpr c6
   subst c6
   have H1 : (query_Check.j0 k l0 true l1_0 a1_1 a1_2 a1_3 a1_4) = some r := by rw [if_neg (show ¬ (false = true) by decide)] at H; exact H
   clear H
   have H := H1
   clear H1
   have H' := Aside0.mk H
   clear H
   go_wp2_with (first | ((with_reducible refine zap (f := 29) rfl ?_); refine zau (some 11) rfl rfl Try.func29 (by kernel_rfl) rfl #[.slice A0 l0.length c0] rfl (by (try simp only [List.map_toArray, List.map_cons, List.map_nil]); first | done | rfl | (simp only [List.length_drop, List.length_take]; rfl)) ?_; (with_reducible refine (registry_May.calls k _ _ l0 false _ ?side1 ?side2 A5.out).mono ?_); (case side1 => repeat (first | exact (Kd.C_below HR0.out HB.out) | (with_reducible refine Kd.C_alloc ?_ _) | (with_reducible refine Kd.C_drewN ?_ _) | (with_reducible refine Kd.C_drew ?_))); (case side2 => exact HC0.out); rintro e w11 ⟨rfl, hb⟩; refine ⟨_, rfl, ?_⟩; have n0_ := Aside0.mk (zak (g := gb170) (o := .cells #[.slice A1_0 l1_0.length c1_0, .int .i64 a1_1, .int .i64 a1_2, .int .i64 a1_3, .int .i64 a1_4] 24 (0, 0)) (by (with_reducible repeat (first | refine zai ?_ _ | refine zal ?_ | refine zag ?_ _)); exact BK170.out) hb); have n1_ := Aside0.mk (zah (by repeat (first | (with_reducible first | exact HB.out | apply zab | apply zad | apply zae | refine zaf ?_ GE170.out) | exact HB.out)) hb); clear BK170; clear HB; have BK170 := n0_; have HB := n1_; clear n0_ n1_; (try clear hb); (try clear hb2); (try clear hk); (try clear hi)))
   go_meet
   case rel => exact ⟨_, (true), (by first | rfl | (simp; done) | (simp [*]; done)), H', ⟨by first | omega | exact Nat.le_refl _⟩, ⟨by (with_reducible repeat (first | refine zai ?_ _ | refine zal ?_ | refine zag ?_ _)); exact BK170.out⟩, ⟨by repeat (first | (with_reducible first | exact HB.out | apply zab | apply zad | apply zae | refine zaf ?_ GE170.out) | exact HB.out)⟩⟩
 case rest =>
  clear HC3
  try clear c1
  try clear c2
  try clear p2
  try clear c6
  try clear hcz9_0
  try clear hcz9_1
  try clear hcz9_2
  try clear hcz9_3
  try clear hcz9_4
  try clear hfz9_0
  try clear hfz9_1
  try clear hfz9_2
  try clear hfz9_3
  try clear hfz9_4
  obtain ⟨kq, x17_2, rfl, HA, HJ2, BK170, HB⟩ := hcut
  cases kq with
  | zero => exact absurd HA.out (by simp [query_Check.j0])
  | succ kj2 =>
   have H := HA.out
   clear HA
   simp only [query_Check.j0] at H
   by_cases c12 : x17_2 = true
   ·subst c12
    have H1 : (some 1) = some r := by rw [if_pos rfl] at H; exact H
    clear H
    have H := H1
    clear H1
    obtain rfl := Option.some.inj H
    go_wp2
    go_ret
    exact ⟨by first | rfl | (simp [zan, zam] <;> rfl) | (simp [*, zan, zam] <;> rfl), by repeat (first | (with_reducible first | exact HB.out | apply zab | apply zad | apply zae | refine zaf ?_ GE170.out) | exact HB.out)⟩
   ·replace c12 := Bool.eq_false_iff.mpr c12
    subst c12
    have H1 : (query_Check.l0 kj2 l0 l1_0 (l1_0.length : Int) 0 l1_0 a1_1 a1_2 a1_3 a1_4) = some r := by rw [if_neg (show ¬ (false = true) by decide)] at H; exact H
    clear H
    have H := H1
    clear H1
    have H' := Aside0.mk H
    clear H
    have hcz13_0 : wc.cell? ⟨gb170, 0, none⟩ = some (.slice A1_0 l1_0.length c1_0) := (zac BK170.out 0).trans rfl
    have hcz13_1 : wc.cell? ⟨gb170, 1, none⟩ = some (.int .i64 a1_1) := (zac BK170.out 1).trans rfl
    have hcz13_2 : wc.cell? ⟨gb170, 2, none⟩ = some (.int .i64 a1_2) := (zac BK170.out 2).trans rfl
    have hcz13_3 : wc.cell? ⟨gb170, 3, none⟩ = some (.int .i64 a1_3) := (zac BK170.out 3).trans rfl
    have hcz13_4 : wc.cell? ⟨gb170, 4, none⟩ = some (.int .i64 a1_4) := (zac BK170.out 4).trans rfl
    have hfz13_0 := zaa BK170.out 0
    have hfz13_1 := zaa BK170.out 1
    have hfz13_2 := zaa BK170.out 2
    have hfz13_3 := zaa BK170.out 3
    have hfz13_4 := zaa BK170.out 4
    go_wp2
    go_loopg [21] kj2 (fun kq v21 w' => ∃ (x21_2 : Int), v21 = .int .i64 x21_2 ∧ Aside0 (query_Check.l0 kq l0 l1_0 (l1_0.length : Int) x21_2 l1_0 a1_1 a1_2 a1_3 a1_4 = some r) ∧ Aside0 (kq ≤ kj2) ∧ Aside0 (w'.heap[gb170]? = some (.cells #[(.slice A1_0 l1_0.length c1_0), .int .i64 a1_1, .int .i64 a1_2, .int .i64 a1_3, .int .i64 a1_4] 24 (0, 0))) ∧ Aside0 (Below w.heap.size w w'))
    case atStart => exact ⟨(0), (by first | rfl | (simp; done) | (simp [*]; done)), H', ⟨Nat.le_refl _⟩, ⟨by (with_reducible repeat (first | refine zai ?_ _ | refine zal ?_ | refine zag ?_ _)); exact BK170.out⟩, ⟨by repeat (first | (with_reducible first | exact HB.out | apply zab | apply zad | apply zae | refine zaf ?_ GE170.out) | exact HB.out)⟩⟩
    case round =>
     clear H'
     try clear c1
     try clear c2
     try clear p2
     try clear c6
     try clear c12
     try clear hcz13_0
     try clear hcz13_1
     try clear hcz13_2
     try clear hcz13_3
     try clear hcz13_4
     try clear hcz9_0
     try clear hcz9_1
     try clear hcz9_2
     try clear hcz9_3
     try clear hcz9_4
     try clear hfz13_0
     try clear hfz13_1
     try clear hfz13_2
     try clear hfz13_3
     try clear hfz13_4
     try clear hfz9_0
     try clear hfz9_1
     try clear hfz9_2
     try clear hfz9_3
     try clear hfz9_4
     try clear p2
     obtain ⟨x21_2, rfl, HA, HK2, BK170, HB⟩ := hrel
     cases gk with
     | zero => exact absurd HA.out (by simp [query_Check.l0])
     | succ k2 =>
      have H := HA.out
      clear HA
      simp only [query_Check.l0] at H
      by_cases c14 : x21_2 < (l1_0.length : Int)
      ·rw [if_pos c14] at H
       have c14b0 : decide (x21_2 < (l1_0.length : Int)) = true := decide_eq_true c14
       clear c14
       by_cases c15 : 0 ≤ x21_2
       ·rw [if_pos c15] at H
        have c15b0 : decide (0 ≤ x21_2) = true := decide_eq_true c15
        clear c15
        by_cases c16 : x21_2 < (l1_0.length : Int)
        ·rw [if_pos c16] at H
         have c16b0 : decide (x21_2 < (l1_0.length : Int)) = true := decide_eq_true c16
         clear c16
         replace H := Option.bind_eq_some_iff.mp H
         obtain ⟨t184, A170, H⟩ := H
         replace H : (if t184 = 0 then (query_Check.j2 k2 l0 t184 l1_0 (l1_0.length : Int) x21_2 ((zaj l1_0 x21_2).f4) l1_0 a1_1 a1_2 a1_3 a1_4 ((zaj l1_0 x21_2).f0) ((zaj l1_0 x21_2).f1) ((zaj l1_0 x21_2).f2) ((zaj l1_0 x21_2).f3) ((zaj l1_0 x21_2).f4) ((zaj l1_0 x21_2).f5) ((zaj l1_0 x21_2).f6)) else (query_Check.j2 k2 l0 t184 l1_0 (l1_0.length : Int) x21_2 false l1_0 a1_1 a1_2 a1_3 a1_4 ((zaj l1_0 x21_2).f0) ((zaj l1_0 x21_2).f1) ((zaj l1_0 x21_2).f2) ((zaj l1_0 x21_2).f3) ((zaj l1_0 x21_2).f4) ((zaj l1_0 x21_2).f5) ((zaj l1_0 x21_2).f6))) = some r := H
         have A17 := Aside0.mk A170
         clear A170
         have HC18 := Aside0.mk H
         clear H
         have p182 : 0 ≤ (x21_2 : Int) := of_decide_eq_true (by first | (with_reducible assumption) | assumption)
         have q182 : x21_2 < (l1_0.length : Int) := of_decide_eq_true (by first | (with_reducible assumption) | assumption)
         obtain ⟨ad182, A182_1, c182_1, A182_6, c182_6, e182, hx182_0, hx182_1, hx182_2, hx182_3, hx182_4, hx182_5, hx182_6, hl182_1, hi182_1, hl182_6, hi182_6⟩ := zbi HR1_0.out x21_2 p182 q182
         cases e182
         replace hx182_0 := (HB.out.cell (World.block_lt_of_cell? w _ hx182_0)).trans hx182_0
         replace hx182_1 := (HB.out.cell (World.block_lt_of_cell? w _ hx182_1)).trans hx182_1
         replace hx182_2 := (HB.out.cell (World.block_lt_of_cell? w _ hx182_2)).trans hx182_2
         replace hx182_3 := (HB.out.cell (World.block_lt_of_cell? w _ hx182_3)).trans hx182_3
         replace hx182_4 := (HB.out.cell (World.block_lt_of_cell? w _ hx182_4)).trans hx182_4
         replace hx182_5 := (HB.out.cell (World.block_lt_of_cell? w _ hx182_5)).trans hx182_5
         replace hx182_6 := (HB.out.cell (World.block_lt_of_cell? w _ hx182_6)).trans hx182_6
         have HR182_1 := Aside0.mk hi182_1
         have HC182_1 := Aside0.mk hl182_1
         clear hi182_1 hl182_1
         have HR182_6 := Aside0.mk hi182_6
         have HC182_6 := Aside0.mk hl182_6
         clear hi182_6 hl182_6
         replace p182 := eq_true p182
         replace q182 := eq_true q182
         go_upto_region 7 with (first | ((with_reducible refine zaw (N := 6) rfl ?_); (try (refine zaQ (by rfl) ?_; dsimp only)); refine zas ?hg (N := 6) ?hd (cs := #[.string (⟨#[]⟩ : ByteArray), .slice none 0 0, .int .i64 0, .int .i64 0, .bool false, .string (⟨#[]⟩ : ByteArray), .slice none 0 0]) (t := 40) ?hr ?_; (case hd => rfl); (case hg => rfl); (case hr => first | (go_simp; done) | (go_simp; rfl)); intro gb183 hg w19 hbox hb; have n0_ := Aside0.mk (zak (g := gb170) (o := .cells #[.slice (some ad182) l1_0.length c1_0, .int .i64 a1_1, .int .i64 a1_2, .int .i64 a1_3, .int .i64 a1_4] 24 (0, 0)) (by (with_reducible repeat (first | refine zai ?_ _ | refine zal ?_ | refine zag ?_ _)); exact BK170.out) hb); have n1_ := Aside0.mk (zah (by repeat (first | (with_reducible first | exact HB.out | apply zab | apply zad | apply zae | refine zaf ?_ GE170.out) | exact HB.out)) hb); have n2_ := Aside0.mk (hbox); have n3_ := Aside0.mk ((by rw [hg]; exact (zao (by repeat (first | (with_reducible first | exact HB.out | apply zab | apply zad | apply zae | refine zaf ?_ GE170.out) | exact HB.out))) : w.heap.size ≤ gb183)); have n4_ := Aside0.mk ((by rw [hg]; exact (zao (by repeat (first | (with_reducible first | exact HB.out | apply zab | apply zad | apply zae | refine zaf ?_ GE170.out) | exact HB.out))) : w.heap.size ≤ gb183)); have n5_ := Aside0.mk ((by rw [hg]; exact Nat.ne_of_lt (zaA (g := gb170) (o := .cells #[.slice (some ad182) l1_0.length c1_0, .int .i64 a1_1, .int .i64 a1_2, .int .i64 a1_3, .int .i64 a1_4] 24 (0, 0)) (by (with_reducible repeat (first | refine zai ?_ _ | refine zal ?_ | refine zag ?_ _)); exact BK170.out)) : gb170 ≠ gb183)); have n6_ := Aside0.mk ((by rw [hg]; exact Nat.ne_of_gt (zaA (g := gb170) (o := .cells #[.slice (some ad182) l1_0.length c1_0, .int .i64 a1_1, .int .i64 a1_2, .int .i64 a1_3, .int .i64 a1_4] 24 (0, 0)) (by (with_reducible repeat (first | refine zai ?_ _ | refine zal ?_ | refine zag ?_ _)); exact BK170.out)) : gb183 ≠ gb170)); clear BK170; clear HB; have BK170 := n0_; have HB := n1_; have BK183 := n2_; have GW183 := n3_; have GE183 := n4_; have NB170_183 := n5_; have NB183_170 := n6_; clear n0_ n1_ n2_ n3_ n4_ n5_ n6_; clear hb hbox hg; have hnb20 := NB183_170.out; have hnc20 := NB170_183.out; have hcz21_0 : w19.cell? ⟨gb183, 0, none⟩ = some (.string (⟨#[]⟩ : ByteArray)) := (zac BK183.out 0).trans rfl; have hcz21_1 : w19.cell? ⟨gb183, 1, none⟩ = some (.slice none 0 0) := (zac BK183.out 1).trans rfl; have hcz21_2 : w19.cell? ⟨gb183, 2, none⟩ = some (.int .i64 0) := (zac BK183.out 2).trans rfl; have hcz21_3 : w19.cell? ⟨gb183, 3, none⟩ = some (.int .i64 0) := (zac BK183.out 3).trans rfl; have hcz21_4 : w19.cell? ⟨gb183, 4, none⟩ = some (.bool false) := (zac BK183.out 4).trans rfl; have hcz21_5 : w19.cell? ⟨gb183, 5, none⟩ = some (.string (⟨#[]⟩ : ByteArray)) := (zac BK183.out 5).trans rfl; have hcz21_6 : w19.cell? ⟨gb183, 6, none⟩ = some (.slice none 0 0) := (zac BK183.out 6).trans rfl; have hfz21_0 := zaa BK183.out 0; have hfz21_1 := zaa BK183.out 1; have hfz21_2 := zaa BK183.out 2; have hfz21_3 := zaa BK183.out 3; have hfz21_4 := zaa BK183.out 4; have hfz21_5 := zaa BK183.out 5; have hfz21_6 := zaa BK183.out 6) | ((with_reducible refine zap (f := 30) rfl ?_); refine zau (some 30) rfl rfl Try.func30 (by kernel_rfl) rfl #[.slice A0 l0.length c0, .string ((zaj l1_0 x21_2).f0), .slice A182_1 ((zaj l1_0 x21_2).f1).length c182_1] rfl (by (try simp only [List.map_toArray, List.map_cons, List.map_nil]); first | done | rfl | (simp only [List.length_drop, List.length_take]; rfl)) ?_; (with_reducible refine (query_asks.calls _ _ l0 ((zaj l1_0 x21_2).f0) _ _ ((zaj l1_0 x21_2).f1) t184 _ ?side1 ?side2 ?side3 ?side4 A17.out).mono ?_); (case side1 => exact Kd.C_below HR0.out (by repeat (first | (with_reducible first | exact HB.out | apply zab | apply zad | apply zae | refine zaf ?_ GE170.out | refine zaf ?_ GE183.out) | exact HB.out))); (case side2 => exact HC0.out); (case side3 => exact Kd.C_below HR182_1.out (by repeat (first | (with_reducible first | exact HB.out | apply zab | apply zad | apply zae | refine zaf ?_ GE170.out | refine zaf ?_ GE183.out) | exact HB.out))); (case side4 => exact HC182_1.out); rintro e w22 ⟨rfl, hb⟩; refine ⟨_, rfl, ?_⟩; have n0_ := Aside0.mk (zak (g := gb170) (o := .cells #[.slice (some ad182) l1_0.length c1_0, .int .i64 a1_1, .int .i64 a1_2, .int .i64 a1_3, .int .i64 a1_4] 24 (0, 0)) (by (with_reducible repeat (first | refine zai ?_ _ | refine zal ?_ | refine zag ?_ _)); refine zaG ?_ NB170_183.out _; (with_reducible repeat (first | refine zai ?_ _ | refine zal ?_ | refine zag ?_ _)); refine zaG ?_ NB170_183.out _; (with_reducible repeat (first | refine zai ?_ _ | refine zal ?_ | refine zag ?_ _)); refine zaG ?_ NB170_183.out _; (with_reducible repeat (first | refine zai ?_ _ | refine zal ?_ | refine zag ?_ _)); refine zaG ?_ NB170_183.out _; (with_reducible repeat (first | refine zai ?_ _ | refine zal ?_ | refine zag ?_ _)); refine zaG ?_ NB170_183.out _; (with_reducible repeat (first | refine zai ?_ _ | refine zal ?_ | refine zag ?_ _)); refine zaG ?_ NB170_183.out _; (with_reducible repeat (first | refine zai ?_ _ | refine zal ?_ | refine zag ?_ _)); refine zaG ?_ NB170_183.out _; (with_reducible repeat (first | refine zai ?_ _ | refine zal ?_ | refine zag ?_ _)); exact BK170.out) hb); have n1_ := Aside0.mk (zak (g := gb183) (o := .cells #[.string ((zaj l1_0 x21_2).f0), .slice A182_1 ((zaj l1_0 x21_2).f1).length c182_1, .int .i64 ((zaj l1_0 x21_2).f2), .int .i64 ((zaj l1_0 x21_2).f3), .bool ((zaj l1_0 x21_2).f4), .string ((zaj l1_0 x21_2).f5), .slice A182_6 ((zaj l1_0 x21_2).f6).length c182_6] 40 (0, 0)) (by (with_reducible repeat (first | refine zai ?_ _ | refine zal ?_ | refine zag ?_ _)); refine zar (cs := #[.string ((zaj l1_0 x21_2).f0), .slice A182_1 ((zaj l1_0 x21_2).f1).length c182_1, .int .i64 ((zaj l1_0 x21_2).f2), .int .i64 ((zaj l1_0 x21_2).f3), .bool ((zaj l1_0 x21_2).f4), .string ((zaj l1_0 x21_2).f5), .slice none 0 0]) ?_ 6 _ rfl; (with_reducible repeat (first | refine zai ?_ _ | refine zal ?_ | refine zag ?_ _)); refine zar (cs := #[.string ((zaj l1_0 x21_2).f0), .slice A182_1 ((zaj l1_0 x21_2).f1).length c182_1, .int .i64 ((zaj l1_0 x21_2).f2), .int .i64 ((zaj l1_0 x21_2).f3), .bool ((zaj l1_0 x21_2).f4), .string (⟨#[]⟩ : ByteArray), .slice none 0 0]) ?_ 5 _ rfl; (with_reducible repeat (first | refine zai ?_ _ | refine zal ?_ | refine zag ?_ _)); refine zar (cs := #[.string ((zaj l1_0 x21_2).f0), .slice A182_1 ((zaj l1_0 x21_2).f1).length c182_1, .int .i64 ((zaj l1_0 x21_2).f2), .int .i64 ((zaj l1_0 x21_2).f3), .bool false, .string (⟨#[]⟩ : ByteArray), .slice none 0 0]) ?_ 4 _ rfl; (with_reducible repeat (first | refine zai ?_ _ | refine zal ?_ | refine zag ?_ _)); refine zar (cs := #[.string ((zaj l1_0 x21_2).f0), .slice A182_1 ((zaj l1_0 x21_2).f1).length c182_1, .int .i64 ((zaj l1_0 x21_2).f2), .int .i64 0, .bool false, .string (⟨#[]⟩ : ByteArray), .slice none 0 0]) ?_ 3 _ rfl; (with_reducible repeat (first | refine zai ?_ _ | refine zal ?_ | refine zag ?_ _)); refine zar (cs := #[.string ((zaj l1_0 x21_2).f0), .slice A182_1 ((zaj l1_0 x21_2).f1).length c182_1, .int .i64 0, .int .i64 0, .bool false, .string (⟨#[]⟩ : ByteArray), .slice none 0 0]) ?_ 2 _ rfl; (with_reducible repeat (first | refine zai ?_ _ | refine zal ?_ | refine zag ?_ _)); refine zar (cs := #[.string ((zaj l1_0 x21_2).f0), .slice none 0 0, .int .i64 0, .int .i64 0, .bool false, .string (⟨#[]⟩ : ByteArray), .slice none 0 0]) ?_ 1 _ rfl; (with_reducible repeat (first | refine zai ?_ _ | refine zal ?_ | refine zag ?_ _)); refine zar (cs := #[.string (⟨#[]⟩ : ByteArray), .slice none 0 0, .int .i64 0, .int .i64 0, .bool false, .string (⟨#[]⟩ : ByteArray), .slice none 0 0]) ?_ 0 _ rfl; (with_reducible repeat (first | refine zai ?_ _ | refine zal ?_ | refine zag ?_ _)); exact BK183.out) hb); have n2_ := Aside0.mk (zah (by repeat (first | (with_reducible first | exact HB.out | apply zab | apply zad | apply zae | refine zaf ?_ GE170.out | refine zaf ?_ GE183.out) | exact HB.out)) hb); clear BK170; clear BK183; clear HB; have BK170 := n0_; have BK183 := n1_; have HB := n2_; clear n0_ n1_ n2_; (try clear hb); (try clear hb2); (try clear hk); (try clear hi)))
         (try simp only [Act.put, List.setIfInBounds_toArray, List.set_cons_zero, List.set_cons_succ])
         go_cut [36] (fun v36 wc => ∃ (kq : Nat) (x36_17 : Bool), v36 = .bool x36_17 ∧ Aside0 (query_Check.j2 kq l0 t184 l1_0 (l1_0.length : Int) x21_2 x36_17 l1_0 a1_1 a1_2 a1_3 a1_4 ((zaj l1_0 x21_2).f0) ((zaj l1_0 x21_2).f1) ((zaj l1_0 x21_2).f2) ((zaj l1_0 x21_2).f3) ((zaj l1_0 x21_2).f4) ((zaj l1_0 x21_2).f5) ((zaj l1_0 x21_2).f6) = some r) ∧ Aside0 (kq ≤ k2) ∧ Aside0 (wc.heap[gb170]? = some (.cells #[(.slice (some ad182) l1_0.length c1_0), .int .i64 a1_1, .int .i64 a1_2, .int .i64 a1_3, .int .i64 a1_4] 24 (0, 0))) ∧ Aside0 (wc.heap[gb183]? = some (.cells #[.string ((zaj l1_0 x21_2).f0), (.slice A182_1 ((zaj l1_0 x21_2).f1).length c182_1), .int .i64 ((zaj l1_0 x21_2).f2), .int .i64 ((zaj l1_0 x21_2).f3), .bool ((zaj l1_0 x21_2).f4), .string ((zaj l1_0 x21_2).f5), (.slice A182_6 ((zaj l1_0 x21_2).f6).length c182_6)] 40 (0, 0))) ∧ Aside0 (Below w.heap.size w wc))
         case first =>
          have H := HC18.out
          clear HC18
          by_cases c23 : t184 = 0
          ·rw [if_pos c23] at H
           have c23b0 : (t184 == 0) = true := beq_iff_eq.mpr c23
           have c23b1 : (t184 != 0) = false := bne_eq_false_iff_eq.mpr c23
           clear c23
           (first | rw [c23b0] | (simp only [i64_w, i32_w]; rw [c23b0]) | skip)
           have H' := Aside0.mk H
           clear H
           have hnb24 := NB183_170.out
           have hnc24 := NB170_183.out
           have hcz25_0 : w22.cell? ⟨gb183, 0, none⟩ = some (.string ((zaj l1_0 x21_2).f0)) := (zac BK183.out 0).trans rfl
           have hcz25_1 : w22.cell? ⟨gb183, 1, none⟩ = some (.slice A182_1 ((zaj l1_0 x21_2).f1).length c182_1) := (zac BK183.out 1).trans rfl
           have hcz25_2 : w22.cell? ⟨gb183, 2, none⟩ = some (.int .i64 ((zaj l1_0 x21_2).f2)) := (zac BK183.out 2).trans rfl
           have hcz25_3 : w22.cell? ⟨gb183, 3, none⟩ = some (.int .i64 ((zaj l1_0 x21_2).f3)) := (zac BK183.out 3).trans rfl
           have hcz25_4 : w22.cell? ⟨gb183, 4, none⟩ = some (.bool ((zaj l1_0 x21_2).f4)) := (zac BK183.out 4).trans rfl
           have hcz25_5 : w22.cell? ⟨gb183, 5, none⟩ = some (.string ((zaj l1_0 x21_2).f5)) := (zac BK183.out 5).trans rfl
           have hcz25_6 : w22.cell? ⟨gb183, 6, none⟩ = some (.slice A182_6 ((zaj l1_0 x21_2).f6).length c182_6) := (zac BK183.out 6).trans rfl
           have hfz25_0 := zaa BK183.out 0
           have hfz25_1 := zaa BK183.out 1
           have hfz25_2 := zaa BK183.out 2
           have hfz25_3 := zaa BK183.out 3
           have hfz25_4 := zaa BK183.out 4
           have hfz25_5 := zaa BK183.out 5
           have hfz25_6 := zaa BK183.out 6
           go_wp2
           go_meet
           case rel => exact ⟨_, ((zaj l1_0 x21_2).f4), (by first | rfl | (simp; done) | (simp [*]; done)), H', ⟨by have := HJ2.out; have := HK2.out; first | omega | exact Nat.le_refl _⟩, ⟨by (with_reducible repeat (first | refine zai ?_ _ | refine zal ?_ | refine zag ?_ _)); exact BK170.out⟩, ⟨by (with_reducible repeat (first | refine zai ?_ _ | refine zal ?_ | refine zag ?_ _)); exact BK183.out⟩, ⟨by repeat (first | (with_reducible first | exact HB.out | apply zab | apply zad | apply zae | refine zaf ?_ GE170.out | refine zaf ?_ GE183.out) | exact HB.out)⟩⟩
          ·rw [if_neg c23] at H
           have c23b0 : (t184 == 0) = false := beq_eq_false_iff_ne.mpr c23
           have c23b1 : (t184 != 0) = true := bne_iff_ne.mpr c23
           (first | rw [c23b0] | (simp only [i64_w, i32_w]; rw [c23b0]) | skip)
           have H' := Aside0.mk H
           clear H
           go_wp2
           go_meet
           case rel => exact ⟨_, (false), (by first | rfl | (simp; done) | (simp [*]; done)), H', ⟨by have := HJ2.out; have := HK2.out; first | omega | exact Nat.le_refl _⟩, ⟨by (with_reducible repeat (first | refine zai ?_ _ | refine zal ?_ | refine zag ?_ _)); exact BK170.out⟩, ⟨by (with_reducible repeat (first | refine zai ?_ _ | refine zal ?_ | refine zag ?_ _)); exact BK183.out⟩, ⟨by repeat (first | (with_reducible first | exact HB.out | apply zab | apply zad | apply zae | refine zaf ?_ GE170.out | refine zaf ?_ GE183.out) | exact HB.out)⟩⟩
         case rest =>
          clear HC18
          try clear c1
          try clear p1
          try clear q1
          try clear hx1
          try clear c2
          try clear p2
          try clear c3
          try clear c6
          try clear c12
          try clear c14
          try clear c14b0
          try clear c15
          try clear c15b0
          try clear c16
          try clear c16b0
          try clear c18
          try clear p18
          try clear q18
          try clear hx18
          try clear c20
          try clear c23
          try clear c23b0
          try clear c23b1
          try clear c24
          try clear hcz13_0
          try clear hcz13_1
          try clear hcz13_2
          try clear hcz13_3
          try clear hcz13_4
          try clear hcz21_0
          try clear hcz21_1
          try clear hcz21_2
          try clear hcz21_3
          try clear hcz21_4
          try clear hcz21_5
          try clear hcz21_6
          try clear hcz25_0
          try clear hcz25_1
          try clear hcz25_2
          try clear hcz25_3
          try clear hcz25_4
          try clear hcz25_5
          try clear hcz25_6
          try clear hcz9_0
          try clear hcz9_1
          try clear hcz9_2
          try clear hcz9_3
          try clear hcz9_4
          try clear hfz13_0
          try clear hfz13_1
          try clear hfz13_2
          try clear hfz13_3
          try clear hfz13_4
          try clear hfz21_0
          try clear hfz21_1
          try clear hfz21_2
          try clear hfz21_3
          try clear hfz21_4
          try clear hfz21_5
          try clear hfz21_6
          try clear hfz25_0
          try clear hfz25_1
          try clear hfz25_2
          try clear hfz25_3
          try clear hfz25_4
          try clear hfz25_5
          try clear hfz25_6
          try clear hfz9_0
          try clear hfz9_1
          try clear hfz9_2
          try clear hfz9_3
          try clear hfz9_4
          try clear hx182_0
          try clear hx182_1
          try clear hx182_2
          try clear hx182_3
          try clear hx182_4
          try clear hx182_5
          try clear hx182_6
          try clear p182
          try clear p2
          try clear q182
          obtain ⟨kq, x36_17, rfl, HA, HJ17, BK170, BK183, HB⟩ := hcut
          cases kq with
          | zero => exact absurd HA.out (by simp [query_Check.j2])
          | succ kj17 =>
           have H := HA.out
           clear HA
           simp only [query_Check.j2] at H
           by_cases c26 : x36_17 = true
           ·subst c26
            have H1 : ((query_asks.f l0 ((zaj l1_0 x21_2).f5) ((zaj l1_0 x21_2).f6)).bind fun t185 => (if t185 = 0 then (query_Check.l0 kj17 l0 l1_0 (l1_0.length : Int) (wrap64 (x21_2 + 1)) l1_0 a1_1 a1_2 a1_3 a1_4) else (some t185))) = some r := by rw [if_pos rfl] at H; exact H
            clear H
            have H := H1
            clear H1
            replace H := Option.bind_eq_some_iff.mp H
            obtain ⟨t185, A270, H⟩ := H
            replace H : (if t185 = 0 then (query_Check.l0 kj17 l0 l1_0 (l1_0.length : Int) (wrap64 (x21_2 + 1)) l1_0 a1_1 a1_2 a1_3 a1_4) else (some t185)) = some r := H
            have A27 := Aside0.mk A270
            clear A270
            by_cases c28 : t185 = 0
            ·rw [if_pos c28] at H
             have c28b0 : (t185 == 0) = true := beq_iff_eq.mpr c28
             have c28b1 : (t185 != 0) = false := bne_eq_false_iff_eq.mpr c28
             clear c28
             have H' := Aside0.mk H
             clear H
             have hnb29 := NB183_170.out
             have hnc29 := NB170_183.out
             have hcz30_0 : wc.cell? ⟨gb183, 0, none⟩ = some (.string ((zaj l1_0 x21_2).f0)) := (zac BK183.out 0).trans rfl
             have hcz30_1 : wc.cell? ⟨gb183, 1, none⟩ = some (.slice A182_1 ((zaj l1_0 x21_2).f1).length c182_1) := (zac BK183.out 1).trans rfl
             have hcz30_2 : wc.cell? ⟨gb183, 2, none⟩ = some (.int .i64 ((zaj l1_0 x21_2).f2)) := (zac BK183.out 2).trans rfl
             have hcz30_3 : wc.cell? ⟨gb183, 3, none⟩ = some (.int .i64 ((zaj l1_0 x21_2).f3)) := (zac BK183.out 3).trans rfl
             have hcz30_4 : wc.cell? ⟨gb183, 4, none⟩ = some (.bool ((zaj l1_0 x21_2).f4)) := (zac BK183.out 4).trans rfl
             have hcz30_5 : wc.cell? ⟨gb183, 5, none⟩ = some (.string ((zaj l1_0 x21_2).f5)) := (zac BK183.out 5).trans rfl
             have hcz30_6 : wc.cell? ⟨gb183, 6, none⟩ = some (.slice A182_6 ((zaj l1_0 x21_2).f6).length c182_6) := (zac BK183.out 6).trans rfl
             have hfz30_0 := zaa BK183.out 0
             have hfz30_1 := zaa BK183.out 1
             have hfz30_2 := zaa BK183.out 2
             have hfz30_3 := zaa BK183.out 3
             have hfz30_4 := zaa BK183.out 4
             have hfz30_5 := zaa BK183.out 5
             have hfz30_6 := zaa BK183.out 6
             go_wp2_with (first | ((with_reducible refine zap (f := 30) rfl ?_); refine zau (some 42) rfl rfl Try.func30 (by kernel_rfl) rfl #[.slice A0 l0.length c0, .string ((zaj l1_0 x21_2).f5), .slice A182_6 ((zaj l1_0 x21_2).f6).length c182_6] rfl (by (try simp only [List.map_toArray, List.map_cons, List.map_nil]); first | done | rfl | (simp only [List.length_drop, List.length_take]; rfl)) ?_; (with_reducible refine (query_asks.calls _ _ l0 ((zaj l1_0 x21_2).f5) _ _ ((zaj l1_0 x21_2).f6) t185 _ ?side1 ?side2 ?side3 ?side4 A27.out).mono ?_); (case side1 => repeat (first | exact (Kd.C_below HR0.out HB.out) | (with_reducible refine Kd.C_alloc ?_ _) | (with_reducible refine Kd.C_drewN ?_ _) | (with_reducible refine Kd.C_drew ?_))); (case side2 => exact HC0.out); (case side3 => repeat (first | exact (Kd.C_below HR182_6.out HB.out) | (with_reducible refine Kd.C_alloc ?_ _) | (with_reducible refine Kd.C_drewN ?_ _) | (with_reducible refine Kd.C_drew ?_))); (case side4 => exact HC182_6.out); rintro e w31 ⟨rfl, hb⟩; refine ⟨_, rfl, ?_⟩; have n0_ := Aside0.mk (zak (g := gb170) (o := .cells #[.slice (some ad182) l1_0.length c1_0, .int .i64 a1_1, .int .i64 a1_2, .int .i64 a1_3, .int .i64 a1_4] 24 (0, 0)) (by (with_reducible repeat (first | refine zai ?_ _ | refine zal ?_ | refine zag ?_ _)); exact BK170.out) hb); have n1_ := Aside0.mk (zak (g := gb183) (o := .cells #[.string ((zaj l1_0 x21_2).f0), .slice A182_1 ((zaj l1_0 x21_2).f1).length c182_1, .int .i64 ((zaj l1_0 x21_2).f2), .int .i64 ((zaj l1_0 x21_2).f3), .bool ((zaj l1_0 x21_2).f4), .string ((zaj l1_0 x21_2).f5), .slice A182_6 ((zaj l1_0 x21_2).f6).length c182_6] 40 (0, 0)) (by (with_reducible repeat (first | refine zai ?_ _ | refine zal ?_ | refine zag ?_ _)); exact BK183.out) hb); have n2_ := Aside0.mk (zah (by repeat (first | (with_reducible first | exact HB.out | apply zab | apply zad | apply zae | refine zaf ?_ GE170.out | refine zaf ?_ GE183.out) | exact HB.out)) hb); clear BK170; clear BK183; clear HB; have BK170 := n0_; have BK183 := n1_; have HB := n2_; clear n0_ n1_ n2_; (try clear hb); (try clear hb2); (try clear hk); (try clear hi)))
             go_roundg kj17
             case measure => have := HJ2.out; have := HK2.out; have := HJ17.out; omega
             case rel => exact ⟨(wrap64 (x21_2 + 1)), (by first | rfl | (simp; done) | (simp [*]; done)), H', ⟨by have := HJ2.out; have := HK2.out; have := HJ17.out; omega⟩, ⟨by (with_reducible repeat (first | refine zai ?_ _ | refine zal ?_ | refine zag ?_ _)); exact BK170.out⟩, ⟨by repeat (first | (with_reducible first | exact HB.out | apply zab | apply zad | apply zae | refine zaf ?_ GE170.out | refine zaf ?_ GE183.out) | exact HB.out)⟩⟩
            ·rw [if_neg c28] at H
             have c28b0 : (t185 == 0) = false := beq_eq_false_iff_ne.mpr c28
             have c28b1 : (t185 != 0) = true := bne_iff_ne.mpr c28
             obtain rfl := Option.some.inj H
             have hnb32 := NB183_170.out
             have hnc32 := NB170_183.out
             have hcz33_0 : wc.cell? ⟨gb183, 0, none⟩ = some (.string ((zaj l1_0 x21_2).f0)) := (zac BK183.out 0).trans rfl
             have hcz33_1 : wc.cell? ⟨gb183, 1, none⟩ = some (.slice A182_1 ((zaj l1_0 x21_2).f1).length c182_1) := (zac BK183.out 1).trans rfl
             have hcz33_2 : wc.cell? ⟨gb183, 2, none⟩ = some (.int .i64 ((zaj l1_0 x21_2).f2)) := (zac BK183.out 2).trans rfl
             have hcz33_3 : wc.cell? ⟨gb183, 3, none⟩ = some (.int .i64 ((zaj l1_0 x21_2).f3)) := (zac BK183.out 3).trans rfl
             have hcz33_4 : wc.cell? ⟨gb183, 4, none⟩ = some (.bool ((zaj l1_0 x21_2).f4)) := (zac BK183.out 4).trans rfl
             have hcz33_5 : wc.cell? ⟨gb183, 5, none⟩ = some (.string ((zaj l1_0 x21_2).f5)) := (zac BK183.out 5).trans rfl
             have hcz33_6 : wc.cell? ⟨gb183, 6, none⟩ = some (.slice A182_6 ((zaj l1_0 x21_2).f6).length c182_6) := (zac BK183.out 6).trans rfl
             have hfz33_0 := zaa BK183.out 0
             have hfz33_1 := zaa BK183.out 1
             have hfz33_2 := zaa BK183.out 2
             have hfz33_3 := zaa BK183.out 3
             have hfz33_4 := zaa BK183.out 4
             have hfz33_5 := zaa BK183.out 5
             have hfz33_6 := zaa BK183.out 6
             go_wp2_with (first | ((with_reducible refine zap (f := 30) rfl ?_); refine zau (some 42) rfl rfl Try.func30 (by kernel_rfl) rfl #[.slice A0 l0.length c0, .string ((zaj l1_0 x21_2).f5), .slice A182_6 ((zaj l1_0 x21_2).f6).length c182_6] rfl (by (try simp only [List.map_toArray, List.map_cons, List.map_nil]); first | done | rfl | (simp only [List.length_drop, List.length_take]; rfl)) ?_; (with_reducible refine (query_asks.calls _ _ l0 ((zaj l1_0 x21_2).f5) _ _ ((zaj l1_0 x21_2).f6) t185 _ ?side1 ?side2 ?side3 ?side4 A27.out).mono ?_); (case side1 => repeat (first | exact (Kd.C_below HR0.out HB.out) | (with_reducible refine Kd.C_alloc ?_ _) | (with_reducible refine Kd.C_drewN ?_ _) | (with_reducible refine Kd.C_drew ?_))); (case side2 => exact HC0.out); (case side3 => repeat (first | exact (Kd.C_below HR182_6.out HB.out) | (with_reducible refine Kd.C_alloc ?_ _) | (with_reducible refine Kd.C_drewN ?_ _) | (with_reducible refine Kd.C_drew ?_))); (case side4 => exact HC182_6.out); rintro e w34 ⟨rfl, hb⟩; refine ⟨_, rfl, ?_⟩; have n0_ := Aside0.mk (zak (g := gb170) (o := .cells #[.slice (some ad182) l1_0.length c1_0, .int .i64 a1_1, .int .i64 a1_2, .int .i64 a1_3, .int .i64 a1_4] 24 (0, 0)) (by (with_reducible repeat (first | refine zai ?_ _ | refine zal ?_ | refine zag ?_ _)); exact BK170.out) hb); have n1_ := Aside0.mk (zak (g := gb183) (o := .cells #[.string ((zaj l1_0 x21_2).f0), .slice A182_1 ((zaj l1_0 x21_2).f1).length c182_1, .int .i64 ((zaj l1_0 x21_2).f2), .int .i64 ((zaj l1_0 x21_2).f3), .bool ((zaj l1_0 x21_2).f4), .string ((zaj l1_0 x21_2).f5), .slice A182_6 ((zaj l1_0 x21_2).f6).length c182_6] 40 (0, 0)) (by (with_reducible repeat (first | refine zai ?_ _ | refine zal ?_ | refine zag ?_ _)); exact BK183.out) hb); have n2_ := Aside0.mk (zah (by repeat (first | (with_reducible first | exact HB.out | apply zab | apply zad | apply zae | refine zaf ?_ GE170.out | refine zaf ?_ GE183.out) | exact HB.out)) hb); clear BK170; clear BK183; clear HB; have BK170 := n0_; have BK183 := n1_; have HB := n2_; clear n0_ n1_ n2_; (try clear hb); (try clear hb2); (try clear hk); (try clear hi)))
             go_ret
             exact ⟨by first | rfl | (simp [zan, zam] <;> rfl) | (simp [*, zan, zam] <;> rfl), by repeat (first | (with_reducible first | exact HB.out | apply zab | apply zad | apply zae | refine zaf ?_ GE170.out | refine zaf ?_ GE183.out) | exact HB.out)⟩
           ·replace c26 := Bool.eq_false_iff.mpr c26
            subst c26
            have H1 : (if t184 = 0 then (query_Check.l0 kj17 l0 l1_0 (l1_0.length : Int) (wrap64 (x21_2 + 1)) l1_0 a1_1 a1_2 a1_3 a1_4) else (some t184)) = some r := by rw [if_neg (show ¬ (false = true) by decide)] at H; exact H
            clear H
            have H := H1
            clear H1
            by_cases c35 : t184 = 0
            ·rw [if_pos c35] at H
             have c35b0 : (t184 == 0) = true := beq_iff_eq.mpr c35
             have c35b1 : (t184 != 0) = false := bne_eq_false_iff_eq.mpr c35
             clear c35
             have H' := Aside0.mk H
             clear H
             go_wp2
             go_roundg kj17
             case measure => have := HJ2.out; have := HK2.out; have := HJ17.out; omega
             case rel => exact ⟨(wrap64 (x21_2 + 1)), (by first | rfl | (simp; done) | (simp [*]; done)), H', ⟨by have := HJ2.out; have := HK2.out; have := HJ17.out; omega⟩, ⟨by (with_reducible repeat (first | refine zai ?_ _ | refine zal ?_ | refine zag ?_ _)); exact BK170.out⟩, ⟨by repeat (first | (with_reducible first | exact HB.out | apply zab | apply zad | apply zae | refine zaf ?_ GE170.out | refine zaf ?_ GE183.out) | exact HB.out)⟩⟩
            ·rw [if_neg c35] at H
             have c35b0 : (t184 == 0) = false := beq_eq_false_iff_ne.mpr c35
             have c35b1 : (t184 != 0) = true := bne_iff_ne.mpr c35
             obtain rfl := Option.some.inj H
             go_wp2
             go_ret
             exact ⟨by first | rfl | (simp [zan, zam] <;> rfl) | (simp [*, zan, zam] <;> rfl), by repeat (first | (with_reducible first | exact HB.out | apply zab | apply zad | apply zae | refine zaf ?_ GE170.out | refine zaf ?_ GE183.out) | exact HB.out)⟩
        ·rw [if_neg c16] at H
         exact absurd H (by simp)
       ·rw [if_neg c15] at H
        exact absurd H (by simp)
      ·rw [if_neg c14] at H
       have c14b0 : decide (x21_2 < (l1_0.length : Int)) = false := decide_eq_false c14
       clear c14
       by_cases c36 : 0 ≤ a1_3
       ·rw [if_pos c36] at H
        have c36b0 : decide (0 ≤ a1_3) = true := decide_eq_true c36
        clear c36
        by_cases c37 : a1_3 < (l1_0.length : Int)
        ·rw [if_pos c37] at H
         have c37b0 : decide (a1_3 < (l1_0.length : Int)) = true := decide_eq_true c37
         clear c37
         replace H := Option.bind_eq_some_iff.mp H
         obtain ⟨⟨t174, t175, t176, t179⟩, A380, H⟩ := H
         replace H : (if a1_2 = 0 then (some 0) else (if a1_4 < (t176.length : Int) then (if 0 ≤ a1_4 then (if ((zbc t176 a1_4).f1) = 0 then (some 0) else (some 5)) else (none)) else (some 5))) = some r := H
         have A38 := Aside0.mk A380
         clear A380
         by_cases c39 : a1_2 = 0
         ·rw [if_pos c39] at H
          have c39b0 : (a1_2 == 0) = true := beq_iff_eq.mpr c39
          have c39b1 : (a1_2 != 0) = false := bne_eq_false_iff_eq.mpr c39
          clear c39
          obtain rfl := Option.some.inj H
          have hcz40_0 : wr.cell? ⟨gb170, 0, none⟩ = some (.slice A1_0 l1_0.length c1_0) := (zac BK170.out 0).trans rfl
          have hcz40_1 : wr.cell? ⟨gb170, 1, none⟩ = some (.int .i64 a1_1) := (zac BK170.out 1).trans rfl
          have hcz40_2 : wr.cell? ⟨gb170, 2, none⟩ = some (.int .i64 a1_2) := (zac BK170.out 2).trans rfl
          have hcz40_3 : wr.cell? ⟨gb170, 3, none⟩ = some (.int .i64 a1_3) := (zac BK170.out 3).trans rfl
          have hcz40_4 : wr.cell? ⟨gb170, 4, none⟩ = some (.int .i64 a1_4) := (zac BK170.out 4).trans rfl
          have hfz40_0 := zaa BK170.out 0
          have hfz40_1 := zaa BK170.out 1
          have hfz40_2 := zaa BK170.out 2
          have hfz40_3 := zaa BK170.out 3
          have hfz40_4 := zaa BK170.out 4
          have p173 : 0 ≤ (a1_3 : Int) := of_decide_eq_true (by first | (with_reducible assumption) | assumption)
          have q173 : a1_3 < (l1_0.length : Int) := of_decide_eq_true (by first | (with_reducible assumption) | assumption)
          obtain ⟨ad173, A173_1, c173_1, A173_6, c173_6, e173, hx173_0, hx173_1, hx173_2, hx173_3, hx173_4, hx173_5, hx173_6, hl173_1, hi173_1, hl173_6, hi173_6⟩ := zbi HR1_0.out a1_3 p173 q173
          cases e173
          replace hx173_0 := (HB.out.cell (World.block_lt_of_cell? w _ hx173_0)).trans hx173_0
          replace hx173_1 := (HB.out.cell (World.block_lt_of_cell? w _ hx173_1)).trans hx173_1
          replace hx173_2 := (HB.out.cell (World.block_lt_of_cell? w _ hx173_2)).trans hx173_2
          replace hx173_3 := (HB.out.cell (World.block_lt_of_cell? w _ hx173_3)).trans hx173_3
          replace hx173_4 := (HB.out.cell (World.block_lt_of_cell? w _ hx173_4)).trans hx173_4
          replace hx173_5 := (HB.out.cell (World.block_lt_of_cell? w _ hx173_5)).trans hx173_5
          replace hx173_6 := (HB.out.cell (World.block_lt_of_cell? w _ hx173_6)).trans hx173_6
          have HR173_1 := Aside0.mk hi173_1
          have HC173_1 := Aside0.mk hl173_1
          clear hi173_1 hl173_1
          have HR173_6 := Aside0.mk hi173_6
          have HC173_6 := Aside0.mk hl173_6
          clear hi173_6 hl173_6
          replace p173 := eq_true p173
          replace q173 := eq_true q173
          go_wp2_with (first | ((with_reducible refine zap (f := 31) rfl ?_); refine zau (some 56) rfl rfl Try.func31 (by kernel_rfl) rfl #[.slice A0 l0.length c0, .string ((zaj l1_0 a1_3).f0)] rfl (by (try simp only [List.map_toArray, List.map_cons, List.map_nil]); first | done | rfl | (simp only [List.length_drop, List.length_take]; rfl)) ?_; (with_reducible refine (registry_Find.calls _ _ l0 ((zaj l1_0 a1_3).f0) t174 t175 t176 t179 _ ?side1 ?side2 A38.out).mono ?_); (case side1 => repeat (first | exact (Kd.C_below HR0.out HB.out) | (with_reducible refine Kd.C_alloc ?_ _) | (with_reducible refine Kd.C_drewN ?_ _) | (with_reducible refine Kd.C_drew ?_))); (case side2 => exact HC0.out); rintro e w41 ⟨v177, rfl, ho0, hb⟩; refine ⟨_, rfl, ?_⟩; have n0_ := Aside0.mk (Kd.R_lower ho0 (zao (by repeat (first | (with_reducible first | exact HB.out | apply zab | apply zad | apply zae | refine zaf ?_ GE170.out) | exact HB.out)))); have n1_ := Aside0.mk (zak (g := gb170) (o := .cells #[.slice (some ad173) l1_0.length c1_0, .int .i64 a1_1, .int .i64 a1_2, .int .i64 a1_3, .int .i64 a1_4] 24 (0, 0)) (by (with_reducible repeat (first | refine zai ?_ _ | refine zal ?_ | refine zag ?_ _)); exact BK170.out) hb); have n2_ := Aside0.mk (zah (by repeat (first | (with_reducible first | exact HB.out | apply zab | apply zad | apply zae | refine zaf ?_ GE170.out) | exact HB.out)) hb); clear BK170; clear HB; have HO178 := n0_; have BK170 := n1_; have HB := n2_; clear n0_ n1_ n2_; (try clear hb); (try clear hb2); (try clear hk); (try clear hi); (try clear ho0)) | ((with_reducible refine zaw (N := 8) rfl ?_); (try (refine zaQ (by rfl) ?_; dsimp only)); refine zas ?hg (N := 8) ?hd (cs := #[.string (⟨#[]⟩ : ByteArray), .int .i64 0, .slice none 0 0]) (t := 43) ?hr ?_; (case hd => rfl); (case hg => rfl); (case hr => first | (go_simp; done) | (go_simp; rfl)); intro gb180 hg w42 hbox hb; have n0_ := Aside0.mk (Kd.R_below (by (with_reducible repeat (first | apply Kd.R_alloc | apply Kd.R_drewN | apply Kd.R_drew)); exact HO178.out) hb); have n1_ := Aside0.mk (zak (g := gb170) (o := .cells #[.slice (some ad173) l1_0.length c1_0, .int .i64 a1_1, .int .i64 a1_2, .int .i64 a1_3, .int .i64 a1_4] 24 (0, 0)) (by (with_reducible repeat (first | refine zai ?_ _ | refine zal ?_ | refine zag ?_ _)); exact BK170.out) hb); have n2_ := Aside0.mk (zah (by repeat (first | (with_reducible first | exact HB.out | apply zab | apply zad | apply zae | refine zaf ?_ GE170.out) | exact HB.out)) hb); have n3_ := Aside0.mk (hbox); have n4_ := Aside0.mk ((by rw [hg]; exact (zao (by repeat (first | (with_reducible first | exact HB.out | apply zab | apply zad | apply zae | refine zaf ?_ GE170.out) | exact HB.out))) : w.heap.size ≤ gb180)); have n5_ := Aside0.mk ((by rw [hg]; exact (zao (by repeat (first | (with_reducible first | exact HB.out | apply zab | apply zad | apply zae | refine zaf ?_ GE170.out) | exact HB.out))) : w.heap.size ≤ gb180)); have n6_ := Aside0.mk ((by rw [hg]; exact Nat.ne_of_lt (zaA (g := gb170) (o := .cells #[.slice (some ad173) l1_0.length c1_0, .int .i64 a1_1, .int .i64 a1_2, .int .i64 a1_3, .int .i64 a1_4] 24 (0, 0)) (by (with_reducible repeat (first | refine zai ?_ _ | refine zal ?_ | refine zag ?_ _)); exact BK170.out)) : gb170 ≠ gb180)); have n7_ := Aside0.mk ((by rw [hg]; exact Nat.ne_of_gt (zaA (g := gb170) (o := .cells #[.slice (some ad173) l1_0.length c1_0, .int .i64 a1_1, .int .i64 a1_2, .int .i64 a1_3, .int .i64 a1_4] 24 (0, 0)) (by (with_reducible repeat (first | refine zai ?_ _ | refine zal ?_ | refine zag ?_ _)); exact BK170.out)) : gb180 ≠ gb170)); clear HO178; clear BK170; clear HB; have HO178 := n0_; have BK170 := n1_; have HB := n2_; have BK180 := n3_; have GW180 := n4_; have GE180 := n5_; have NB170_180 := n6_; have NB180_170 := n7_; clear n0_ n1_ n2_ n3_ n4_ n5_ n6_ n7_; clear hb hbox hg; have hnb43 := NB180_170.out; have hnc43 := NB170_180.out; have hcz44_0 : w42.cell? ⟨gb180, 0, none⟩ = some (.string (⟨#[]⟩ : ByteArray)) := (zac BK180.out 0).trans rfl; have hcz44_1 : w42.cell? ⟨gb180, 1, none⟩ = some (.int .i64 0) := (zac BK180.out 1).trans rfl; have hcz44_2 : w42.cell? ⟨gb180, 2, none⟩ = some (.slice none 0 0) := (zac BK180.out 2).trans rfl; have hfz44_0 := zaa BK180.out 0; have hfz44_1 := zaa BK180.out 1; have hfz44_2 := zaa BK180.out 2; obtain ⟨Ao45, co45, eo45⟩ := Kd.R_slice HO178.out; subst eo45; have hcz46_0 : w42.cell? ⟨gb170, 0, none⟩ = some (.slice (some ad173) l1_0.length c1_0) := (zac BK170.out 0).trans rfl; have hcz46_1 : w42.cell? ⟨gb170, 1, none⟩ = some (.int .i64 a1_1) := (zac BK170.out 1).trans rfl; have hcz46_2 : w42.cell? ⟨gb170, 2, none⟩ = some (.int .i64 a1_2) := (zac BK170.out 2).trans rfl; have hcz46_3 : w42.cell? ⟨gb170, 3, none⟩ = some (.int .i64 a1_3) := (zac BK170.out 3).trans rfl; have hcz46_4 : w42.cell? ⟨gb170, 4, none⟩ = some (.int .i64 a1_4) := (zac BK170.out 4).trans rfl; have hfz46_0 := zaa BK170.out 0; have hfz46_1 := zaa BK170.out 1; have hfz46_2 := zaa BK170.out 2; have hfz46_3 := zaa BK170.out 3; have hfz46_4 := zaa BK170.out 4))
          go_ret
          exact ⟨by first | rfl | (simp [zan, zam] <;> rfl) | (simp [*, zan, zam] <;> rfl), by repeat (first | (with_reducible first | exact HB.out | apply zab | apply zad | apply zae | refine zaf ?_ GE170.out | refine zaf ?_ GE180.out) | exact HB.out)⟩
         ·rw [if_neg c39] at H
          have c39b0 : (a1_2 == 0) = false := beq_eq_false_iff_ne.mpr c39
          have c39b1 : (a1_2 != 0) = true := bne_iff_ne.mpr c39
          by_cases c47 : a1_4 < (t176.length : Int)
          ·rw [if_pos c47] at H
           have c47b0 : decide (a1_4 < (t176.length : Int)) = true := decide_eq_true c47
           clear c47
           by_cases c48 : 0 ≤ a1_4
           ·rw [if_pos c48] at H
            have c48b0 : decide (0 ≤ a1_4) = true := decide_eq_true c48
            clear c48
            by_cases c49 : ((zbc t176 a1_4).f1) = 0
            ·rw [if_pos c49] at H
             have c49b0 : (((zbc t176 a1_4).f1) == 0) = true := beq_iff_eq.mpr c49
             have c49b1 : (((zbc t176 a1_4).f1) != 0) = false := bne_eq_false_iff_eq.mpr c49
             clear c49
             obtain rfl := Option.some.inj H
             have hcz50_0 : wr.cell? ⟨gb170, 0, none⟩ = some (.slice A1_0 l1_0.length c1_0) := (zac BK170.out 0).trans rfl
             have hcz50_1 : wr.cell? ⟨gb170, 1, none⟩ = some (.int .i64 a1_1) := (zac BK170.out 1).trans rfl
             have hcz50_2 : wr.cell? ⟨gb170, 2, none⟩ = some (.int .i64 a1_2) := (zac BK170.out 2).trans rfl
             have hcz50_3 : wr.cell? ⟨gb170, 3, none⟩ = some (.int .i64 a1_3) := (zac BK170.out 3).trans rfl
             have hcz50_4 : wr.cell? ⟨gb170, 4, none⟩ = some (.int .i64 a1_4) := (zac BK170.out 4).trans rfl
             have hfz50_0 := zaa BK170.out 0
             have hfz50_1 := zaa BK170.out 1
             have hfz50_2 := zaa BK170.out 2
             have hfz50_3 := zaa BK170.out 3
             have hfz50_4 := zaa BK170.out 4
             have p173 : 0 ≤ (a1_3 : Int) := of_decide_eq_true (by first | (with_reducible assumption) | assumption)
             have q173 : a1_3 < (l1_0.length : Int) := of_decide_eq_true (by first | (with_reducible assumption) | assumption)
             obtain ⟨ad173, A173_1, c173_1, A173_6, c173_6, e173, hx173_0, hx173_1, hx173_2, hx173_3, hx173_4, hx173_5, hx173_6, hl173_1, hi173_1, hl173_6, hi173_6⟩ := zbi HR1_0.out a1_3 p173 q173
             cases e173
             replace hx173_0 := (HB.out.cell (World.block_lt_of_cell? w _ hx173_0)).trans hx173_0
             replace hx173_1 := (HB.out.cell (World.block_lt_of_cell? w _ hx173_1)).trans hx173_1
             replace hx173_2 := (HB.out.cell (World.block_lt_of_cell? w _ hx173_2)).trans hx173_2
             replace hx173_3 := (HB.out.cell (World.block_lt_of_cell? w _ hx173_3)).trans hx173_3
             replace hx173_4 := (HB.out.cell (World.block_lt_of_cell? w _ hx173_4)).trans hx173_4
             replace hx173_5 := (HB.out.cell (World.block_lt_of_cell? w _ hx173_5)).trans hx173_5
             replace hx173_6 := (HB.out.cell (World.block_lt_of_cell? w _ hx173_6)).trans hx173_6
             have HR173_1 := Aside0.mk hi173_1
             have HC173_1 := Aside0.mk hl173_1
             clear hi173_1 hl173_1
             have HR173_6 := Aside0.mk hi173_6
             have HC173_6 := Aside0.mk hl173_6
             clear hi173_6 hl173_6
             replace p173 := eq_true p173
             replace q173 := eq_true q173
             go_wp2_with (first | ((with_reducible refine zap (f := 31) rfl ?_); refine zau (some 56) rfl rfl Try.func31 (by kernel_rfl) rfl #[.slice A0 l0.length c0, .string ((zaj l1_0 a1_3).f0)] rfl (by (try simp only [List.map_toArray, List.map_cons, List.map_nil]); first | done | rfl | (simp only [List.length_drop, List.length_take]; rfl)) ?_; (with_reducible refine (registry_Find.calls _ _ l0 ((zaj l1_0 a1_3).f0) t174 t175 t176 t179 _ ?side1 ?side2 A38.out).mono ?_); (case side1 => repeat (first | exact (Kd.C_below HR0.out HB.out) | (with_reducible refine Kd.C_alloc ?_ _) | (with_reducible refine Kd.C_drewN ?_ _) | (with_reducible refine Kd.C_drew ?_))); (case side2 => exact HC0.out); rintro e w51 ⟨v177, rfl, ho0, hb⟩; refine ⟨_, rfl, ?_⟩; obtain ⟨Az_, cz_, hz_⟩ := Kd.R_slice ho0; subst hz_; obtain ⟨zk1_, zk2_, zk3_, zk4_⟩ := know (zat w51 (.cells #[.string t174, .int .i64 t175, .slice Az_ t176.length cz_] 43)); have zp_ : 0 ≤ (a1_4 : Int) := of_decide_eq_true (by assumption); have zq_ : a1_4 < (t176.length : Int) := of_decide_eq_true (by assumption); obtain ⟨adz_, ez_, hz0_, hz1_⟩ := at_TField (Kd.R_reads' ho0).2.2 a1_4 zp_ zq_; replace zp_ := eq_true zp_; replace zq_ := eq_true zq_; cases ez_; have hz0o_ := fun (o : Obj) => zav o hz0_; have hz1o_ := fun (o : Obj) => zav o hz1_; have n0_ := Aside0.mk (Kd.R_lower ho0 (zao (by repeat (first | (with_reducible first | exact HB.out | apply zab | apply zad | apply zae | refine zaf ?_ GE170.out) | exact HB.out)))); have n1_ := Aside0.mk (zak (g := gb170) (o := .cells #[.slice (some ad173) l1_0.length c1_0, .int .i64 a1_1, .int .i64 a1_2, .int .i64 a1_3, .int .i64 a1_4] 24 (0, 0)) (by (with_reducible repeat (first | refine zai ?_ _ | refine zal ?_ | refine zag ?_ _)); exact BK170.out) hb); have n2_ := Aside0.mk (zah (by repeat (first | (with_reducible first | exact HB.out | apply zab | apply zad | apply zae | refine zaf ?_ GE170.out) | exact HB.out)) hb); clear BK170; clear HB; have HO178 := n0_; have BK170 := n1_; have HB := n2_; clear n0_ n1_ n2_; obtain ⟨zb1_, zb2_, zb3_, zb4_⟩ := know BK170.out; (try clear hb); (try clear hb2); (try clear hk); (try clear hi); (try clear ho0)) | ((with_reducible refine zaw (N := 8) rfl ?_); (try (refine zaQ (by rfl) ?_; dsimp only)); refine zas ?hg (N := 8) ?hd (cs := #[.string (⟨#[]⟩ : ByteArray), .int .i64 0, .slice none 0 0]) (t := 43) ?hr ?_; (case hd => rfl); (case hg => rfl); (case hr => first | (go_simp; done) | (go_simp; rfl)); intro gb180 hg w52 hbox hb; have n0_ := Aside0.mk (Kd.R_below (by (with_reducible repeat (first | apply Kd.R_alloc | apply Kd.R_drewN | apply Kd.R_drew)); exact HO178.out) hb); have n1_ := Aside0.mk (zak (g := gb170) (o := .cells #[.slice (some ad173) l1_0.length c1_0, .int .i64 a1_1, .int .i64 a1_2, .int .i64 a1_3, .int .i64 a1_4] 24 (0, 0)) (by (with_reducible repeat (first | refine zai ?_ _ | refine zal ?_ | refine zag ?_ _)); exact BK170.out) hb); have n2_ := Aside0.mk (zah (by repeat (first | (with_reducible first | exact HB.out | apply zab | apply zad | apply zae | refine zaf ?_ GE170.out) | exact HB.out)) hb); have n3_ := Aside0.mk (hbox); have n4_ := Aside0.mk ((by rw [hg]; exact (zao (by repeat (first | (with_reducible first | exact HB.out | apply zab | apply zad | apply zae | refine zaf ?_ GE170.out) | exact HB.out))) : w.heap.size ≤ gb180)); have n5_ := Aside0.mk ((by rw [hg]; exact (zao (by repeat (first | (with_reducible first | exact HB.out | apply zab | apply zad | apply zae | refine zaf ?_ GE170.out) | exact HB.out))) : w.heap.size ≤ gb180)); have n6_ := Aside0.mk ((by rw [hg]; exact Nat.ne_of_lt (zaA (g := gb170) (o := .cells #[.slice (some ad173) l1_0.length c1_0, .int .i64 a1_1, .int .i64 a1_2, .int .i64 a1_3, .int .i64 a1_4] 24 (0, 0)) (by (with_reducible repeat (first | refine zai ?_ _ | refine zal ?_ | refine zag ?_ _)); exact BK170.out)) : gb170 ≠ gb180)); have n7_ := Aside0.mk ((by rw [hg]; exact Nat.ne_of_gt (zaA (g := gb170) (o := .cells #[.slice (some ad173) l1_0.length c1_0, .int .i64 a1_1, .int .i64 a1_2, .int .i64 a1_3, .int .i64 a1_4] 24 (0, 0)) (by (with_reducible repeat (first | refine zai ?_ _ | refine zal ?_ | refine zag ?_ _)); exact BK170.out)) : gb180 ≠ gb170)); clear HO178; clear BK170; clear HB; have HO178 := n0_; have BK170 := n1_; have HB := n2_; have BK180 := n3_; have GW180 := n4_; have GE180 := n5_; have NB170_180 := n6_; have NB180_170 := n7_; clear n0_ n1_ n2_ n3_ n4_ n5_ n6_ n7_; clear hb hbox hg; have hnb53 := NB180_170.out; have hnc53 := NB170_180.out; have hcz54_0 : w52.cell? ⟨gb180, 0, none⟩ = some (.string (⟨#[]⟩ : ByteArray)) := (zac BK180.out 0).trans rfl; have hcz54_1 : w52.cell? ⟨gb180, 1, none⟩ = some (.int .i64 0) := (zac BK180.out 1).trans rfl; have hcz54_2 : w52.cell? ⟨gb180, 2, none⟩ = some (.slice none 0 0) := (zac BK180.out 2).trans rfl; have hfz54_0 := zaa BK180.out 0; have hfz54_1 := zaa BK180.out 1; have hfz54_2 := zaa BK180.out 2; obtain ⟨Ao55, co55, eo55⟩ := Kd.R_slice HO178.out; subst eo55; have hcz56_0 : w52.cell? ⟨gb170, 0, none⟩ = some (.slice (some ad173) l1_0.length c1_0) := (zac BK170.out 0).trans rfl; have hcz56_1 : w52.cell? ⟨gb170, 1, none⟩ = some (.int .i64 a1_1) := (zac BK170.out 1).trans rfl; have hcz56_2 : w52.cell? ⟨gb170, 2, none⟩ = some (.int .i64 a1_2) := (zac BK170.out 2).trans rfl; have hcz56_3 : w52.cell? ⟨gb170, 3, none⟩ = some (.int .i64 a1_3) := (zac BK170.out 3).trans rfl; have hcz56_4 : w52.cell? ⟨gb170, 4, none⟩ = some (.int .i64 a1_4) := (zac BK170.out 4).trans rfl; have hfz56_0 := zaa BK170.out 0; have hfz56_1 := zaa BK170.out 1; have hfz56_2 := zaa BK170.out 2; have hfz56_3 := zaa BK170.out 3; have hfz56_4 := zaa BK170.out 4; have p181 : 0 ≤ (a1_4 : Int) := of_decide_eq_true (by first | (with_reducible assumption) | assumption); have q181 : a1_4 < (t176.length : Int) := of_decide_eq_true (by first | (with_reducible assumption) | assumption); obtain ⟨ad181, e181, hx181_0, hx181_1⟩ := at_TField (Kd.R_reads' HO178.out).2.2 a1_4 p181 q181; cases e181; have hn181_0 : ad181.block ≠ gb180 := Kd.own_blk (Kd.R_ne HO178.out BK180.out (by decide)); have hn181_1 : ad181.block ≠ gb180 := Kd.own_blk (Kd.R_ne HO178.out BK180.out (by decide)); have hn181_2 : ad181.block ≠ gb180 := Kd.own_blk (Kd.R_ne HO178.out BK180.out (by decide)); replace hx181_0 := (zbh (p := ⟨gb180, 0, none⟩) (by first | (rw [zaF]; exact hn181_0) | (show (Addr.add _ _).block ≠ _; rw [zaF]; exact hn181_0) | exact hn181_0) (.string t174)).trans hx181_0; replace hx181_1 := (zbh (p := ⟨gb180, 0, none⟩) (by first | (rw [zaF]; exact hn181_0) | (show (Addr.add _ _).block ≠ _; rw [zaF]; exact hn181_0) | exact hn181_0) (.string t174)).trans hx181_1; replace hx181_0 := (zbh (p := ⟨gb180, 1, none⟩) (by first | (rw [zaF]; exact hn181_1) | (show (Addr.add _ _).block ≠ _; rw [zaF]; exact hn181_1) | exact hn181_1) (.int .i64 t175)).trans hx181_0; replace hx181_1 := (zbh (p := ⟨gb180, 1, none⟩) (by first | (rw [zaF]; exact hn181_1) | (show (Addr.add _ _).block ≠ _; rw [zaF]; exact hn181_1) | exact hn181_1) (.int .i64 t175)).trans hx181_1; replace hx181_0 := (zbh (p := ⟨gb180, 2, none⟩) (by first | (rw [zaF]; exact hn181_2) | (show (Addr.add _ _).block ≠ _; rw [zaF]; exact hn181_2) | exact hn181_2) (.slice (some ad181) t176.length co55)).trans hx181_0; replace hx181_1 := (zbh (p := ⟨gb180, 2, none⟩) (by first | (rw [zaF]; exact hn181_2) | (show (Addr.add _ _).block ≠ _; rw [zaF]; exact hn181_2) | exact hn181_2) (.slice (some ad181) t176.length co55)).trans hx181_1; clear hn181_0; clear hn181_1; clear hn181_2; replace p181 := eq_true p181; replace q181 := eq_true q181))
             go_ret
             exact ⟨by first | rfl | (simp [zan, zam] <;> rfl) | (simp [*, zan, zam] <;> rfl), by repeat (first | (with_reducible first | exact HB.out | apply zab | apply zad | apply zae | refine zaf ?_ GE170.out | refine zaf ?_ GE180.out) | exact HB.out)⟩
            ·rw [if_neg c49] at H
             have c49b0 : (((zbc t176 a1_4).f1) == 0) = false := beq_eq_false_iff_ne.mpr c49
             have c49b1 : (((zbc t176 a1_4).f1) != 0) = true := bne_iff_ne.mpr c49
             obtain rfl := Option.some.inj H
             have hcz57_0 : wr.cell? ⟨gb170, 0, none⟩ = some (.slice A1_0 l1_0.length c1_0) := (zac BK170.out 0).trans rfl
             have hcz57_1 : wr.cell? ⟨gb170, 1, none⟩ = some (.int .i64 a1_1) := (zac BK170.out 1).trans rfl
             have hcz57_2 : wr.cell? ⟨gb170, 2, none⟩ = some (.int .i64 a1_2) := (zac BK170.out 2).trans rfl
             have hcz57_3 : wr.cell? ⟨gb170, 3, none⟩ = some (.int .i64 a1_3) := (zac BK170.out 3).trans rfl
             have hcz57_4 : wr.cell? ⟨gb170, 4, none⟩ = some (.int .i64 a1_4) := (zac BK170.out 4).trans rfl
             have hfz57_0 := zaa BK170.out 0
             have hfz57_1 := zaa BK170.out 1
             have hfz57_2 := zaa BK170.out 2
             have hfz57_3 := zaa BK170.out 3
             have hfz57_4 := zaa BK170.out 4
             have p173 : 0 ≤ (a1_3 : Int) := of_decide_eq_true (by first | (with_reducible assumption) | assumption)
             have q173 : a1_3 < (l1_0.length : Int) := of_decide_eq_true (by first | (with_reducible assumption) | assumption)
             obtain ⟨ad173, A173_1, c173_1, A173_6, c173_6, e173, hx173_0, hx173_1, hx173_2, hx173_3, hx173_4, hx173_5, hx173_6, hl173_1, hi173_1, hl173_6, hi173_6⟩ := zbi HR1_0.out a1_3 p173 q173
             cases e173
             replace hx173_0 := (HB.out.cell (World.block_lt_of_cell? w _ hx173_0)).trans hx173_0
             replace hx173_1 := (HB.out.cell (World.block_lt_of_cell? w _ hx173_1)).trans hx173_1
             replace hx173_2 := (HB.out.cell (World.block_lt_of_cell? w _ hx173_2)).trans hx173_2
             replace hx173_3 := (HB.out.cell (World.block_lt_of_cell? w _ hx173_3)).trans hx173_3
             replace hx173_4 := (HB.out.cell (World.block_lt_of_cell? w _ hx173_4)).trans hx173_4
             replace hx173_5 := (HB.out.cell (World.block_lt_of_cell? w _ hx173_5)).trans hx173_5
             replace hx173_6 := (HB.out.cell (World.block_lt_of_cell? w _ hx173_6)).trans hx173_6
             have HR173_1 := Aside0.mk hi173_1
             have HC173_1 := Aside0.mk hl173_1
             clear hi173_1 hl173_1
             have HR173_6 := Aside0.mk hi173_6
             have HC173_6 := Aside0.mk hl173_6
             clear hi173_6 hl173_6
             replace p173 := eq_true p173
             replace q173 := eq_true q173
             go_wp2_with (first | ((with_reducible refine zap (f := 31) rfl ?_); refine zau (some 56) rfl rfl Try.func31 (by kernel_rfl) rfl #[.slice A0 l0.length c0, .string ((zaj l1_0 a1_3).f0)] rfl (by (try simp only [List.map_toArray, List.map_cons, List.map_nil]); first | done | rfl | (simp only [List.length_drop, List.length_take]; rfl)) ?_; (with_reducible refine (registry_Find.calls _ _ l0 ((zaj l1_0 a1_3).f0) t174 t175 t176 t179 _ ?side1 ?side2 A38.out).mono ?_); (case side1 => repeat (first | exact (Kd.C_below HR0.out HB.out) | (with_reducible refine Kd.C_alloc ?_ _) | (with_reducible refine Kd.C_drewN ?_ _) | (with_reducible refine Kd.C_drew ?_))); (case side2 => exact HC0.out); rintro e w58 ⟨v177, rfl, ho0, hb⟩; refine ⟨_, rfl, ?_⟩; obtain ⟨Az_, cz_, hz_⟩ := Kd.R_slice ho0; subst hz_; obtain ⟨zk1_, zk2_, zk3_, zk4_⟩ := know (zat w58 (.cells #[.string t174, .int .i64 t175, .slice Az_ t176.length cz_] 43)); have zp_ : 0 ≤ (a1_4 : Int) := of_decide_eq_true (by assumption); have zq_ : a1_4 < (t176.length : Int) := of_decide_eq_true (by assumption); obtain ⟨adz_, ez_, hz0_, hz1_⟩ := at_TField (Kd.R_reads' ho0).2.2 a1_4 zp_ zq_; replace zp_ := eq_true zp_; replace zq_ := eq_true zq_; cases ez_; have hz0o_ := fun (o : Obj) => zav o hz0_; have hz1o_ := fun (o : Obj) => zav o hz1_; have n0_ := Aside0.mk (Kd.R_lower ho0 (zao (by repeat (first | (with_reducible first | exact HB.out | apply zab | apply zad | apply zae | refine zaf ?_ GE170.out) | exact HB.out)))); have n1_ := Aside0.mk (zak (g := gb170) (o := .cells #[.slice (some ad173) l1_0.length c1_0, .int .i64 a1_1, .int .i64 a1_2, .int .i64 a1_3, .int .i64 a1_4] 24 (0, 0)) (by (with_reducible repeat (first | refine zai ?_ _ | refine zal ?_ | refine zag ?_ _)); exact BK170.out) hb); have n2_ := Aside0.mk (zah (by repeat (first | (with_reducible first | exact HB.out | apply zab | apply zad | apply zae | refine zaf ?_ GE170.out) | exact HB.out)) hb); clear BK170; clear HB; have HO178 := n0_; have BK170 := n1_; have HB := n2_; clear n0_ n1_ n2_; obtain ⟨zb1_, zb2_, zb3_, zb4_⟩ := know BK170.out; (try clear hb); (try clear hb2); (try clear hk); (try clear hi); (try clear ho0)) | ((with_reducible refine zaw (N := 8) rfl ?_); (try (refine zaQ (by rfl) ?_; dsimp only)); refine zas ?hg (N := 8) ?hd (cs := #[.string (⟨#[]⟩ : ByteArray), .int .i64 0, .slice none 0 0]) (t := 43) ?hr ?_; (case hd => rfl); (case hg => rfl); (case hr => first | (go_simp; done) | (go_simp; rfl)); intro gb180 hg w59 hbox hb; have n0_ := Aside0.mk (Kd.R_below (by (with_reducible repeat (first | apply Kd.R_alloc | apply Kd.R_drewN | apply Kd.R_drew)); exact HO178.out) hb); have n1_ := Aside0.mk (zak (g := gb170) (o := .cells #[.slice (some ad173) l1_0.length c1_0, .int .i64 a1_1, .int .i64 a1_2, .int .i64 a1_3, .int .i64 a1_4] 24 (0, 0)) (by (with_reducible repeat (first | refine zai ?_ _ | refine zal ?_ | refine zag ?_ _)); exact BK170.out) hb); have n2_ := Aside0.mk (zah (by repeat (first | (with_reducible first | exact HB.out | apply zab | apply zad | apply zae | refine zaf ?_ GE170.out) | exact HB.out)) hb); have n3_ := Aside0.mk (hbox); have n4_ := Aside0.mk ((by rw [hg]; exact (zao (by repeat (first | (with_reducible first | exact HB.out | apply zab | apply zad | apply zae | refine zaf ?_ GE170.out) | exact HB.out))) : w.heap.size ≤ gb180)); have n5_ := Aside0.mk ((by rw [hg]; exact (zao (by repeat (first | (with_reducible first | exact HB.out | apply zab | apply zad | apply zae | refine zaf ?_ GE170.out) | exact HB.out))) : w.heap.size ≤ gb180)); have n6_ := Aside0.mk ((by rw [hg]; exact Nat.ne_of_lt (zaA (g := gb170) (o := .cells #[.slice (some ad173) l1_0.length c1_0, .int .i64 a1_1, .int .i64 a1_2, .int .i64 a1_3, .int .i64 a1_4] 24 (0, 0)) (by (with_reducible repeat (first | refine zai ?_ _ | refine zal ?_ | refine zag ?_ _)); exact BK170.out)) : gb170 ≠ gb180)); have n7_ := Aside0.mk ((by rw [hg]; exact Nat.ne_of_gt (zaA (g := gb170) (o := .cells #[.slice (some ad173) l1_0.length c1_0, .int .i64 a1_1, .int .i64 a1_2, .int .i64 a1_3, .int .i64 a1_4] 24 (0, 0)) (by (with_reducible repeat (first | refine zai ?_ _ | refine zal ?_ | refine zag ?_ _)); exact BK170.out)) : gb180 ≠ gb170)); clear HO178; clear BK170; clear HB; have HO178 := n0_; have BK170 := n1_; have HB := n2_; have BK180 := n3_; have GW180 := n4_; have GE180 := n5_; have NB170_180 := n6_; have NB180_170 := n7_; clear n0_ n1_ n2_ n3_ n4_ n5_ n6_ n7_; clear hb hbox hg; have hnb60 := NB180_170.out; have hnc60 := NB170_180.out; have hcz61_0 : w59.cell? ⟨gb180, 0, none⟩ = some (.string (⟨#[]⟩ : ByteArray)) := (zac BK180.out 0).trans rfl; have hcz61_1 : w59.cell? ⟨gb180, 1, none⟩ = some (.int .i64 0) := (zac BK180.out 1).trans rfl; have hcz61_2 : w59.cell? ⟨gb180, 2, none⟩ = some (.slice none 0 0) := (zac BK180.out 2).trans rfl; have hfz61_0 := zaa BK180.out 0; have hfz61_1 := zaa BK180.out 1; have hfz61_2 := zaa BK180.out 2; obtain ⟨Ao62, co62, eo62⟩ := Kd.R_slice HO178.out; subst eo62; have hcz63_0 : w59.cell? ⟨gb170, 0, none⟩ = some (.slice (some ad173) l1_0.length c1_0) := (zac BK170.out 0).trans rfl; have hcz63_1 : w59.cell? ⟨gb170, 1, none⟩ = some (.int .i64 a1_1) := (zac BK170.out 1).trans rfl; have hcz63_2 : w59.cell? ⟨gb170, 2, none⟩ = some (.int .i64 a1_2) := (zac BK170.out 2).trans rfl; have hcz63_3 : w59.cell? ⟨gb170, 3, none⟩ = some (.int .i64 a1_3) := (zac BK170.out 3).trans rfl; have hcz63_4 : w59.cell? ⟨gb170, 4, none⟩ = some (.int .i64 a1_4) := (zac BK170.out 4).trans rfl; have hfz63_0 := zaa BK170.out 0; have hfz63_1 := zaa BK170.out 1; have hfz63_2 := zaa BK170.out 2; have hfz63_3 := zaa BK170.out 3; have hfz63_4 := zaa BK170.out 4; have p181 : 0 ≤ (a1_4 : Int) := of_decide_eq_true (by first | (with_reducible assumption) | assumption); have q181 : a1_4 < (t176.length : Int) := of_decide_eq_true (by first | (with_reducible assumption) | assumption); obtain ⟨ad181, e181, hx181_0, hx181_1⟩ := at_TField (Kd.R_reads' HO178.out).2.2 a1_4 p181 q181; cases e181; have hn181_0 : ad181.block ≠ gb180 := Kd.own_blk (Kd.R_ne HO178.out BK180.out (by decide)); have hn181_1 : ad181.block ≠ gb180 := Kd.own_blk (Kd.R_ne HO178.out BK180.out (by decide)); have hn181_2 : ad181.block ≠ gb180 := Kd.own_blk (Kd.R_ne HO178.out BK180.out (by decide)); replace hx181_0 := (zbh (p := ⟨gb180, 0, none⟩) (by first | (rw [zaF]; exact hn181_0) | (show (Addr.add _ _).block ≠ _; rw [zaF]; exact hn181_0) | exact hn181_0) (.string t174)).trans hx181_0; replace hx181_1 := (zbh (p := ⟨gb180, 0, none⟩) (by first | (rw [zaF]; exact hn181_0) | (show (Addr.add _ _).block ≠ _; rw [zaF]; exact hn181_0) | exact hn181_0) (.string t174)).trans hx181_1; replace hx181_0 := (zbh (p := ⟨gb180, 1, none⟩) (by first | (rw [zaF]; exact hn181_1) | (show (Addr.add _ _).block ≠ _; rw [zaF]; exact hn181_1) | exact hn181_1) (.int .i64 t175)).trans hx181_0; replace hx181_1 := (zbh (p := ⟨gb180, 1, none⟩) (by first | (rw [zaF]; exact hn181_1) | (show (Addr.add _ _).block ≠ _; rw [zaF]; exact hn181_1) | exact hn181_1) (.int .i64 t175)).trans hx181_1; replace hx181_0 := (zbh (p := ⟨gb180, 2, none⟩) (by first | (rw [zaF]; exact hn181_2) | (show (Addr.add _ _).block ≠ _; rw [zaF]; exact hn181_2) | exact hn181_2) (.slice (some ad181) t176.length co62)).trans hx181_0; replace hx181_1 := (zbh (p := ⟨gb180, 2, none⟩) (by first | (rw [zaF]; exact hn181_2) | (show (Addr.add _ _).block ≠ _; rw [zaF]; exact hn181_2) | exact hn181_2) (.slice (some ad181) t176.length co62)).trans hx181_1; clear hn181_0; clear hn181_1; clear hn181_2; replace p181 := eq_true p181; replace q181 := eq_true q181))
             go_ret
             exact ⟨by first | rfl | (simp [zan, zam] <;> rfl) | (simp [*, zan, zam] <;> rfl), by repeat (first | (with_reducible first | exact HB.out | apply zab | apply zad | apply zae | refine zaf ?_ GE170.out | refine zaf ?_ GE180.out) | exact HB.out)⟩
           ·rw [if_neg c48] at H
            exact absurd H (by simp)
          ·rw [if_neg c47] at H
           have c47b0 : decide (a1_4 < (t176.length : Int)) = false := decide_eq_false c47
           clear c47
           obtain rfl := Option.some.inj H
           have hcz64_0 : wr.cell? ⟨gb170, 0, none⟩ = some (.slice A1_0 l1_0.length c1_0) := (zac BK170.out 0).trans rfl
           have hcz64_1 : wr.cell? ⟨gb170, 1, none⟩ = some (.int .i64 a1_1) := (zac BK170.out 1).trans rfl
           have hcz64_2 : wr.cell? ⟨gb170, 2, none⟩ = some (.int .i64 a1_2) := (zac BK170.out 2).trans rfl
           have hcz64_3 : wr.cell? ⟨gb170, 3, none⟩ = some (.int .i64 a1_3) := (zac BK170.out 3).trans rfl
           have hcz64_4 : wr.cell? ⟨gb170, 4, none⟩ = some (.int .i64 a1_4) := (zac BK170.out 4).trans rfl
           have hfz64_0 := zaa BK170.out 0
           have hfz64_1 := zaa BK170.out 1
           have hfz64_2 := zaa BK170.out 2
           have hfz64_3 := zaa BK170.out 3
           have hfz64_4 := zaa BK170.out 4
           have p173 : 0 ≤ (a1_3 : Int) := of_decide_eq_true (by first | (with_reducible assumption) | assumption)
           have q173 : a1_3 < (l1_0.length : Int) := of_decide_eq_true (by first | (with_reducible assumption) | assumption)
           obtain ⟨ad173, A173_1, c173_1, A173_6, c173_6, e173, hx173_0, hx173_1, hx173_2, hx173_3, hx173_4, hx173_5, hx173_6, hl173_1, hi173_1, hl173_6, hi173_6⟩ := zbi HR1_0.out a1_3 p173 q173
           cases e173
           replace hx173_0 := (HB.out.cell (World.block_lt_of_cell? w _ hx173_0)).trans hx173_0
           replace hx173_1 := (HB.out.cell (World.block_lt_of_cell? w _ hx173_1)).trans hx173_1
           replace hx173_2 := (HB.out.cell (World.block_lt_of_cell? w _ hx173_2)).trans hx173_2
           replace hx173_3 := (HB.out.cell (World.block_lt_of_cell? w _ hx173_3)).trans hx173_3
           replace hx173_4 := (HB.out.cell (World.block_lt_of_cell? w _ hx173_4)).trans hx173_4
           replace hx173_5 := (HB.out.cell (World.block_lt_of_cell? w _ hx173_5)).trans hx173_5
           replace hx173_6 := (HB.out.cell (World.block_lt_of_cell? w _ hx173_6)).trans hx173_6
           have HR173_1 := Aside0.mk hi173_1
           have HC173_1 := Aside0.mk hl173_1
           clear hi173_1 hl173_1
           have HR173_6 := Aside0.mk hi173_6
           have HC173_6 := Aside0.mk hl173_6
           clear hi173_6 hl173_6
           replace p173 := eq_true p173
           replace q173 := eq_true q173
           go_wp2_with (first | ((with_reducible refine zap (f := 31) rfl ?_); refine zau (some 56) rfl rfl Try.func31 (by kernel_rfl) rfl #[.slice A0 l0.length c0, .string ((zaj l1_0 a1_3).f0)] rfl (by (try simp only [List.map_toArray, List.map_cons, List.map_nil]); first | done | rfl | (simp only [List.length_drop, List.length_take]; rfl)) ?_; (with_reducible refine (registry_Find.calls _ _ l0 ((zaj l1_0 a1_3).f0) t174 t175 t176 t179 _ ?side1 ?side2 A38.out).mono ?_); (case side1 => repeat (first | exact (Kd.C_below HR0.out HB.out) | (with_reducible refine Kd.C_alloc ?_ _) | (with_reducible refine Kd.C_drewN ?_ _) | (with_reducible refine Kd.C_drew ?_))); (case side2 => exact HC0.out); rintro e w65 ⟨v177, rfl, ho0, hb⟩; refine ⟨_, rfl, ?_⟩; have n0_ := Aside0.mk (Kd.R_lower ho0 (zao (by repeat (first | (with_reducible first | exact HB.out | apply zab | apply zad | apply zae | refine zaf ?_ GE170.out) | exact HB.out)))); have n1_ := Aside0.mk (zak (g := gb170) (o := .cells #[.slice (some ad173) l1_0.length c1_0, .int .i64 a1_1, .int .i64 a1_2, .int .i64 a1_3, .int .i64 a1_4] 24 (0, 0)) (by (with_reducible repeat (first | refine zai ?_ _ | refine zal ?_ | refine zag ?_ _)); exact BK170.out) hb); have n2_ := Aside0.mk (zah (by repeat (first | (with_reducible first | exact HB.out | apply zab | apply zad | apply zae | refine zaf ?_ GE170.out) | exact HB.out)) hb); clear BK170; clear HB; have HO178 := n0_; have BK170 := n1_; have HB := n2_; clear n0_ n1_ n2_; (try clear hb); (try clear hb2); (try clear hk); (try clear hi); (try clear ho0)) | ((with_reducible refine zaw (N := 8) rfl ?_); (try (refine zaQ (by rfl) ?_; dsimp only)); refine zas ?hg (N := 8) ?hd (cs := #[.string (⟨#[]⟩ : ByteArray), .int .i64 0, .slice none 0 0]) (t := 43) ?hr ?_; (case hd => rfl); (case hg => rfl); (case hr => first | (go_simp; done) | (go_simp; rfl)); intro gb180 hg w66 hbox hb; have n0_ := Aside0.mk (Kd.R_below (by (with_reducible repeat (first | apply Kd.R_alloc | apply Kd.R_drewN | apply Kd.R_drew)); exact HO178.out) hb); have n1_ := Aside0.mk (zak (g := gb170) (o := .cells #[.slice (some ad173) l1_0.length c1_0, .int .i64 a1_1, .int .i64 a1_2, .int .i64 a1_3, .int .i64 a1_4] 24 (0, 0)) (by (with_reducible repeat (first | refine zai ?_ _ | refine zal ?_ | refine zag ?_ _)); exact BK170.out) hb); have n2_ := Aside0.mk (zah (by repeat (first | (with_reducible first | exact HB.out | apply zab | apply zad | apply zae | refine zaf ?_ GE170.out) | exact HB.out)) hb); have n3_ := Aside0.mk (hbox); have n4_ := Aside0.mk ((by rw [hg]; exact (zao (by repeat (first | (with_reducible first | exact HB.out | apply zab | apply zad | apply zae | refine zaf ?_ GE170.out) | exact HB.out))) : w.heap.size ≤ gb180)); have n5_ := Aside0.mk ((by rw [hg]; exact (zao (by repeat (first | (with_reducible first | exact HB.out | apply zab | apply zad | apply zae | refine zaf ?_ GE170.out) | exact HB.out))) : w.heap.size ≤ gb180)); have n6_ := Aside0.mk ((by rw [hg]; exact Nat.ne_of_lt (zaA (g := gb170) (o := .cells #[.slice (some ad173) l1_0.length c1_0, .int .i64 a1_1, .int .i64 a1_2, .int .i64 a1_3, .int .i64 a1_4] 24 (0, 0)) (by (with_reducible repeat (first | refine zai ?_ _ | refine zal ?_ | refine zag ?_ _)); exact BK170.out)) : gb170 ≠ gb180)); have n7_ := Aside0.mk ((by rw [hg]; exact Nat.ne_of_gt (zaA (g := gb170) (o := .cells #[.slice (some ad173) l1_0.length c1_0, .int .i64 a1_1, .int .i64 a1_2, .int .i64 a1_3, .int .i64 a1_4] 24 (0, 0)) (by (with_reducible repeat (first | refine zai ?_ _ | refine zal ?_ | refine zag ?_ _)); exact BK170.out)) : gb180 ≠ gb170)); clear HO178; clear BK170; clear HB; have HO178 := n0_; have BK170 := n1_; have HB := n2_; have BK180 := n3_; have GW180 := n4_; have GE180 := n5_; have NB170_180 := n6_; have NB180_170 := n7_; clear n0_ n1_ n2_ n3_ n4_ n5_ n6_ n7_; clear hb hbox hg; have hnb67 := NB180_170.out; have hnc67 := NB170_180.out; have hcz68_0 : w66.cell? ⟨gb180, 0, none⟩ = some (.string (⟨#[]⟩ : ByteArray)) := (zac BK180.out 0).trans rfl; have hcz68_1 : w66.cell? ⟨gb180, 1, none⟩ = some (.int .i64 0) := (zac BK180.out 1).trans rfl; have hcz68_2 : w66.cell? ⟨gb180, 2, none⟩ = some (.slice none 0 0) := (zac BK180.out 2).trans rfl; have hfz68_0 := zaa BK180.out 0; have hfz68_1 := zaa BK180.out 1; have hfz68_2 := zaa BK180.out 2; obtain ⟨Ao69, co69, eo69⟩ := Kd.R_slice HO178.out; subst eo69; have hcz70_0 : w66.cell? ⟨gb170, 0, none⟩ = some (.slice (some ad173) l1_0.length c1_0) := (zac BK170.out 0).trans rfl; have hcz70_1 : w66.cell? ⟨gb170, 1, none⟩ = some (.int .i64 a1_1) := (zac BK170.out 1).trans rfl; have hcz70_2 : w66.cell? ⟨gb170, 2, none⟩ = some (.int .i64 a1_2) := (zac BK170.out 2).trans rfl; have hcz70_3 : w66.cell? ⟨gb170, 3, none⟩ = some (.int .i64 a1_3) := (zac BK170.out 3).trans rfl; have hcz70_4 : w66.cell? ⟨gb170, 4, none⟩ = some (.int .i64 a1_4) := (zac BK170.out 4).trans rfl; have hfz70_0 := zaa BK170.out 0; have hfz70_1 := zaa BK170.out 1; have hfz70_2 := zaa BK170.out 2; have hfz70_3 := zaa BK170.out 3; have hfz70_4 := zaa BK170.out 4))
           go_ret
           exact ⟨by first | rfl | (simp [zan, zam] <;> rfl) | (simp [*, zan, zam] <;> rfl), by repeat (first | (with_reducible first | exact HB.out | apply zab | apply zad | apply zae | refine zaf ?_ GE170.out | refine zaf ?_ GE180.out) | exact HB.out)⟩
        ·rw [if_neg c37] at H
         exact absurd H (by simp)
       ·rw [if_neg c36] at H
        exact absurd H (by simp)
def towncrierlaw09_One.f  : Option ((List (SStep)) × Int × Int × Int × Int) := some ((([(⟨(⟨#[97]⟩ : ByteArray), ([] : List (SOp)), 1, 1, false, (⟨#[]⟩ : ByteArray), ([] : List (SOp))⟩ : SStep)] : List (SStep))), 0, 0, 0, 0)
set_option maxHeartbeats 8000000 in
set_option maxRecDepth 100000 in
theorem towncrierlaw09_One.calls  (r1 : List (SStep)) (r2 : Int) (r3 : Int) (r4 : Int) (r5 : Int) (w : World) (h : towncrierlaw09_One.f  = some (r1, r2, r3, r4, r5)) :
  Calls Try.prog 19 #[] w fun e w' => ∃ v0_ : Value, e = .returned (.agg #[v0_, .int .i64 r2, .int .i64 r3, .int .i64 r4, .int .i64 r5]) ∧ Kd.S kStep 40 w' w.heap.size (fun _ => True) v0_ r1 ∧ Below w.heap.size w w' := by
 have hu24 := Try.underlying24
 have hu40 := Try.underlying40
 have HB := Aside0.mk (Below.refl w.heap.size w)
 have H : (some ((([(⟨(⟨#[97]⟩ : ByteArray), ([] : List (SOp)), 1, 1, false, (⟨#[]⟩ : ByteArray), ([] : List (SOp))⟩ : SStep)] : List (SStep))), 0, 0, 0, 0)) = some (r1, r2, r3, r4, r5) := h
 clear h
 obtain ⟨y187, hy187⟩ : ∃ y_ : List (SStep), y_ = (([(⟨(⟨#[97]⟩ : ByteArray), ([] : List (SOp)), 1, 1, false, (⟨#[]⟩ : ByteArray), ([] : List (SOp))⟩ : SStep)] : List (SStep))) := ⟨_, rfl⟩
 replace H : (some (y187, 0, 0, 0, 0)) = some (r1, r2, r3, r4, r5) := by first | (rw [hy187]; with_reducible exact H) | (have H2_ := (Option.bind_some _ _).symm.trans H; rw [hy187]; with_reducible exact H2_) | (have H2_ := (Option.bind_some _ _).symm.trans H; with_reducible exact H2_) | with_reducible exact H | (rw [hy187]; exact H) | exact H
 have Ny187 := Aside0.mk hy187
 clear hy187
 simp only [Option.some.injEq, Prod.mk.injEq] at H
 obtain ⟨rfl, rfl, rfl, rfl, rfl⟩ := H
 go_enter Try.func19, Try.ntmps19
 go_wp2_with (first | ((with_reducible refine zaw (N := 0) rfl ?_); refine zas ?hg (N := 0) ?hd (cs := #[.slice none 0 0, .int .i64 0, .int .i64 0, .int .i64 0, .int .i64 0]) (t := 24) ?hr ?_; (case hd => rfl); (case hg => rfl); (case hr => first | (go_simp; done) | (go_simp; rfl)); intro gb186 hg w1 hbox hb; have n0_ := Aside0.mk (zah (by repeat (first | (with_reducible first | exact HB.out | apply zab | apply zad | apply zae) | exact HB.out)) hb); have n1_ := Aside0.mk (hbox); have n2_ := Aside0.mk ((by rw [hg]; exact (zao (by repeat (first | (with_reducible first | exact HB.out | apply zab | apply zad | apply zae) | exact HB.out))) : w.heap.size ≤ gb186)); have n3_ := Aside0.mk ((by rw [hg]; exact (zao (by repeat (first | (with_reducible first | exact HB.out | apply zab | apply zad | apply zae) | exact HB.out))) : w.heap.size ≤ gb186)); clear HB; have HB := n0_; have BK186 := n1_; have GW186 := n2_; have GE186 := n3_; clear n0_ n1_ n2_ n3_; clear hb hbox hg) | ((with_reducible refine zaw (N := 2) rfl ?_); refine Kd.S_lit kStep _ 40 ?hg (N := 2) ?hd (xs := ([(⟨(⟨#[97]⟩ : ByteArray), ([] : List (SOp)), 1, 1, false, (⟨#[]⟩ : ByteArray), ([] : List (SOp))⟩ : SStep)] : List (SStep))) (inner := [.string (⟨#[97]⟩ : ByteArray), .slice none 0 0, .int .i64 1, .int .i64 1, .bool false, .string (⟨#[]⟩ : ByteArray), .slice none 0 0]) (ok := fun _ => True) (okp := fun _ => True) ?hr ?hp (fun _ hk => hk) trivial (Below.refl _ _) (Nat.le_refl _) (by simp) ?_; (case hd => rfl); (case hg => rfl); (case hr => first | (go_simp; done) | (go_simp; rfl)); (case hp => exact (Reps.c7 (show Kd.M kStep _ _ _ (⟨(⟨#[97]⟩ : ByteArray), ([] : List (SOp)), 1, 1, false, (⟨#[]⟩ : ByteArray), ([] : List (SOp))⟩ : SStep) [.string (⟨#[97]⟩ : ByteArray), .slice none 0 0, .int .i64 1, .int .i64 1, .bool false, .string (⟨#[]⟩ : ByteArray), .slice none 0 0] from (kStep_mkM _ _ _ (⟨(⟨#[97]⟩ : ByteArray), ([] : List (SOp)), 1, 1, false, (⟨#[]⟩ : ByteArray), ([] : List (SOp))⟩ : SStep) (Kd.R_nil _ _ _ _ _) (Kd.R_nil _ _ _ _ _))) (Reps.none _ _))); intro v188 w2 ho3 hb hg_ hnew_; clear hg_ hnew_; (first | rw [← Ny187.out] at ho3 | (simp only [Int.reduceToNat] at ho3; rw [← Ny187.out] at ho3)); have n0_ := Aside0.mk (Kd.S_lower ho3 (zao (by repeat (first | (with_reducible first | exact HB.out | apply zab | apply zad | apply zae | refine zaf ?_ GE186.out) | exact HB.out)))); have n1_ := Aside0.mk (zak (g := gb186) (o := .cells #[.slice none 0 0, .int .i64 0, .int .i64 0, .int .i64 0, .int .i64 0] 24 (0, 0)) (by (with_reducible repeat (first | refine zai ?_ _ | refine zal ?_ | refine zag ?_ _)); exact BK186.out) hb); have n2_ := Aside0.mk (zah (by repeat (first | (with_reducible first | exact HB.out | apply zab | apply zad | apply zae | refine zaf ?_ GE186.out) | exact HB.out)) hb); clear BK186; clear HB; have HO189 := n0_; have BK186 := n1_; have HB := n2_; clear n0_ n1_ n2_; clear hb ho3; obtain ⟨Ao4, co4, eo4⟩ := Kd.S_slice HO189.out; subst eo4; have hcz5_0 : w2.cell? ⟨gb186, 0, none⟩ = some (.slice none 0 0) := (zac BK186.out 0).trans rfl; have hcz5_1 : w2.cell? ⟨gb186, 1, none⟩ = some (.int .i64 0) := (zac BK186.out 1).trans rfl; have hcz5_2 : w2.cell? ⟨gb186, 2, none⟩ = some (.int .i64 0) := (zac BK186.out 2).trans rfl; have hcz5_3 : w2.cell? ⟨gb186, 3, none⟩ = some (.int .i64 0) := (zac BK186.out 3).trans rfl; have hcz5_4 : w2.cell? ⟨gb186, 4, none⟩ = some (.int .i64 0) := (zac BK186.out 4).trans rfl; have hfz5_0 := zaa BK186.out 0; have hfz5_1 := zaa BK186.out 1; have hfz5_2 := zaa BK186.out 2; have hfz5_3 := zaa BK186.out 3; have hfz5_4 := zaa BK186.out 4))
 refine bodyPost_ret (results_cell_row rfl _ _ gb186 24 #[.slice Ao4 y187.length co4, .int .i64 0, .int .i64 0, .int .i64 0, .int .i64 0] (0, 0) _ rfl (by (with_reducible repeat (first | refine zai ?_ _ | refine zal ?_ | refine zag ?_ _)); refine zar (cs := #[.slice Ao4 y187.length co4, .int .i64 0, .int .i64 0, .int .i64 0, .int .i64 0]) ?_ 4 _ rfl; (with_reducible repeat (first | refine zai ?_ _ | refine zal ?_ | refine zag ?_ _)); refine zar (cs := #[.slice Ao4 y187.length co4, .int .i64 0, .int .i64 0, .int .i64 0, .int .i64 0]) ?_ 3 _ rfl; (with_reducible repeat (first | refine zai ?_ _ | refine zal ?_ | refine zag ?_ _)); refine zar (cs := #[.slice Ao4 y187.length co4, .int .i64 0, .int .i64 0, .int .i64 0, .int .i64 0]) ?_ 2 _ rfl; (with_reducible repeat (first | refine zai ?_ _ | refine zal ?_ | refine zag ?_ _)); refine zar (cs := #[.slice Ao4 y187.length co4, .int .i64 0, .int .i64 0, .int .i64 0, .int .i64 0]) ?_ 1 _ rfl; (with_reducible repeat (first | refine zai ?_ _ | refine zal ?_ | refine zag ?_ _)); refine zar (cs := #[.slice none 0 0, .int .i64 0, .int .i64 0, .int .i64 0, .int .i64 0]) ?_ 0 _ rfl; (with_reducible repeat (first | refine zai ?_ _ | refine zal ?_ | refine zag ?_ _)); exact BK186.out) Try.underlying24 rfl (by kernel_rfl)) rfl ?_
 exact ⟨_, by first | rfl | (simp [zan, zam] <;> rfl) | (simp [*, zan, zam] <;> rfl), by (with_reducible repeat (first | apply Kd.S_alloc | apply Kd.S_drewN | apply Kd.S_drew)); exact Kd.S_mono (Kd.S_far (p := ⟨gb186, 4, none⟩) (Kd.S_far (p := ⟨gb186, 3, none⟩) (Kd.S_far (p := ⟨gb186, 2, none⟩) (Kd.S_far (p := ⟨gb186, 1, none⟩) (Kd.S_far (p := ⟨gb186, 0, none⟩) (Kd.S_types HO189.out BK186.out (by decide)) (fun _ hk => hk.2) (.slice Ao4 y187.length co4)) (fun _ hk => hk.2) (.int .i64 0)) (fun _ hk => hk.2) (.int .i64 0)) (fun _ hk => hk.2) (.int .i64 0)) (fun _ hk => hk.2) (.int .i64 0)) (fun _ hk => trivial), by repeat (first | (with_reducible first | exact HB.out | apply zab | apply zad | apply zae | refine zaf ?_ GE186.out) | exact HB.out)⟩
def towncrierlaw09_Few.l0 : Nat → Int → List (SStep) → Int → Int → Int → Int → Option (Bool)
 | 0, _, _, _, _, _, _ => none
 | k + 1, x3, x199000, x199001, x199002, x199003, x199004 => if x3 < (x199000.length : Int) then (if 0 ≤ x3 then ((towncrierlaw08_Few.f k ((zaj x199000 x3).f1)).bind fun t201 => ((towncrierlaw08_Few.f k ((zaj x199000 x3).f6)).bind fun t202 => (if t201 = true then (if t202 = true then (if (((zaj x199000 x3).f0).size : Int) > 60 then (some false) else (if (((zaj x199000 x3).f5).size : Int) > 60 then (some false) else (towncrierlaw09_Few.l0 k (wrap64 (x3 + 1)) x199000 x199001 x199002 x199003 x199004))) else (some false)) else (some false)))) else (none)) else (some true)
def towncrierlaw09_Few.f (k : Nat) (l0_0 : List (SStep)) (a0_1 : Int) (a0_2 : Int) (a0_3 : Int) (a0_4 : Int) : Option (Bool) := if (l0_0.length : Int) > 8 then (some false) else (towncrierlaw09_Few.l0 k 0 l0_0 a0_1 a0_2 a0_3 a0_4)
end Go.Proofs.Ytooemobolfoefaa.P



namespace Go.Proofs.Ytooemobolfoefaa.P
open Go.RowKit Go.Proofs.YtooemobolfoefaaW.PrintWords Go.Proofs.YtooemobolfoefaaW.PrintLast Go.Proofs.YtooemobolfoefaaW.PrintMore
attribute [local go_sem] zaX zaV zbf zbe zaO zaN zaW zaU   -- for this text's walks alone
set_option linter.unusedVariables false
set_option linter.unusedSimpArgs false
set_option maxHeartbeats 8000000 in
set_option maxRecDepth 100000 in
theorem towncrierlaw09_Few.calls (k : Nat) (A0_0 : Option Addr) (c0_0 : Nat) (l0_0 : List (SStep)) (a0_1 : Int) (a0_2 : Int) (a0_3 : Int) (a0_4 : Int) (r : Bool) (w : World) (hr0_0 : Kd.C kStep w A0_0 l0_0.length l0_0) (hc0_0 : l0_0.length ≤ c0_0) (h : towncrierlaw09_Few.f k l0_0 a0_1 a0_2 a0_3 a0_4 = some r) :
  Calls Try.prog 10 #[.agg #[.slice A0_0 l0_0.length c0_0, .int .i64 a0_1, .int .i64 a0_2, .int .i64 a0_3, .int .i64 a0_4]] w fun e w' => e = .returned (.bool r) ∧ Below w.heap.size w w' := by
 have hu24 := Try.underlying24
 have hu40 := Try.underlying40
 have HR0_0 := Aside0.mk hr0_0
 have HC0_0 := Aside0.mk hc0_0
 clear hr0_0 hc0_0
 have HB := Aside0.mk (Below.refl w.heap.size w)
 have H : (if (l0_0.length : Int) > 8 then (some false) else (towncrierlaw09_Few.l0 k 0 l0_0 a0_1 a0_2 a0_3 a0_4)) = some r := h
 clear h
 by_cases c2 : (l0_0.length : Int) > 8
 ·rw [if_pos c2] at H
  have c2b0 : decide (8 < (l0_0.length : Int)) = true := decide_eq_true c2
  have c2b1 : decide (8 < l0_0.length) = true := decide_eq_true (by omega)
  clear c2
  obtain rfl := Option.some.inj H
  go_enter Try.func10, Try.ntmps10
  go_wp2_with (first | ((with_reducible refine zaw (N := 1) rfl ?_); (try (refine zaQ (by rfl) ?_; dsimp only)); refine zas ?hg (N := 1) ?hd (cs := #[.slice A0_0 l0_0.length c0_0, .int .i64 a0_1, .int .i64 a0_2, .int .i64 a0_3, .int .i64 a0_4]) (t := 24) ?hr ?_; (case hd => rfl); (case hg => rfl); (case hr => first | (go_simp; done) | (go_simp; rfl)); intro gb198 hg w3 hbox hb; have n0_ := Aside0.mk (zah (by repeat (first | (with_reducible first | exact HB.out | apply zab | apply zad | apply zae) | exact HB.out)) hb); have n1_ := Aside0.mk (hbox); have n2_ := Aside0.mk ((by rw [hg]; exact (zao (by repeat (first | (with_reducible first | exact HB.out | apply zab | apply zad | apply zae) | exact HB.out))) : w.heap.size ≤ gb198)); have n3_ := Aside0.mk ((by rw [hg]; exact (zao (by repeat (first | (with_reducible first | exact HB.out | apply zab | apply zad | apply zae) | exact HB.out))) : w.heap.size ≤ gb198)); clear HB; have HB := n0_; have BK198 := n1_; have GW198 := n2_; have GE198 := n3_; clear n0_ n1_ n2_ n3_; clear hb hbox hg; have hcz4_0 : w3.cell? ⟨gb198, 0, none⟩ = some (.slice A0_0 l0_0.length c0_0) := (zac BK198.out 0).trans rfl; have hcz4_1 : w3.cell? ⟨gb198, 1, none⟩ = some (.int .i64 a0_1) := (zac BK198.out 1).trans rfl; have hcz4_2 : w3.cell? ⟨gb198, 2, none⟩ = some (.int .i64 a0_2) := (zac BK198.out 2).trans rfl; have hcz4_3 : w3.cell? ⟨gb198, 3, none⟩ = some (.int .i64 a0_3) := (zac BK198.out 3).trans rfl; have hcz4_4 : w3.cell? ⟨gb198, 4, none⟩ = some (.int .i64 a0_4) := (zac BK198.out 4).trans rfl; have hfz4_0 := zaa BK198.out 0; have hfz4_1 := zaa BK198.out 1; have hfz4_2 := zaa BK198.out 2; have hfz4_3 := zaa BK198.out 3; have hfz4_4 := zaa BK198.out 4))
  go_ret
  exact ⟨by first | rfl | (simp [zan, zam] <;> rfl) | (simp [*, zan, zam] <;> rfl), by repeat (first | (with_reducible first | exact HB.out | apply zab | apply zad | apply zae | refine zaf ?_ GE198.out) | exact HB.out)⟩
 ·rw [if_neg c2] at H
  have c2b0 : decide (8 < (l0_0.length : Int)) = false := decide_eq_false c2
  have c2b1 : decide (8 < l0_0.length) = false := decide_eq_false (by omega)
  clear c2
  have H' := Aside0.mk H
  clear H
  go_enter Try.func10, Try.ntmps10
  go_wp2_with (first | ((with_reducible refine zaw (N := 1) rfl ?_); (try (refine zaQ (by rfl) ?_; dsimp only)); refine zas ?hg (N := 1) ?hd (cs := #[.slice A0_0 l0_0.length c0_0, .int .i64 a0_1, .int .i64 a0_2, .int .i64 a0_3, .int .i64 a0_4]) (t := 24) ?hr ?_; (case hd => rfl); (case hg => rfl); (case hr => first | (go_simp; done) | (go_simp; rfl)); intro gb198 hg w5 hbox hb; have n0_ := Aside0.mk (zah (by repeat (first | (with_reducible first | exact HB.out | apply zab | apply zad | apply zae) | exact HB.out)) hb); have n1_ := Aside0.mk (hbox); have n2_ := Aside0.mk ((by rw [hg]; exact (zao (by repeat (first | (with_reducible first | exact HB.out | apply zab | apply zad | apply zae) | exact HB.out))) : w.heap.size ≤ gb198)); have n3_ := Aside0.mk ((by rw [hg]; exact (zao (by repeat (first | (with_reducible first | exact HB.out | apply zab | apply zad | apply zae) | exact HB.out))) : w.heap.size ≤ gb198)); clear HB; have HB := n0_; have BK198 := n1_; have GW198 := n2_; have GE198 := n3_; clear n0_ n1_ n2_ n3_; clear hb hbox hg; have hcz6_0 : w5.cell? ⟨gb198, 0, none⟩ = some (.slice A0_0 l0_0.length c0_0) := (zac BK198.out 0).trans rfl; have hcz6_1 : w5.cell? ⟨gb198, 1, none⟩ = some (.int .i64 a0_1) := (zac BK198.out 1).trans rfl; have hcz6_2 : w5.cell? ⟨gb198, 2, none⟩ = some (.int .i64 a0_2) := (zac BK198.out 2).trans rfl; have hcz6_3 : w5.cell? ⟨gb198, 3, none⟩ = some (.int .i64 a0_3) := (zac BK198.out 3).trans rfl; have hcz6_4 : w5.cell? ⟨gb198, 4, none⟩ = some (.int .i64 a0_4) := (zac BK198.out 4).trans rfl; have hfz6_0 := zaa BK198.out 0; have hfz6_1 := zaa BK198.out 1; have hfz6_2 := zaa BK198.out 2; have hfz6_3 := zaa BK198.out 3; have hfz6_4 := zaa BK198.out 4))
  go_loopg [3] k (fun kq v3 w' => ∃ (x3_1 : Int), v3 = .int .i64 x3_1 ∧ Aside0 (towncrierlaw09_Few.l0 kq x3_1 l0_0 a0_1 a0_2 a0_3 a0_4 = some r) ∧ Aside0 (kq ≤ k) ∧ Aside0 (w'.heap[gb198]? = some (.cells #[(.slice A0_0 l0_0.length c0_0), .int .i64 a0_1, .int .i64 a0_2, .int .i64 a0_3, .int .i64 a0_4] 24 (0, 0))) ∧ Aside0 (Below w.heap.size w w'))
  case atStart => exact ⟨(0), (by first | rfl | (simp; done) | (simp [*]; done)), H', ⟨Nat.le_refl _⟩, ⟨by (with_reducible repeat (first | refine zai ?_ _ | refine zal ?_ | refine zag ?_ _)); exact BK198.out⟩, ⟨by repeat (first | (with_reducible first | exact HB.out | apply zab | apply zad | apply zae | refine zaf ?_ GE198.out) | exact HB.out)⟩⟩
  case round =>
   clear H'
   try clear c1
   try clear c2
   try clear c2b0
   try clear c2b1
   try clear p2
   try clear hcz4_0
   try clear hcz4_1
   try clear hcz4_2
   try clear hcz4_3
   try clear hcz4_4
   try clear hcz6_0
   try clear hcz6_1
   try clear hcz6_2
   try clear hcz6_3
   try clear hcz6_4
   try clear hfz4_0
   try clear hfz4_1
   try clear hfz4_2
   try clear hfz4_3
   try clear hfz4_4
   try clear hfz6_0
   try clear hfz6_1
   try clear hfz6_2
   try clear hfz6_3
   try clear hfz6_4
   obtain ⟨x3_1, rfl, HA, HK1, BK198, HB⟩ := hrel
   cases gk with
   | zero => exact absurd HA.out (by simp [towncrierlaw09_Few.l0])
   | succ k1 =>
    have H := HA.out
    clear HA
    simp only [towncrierlaw09_Few.l0] at H
    by_cases c7 : x3_1 < (l0_0.length : Int)
    ·rw [if_pos c7] at H
     have c7b0 : decide (x3_1 < (l0_0.length : Int)) = true := decide_eq_true c7
     clear c7
     by_cases c8 : 0 ≤ x3_1
     ·rw [if_pos c8] at H
      have c8b0 : decide (0 ≤ x3_1) = true := decide_eq_true c8
      clear c8
      replace H := Option.bind_eq_some_iff.mp H
      obtain ⟨t201, A90, H⟩ := H
      replace H : ((towncrierlaw08_Few.f k1 ((zaj l0_0 x3_1).f6)).bind fun t202 => (if t201 = true then (if t202 = true then (if (((zaj l0_0 x3_1).f0).size : Int) > 60 then (some false) else (if (((zaj l0_0 x3_1).f5).size : Int) > 60 then (some false) else (towncrierlaw09_Few.l0 k1 (wrap64 (x3_1 + 1)) l0_0 a0_1 a0_2 a0_3 a0_4))) else (some false)) else (some false))) = some r := H
      have A9 := Aside0.mk A90
      clear A90
      replace H := Option.bind_eq_some_iff.mp H
      obtain ⟨t202, A100, H⟩ := H
      replace H : (if t201 = true then (if t202 = true then (if (((zaj l0_0 x3_1).f0).size : Int) > 60 then (some false) else (if (((zaj l0_0 x3_1).f5).size : Int) > 60 then (some false) else (towncrierlaw09_Few.l0 k1 (wrap64 (x3_1 + 1)) l0_0 a0_1 a0_2 a0_3 a0_4))) else (some false)) else (some false)) = some r := H
      have A10 := Aside0.mk A100
      clear A100
      by_cases c11 : t201 = true
      ·subst c11
       have H1 : (if t202 = true then (if (((zaj l0_0 x3_1).f0).size : Int) > 60 then (some false) else (if (((zaj l0_0 x3_1).f5).size : Int) > 60 then (some false) else (towncrierlaw09_Few.l0 k1 (wrap64 (x3_1 + 1)) l0_0 a0_1 a0_2 a0_3 a0_4))) else (some false)) = some r := by rw [if_pos rfl] at H; exact H
       clear H
       have H := H1
       clear H1
       by_cases c12 : t202 = true
       ·subst c12
        have H1 : (if (((zaj l0_0 x3_1).f0).size : Int) > 60 then (some false) else (if (((zaj l0_0 x3_1).f5).size : Int) > 60 then (some false) else (towncrierlaw09_Few.l0 k1 (wrap64 (x3_1 + 1)) l0_0 a0_1 a0_2 a0_3 a0_4))) = some r := by rw [if_pos rfl] at H; exact H
        clear H
        have H := H1
        clear H1
        by_cases c13 : (((zaj l0_0 x3_1).f0).size : Int) > 60
        ·rw [if_pos c13] at H
         have c13b0 : decide (60 < (((zaj l0_0 x3_1).f0).size : Int)) = true := decide_eq_true c13
         have c13b1 : decide (60 < ((zaj l0_0 x3_1).f0).size) = true := decide_eq_true (by omega)
         clear c13
         obtain rfl := Option.some.inj H
         have hcz14_0 : wr.cell? ⟨gb198, 0, none⟩ = some (.slice A0_0 l0_0.length c0_0) := (zac BK198.out 0).trans rfl
         have hcz14_1 : wr.cell? ⟨gb198, 1, none⟩ = some (.int .i64 a0_1) := (zac BK198.out 1).trans rfl
         have hcz14_2 : wr.cell? ⟨gb198, 2, none⟩ = some (.int .i64 a0_2) := (zac BK198.out 2).trans rfl
         have hcz14_3 : wr.cell? ⟨gb198, 3, none⟩ = some (.int .i64 a0_3) := (zac BK198.out 3).trans rfl
         have hcz14_4 : wr.cell? ⟨gb198, 4, none⟩ = some (.int .i64 a0_4) := (zac BK198.out 4).trans rfl
         have hfz14_0 := zaa BK198.out 0
         have hfz14_1 := zaa BK198.out 1
         have hfz14_2 := zaa BK198.out 2
         have hfz14_3 := zaa BK198.out 3
         have hfz14_4 := zaa BK198.out 4
         have p199 : 0 ≤ (x3_1 : Int) := of_decide_eq_true (by first | (with_reducible assumption) | assumption)
         have q199 : x3_1 < (l0_0.length : Int) := of_decide_eq_true (by first | (with_reducible assumption) | assumption)
         obtain ⟨ad199, A199_1, c199_1, A199_6, c199_6, e199, hx199_0, hx199_1, hx199_2, hx199_3, hx199_4, hx199_5, hx199_6, hl199_1, hi199_1, hl199_6, hi199_6⟩ := zbi HR0_0.out x3_1 p199 q199
         cases e199
         replace hx199_0 := (HB.out.cell (World.block_lt_of_cell? w _ hx199_0)).trans hx199_0
         replace hx199_1 := (HB.out.cell (World.block_lt_of_cell? w _ hx199_1)).trans hx199_1
         replace hx199_2 := (HB.out.cell (World.block_lt_of_cell? w _ hx199_2)).trans hx199_2
         replace hx199_3 := (HB.out.cell (World.block_lt_of_cell? w _ hx199_3)).trans hx199_3
         replace hx199_4 := (HB.out.cell (World.block_lt_of_cell? w _ hx199_4)).trans hx199_4
         replace hx199_5 := (HB.out.cell (World.block_lt_of_cell? w _ hx199_5)).trans hx199_5
         replace hx199_6 := (HB.out.cell (World.block_lt_of_cell? w _ hx199_6)).trans hx199_6
         have HR199_1 := Aside0.mk hi199_1
         have HC199_1 := Aside0.mk hl199_1
         clear hi199_1 hl199_1
         have HR199_6 := Aside0.mk hi199_6
         have HC199_6 := Aside0.mk hl199_6
         clear hi199_6 hl199_6
         replace p199 := eq_true p199
         replace q199 := eq_true q199
         go_wp2_with (first | ((with_reducible refine zaw (N := 4) rfl ?_); (try (refine zaQ (by rfl) ?_; dsimp only)); refine zas ?hg (N := 4) ?hd (cs := #[.string (⟨#[]⟩ : ByteArray), .slice none 0 0, .int .i64 0, .int .i64 0, .bool false, .string (⟨#[]⟩ : ByteArray), .slice none 0 0]) (t := 40) ?hr ?_; (case hd => rfl); (case hg => rfl); (case hr => first | (go_simp; done) | (go_simp; rfl)); intro gb200 hg w15 hbox hb; have n0_ := Aside0.mk (zak (g := gb198) (o := .cells #[.slice (some ad199) l0_0.length c0_0, .int .i64 a0_1, .int .i64 a0_2, .int .i64 a0_3, .int .i64 a0_4] 24 (0, 0)) (by (with_reducible repeat (first | refine zai ?_ _ | refine zal ?_ | refine zag ?_ _)); exact BK198.out) hb); have n1_ := Aside0.mk (zah (by repeat (first | (with_reducible first | exact HB.out | apply zab | apply zad | apply zae | refine zaf ?_ GE198.out) | exact HB.out)) hb); have n2_ := Aside0.mk (hbox); have n3_ := Aside0.mk ((by rw [hg]; exact (zao (by repeat (first | (with_reducible first | exact HB.out | apply zab | apply zad | apply zae | refine zaf ?_ GE198.out) | exact HB.out))) : w.heap.size ≤ gb200)); have n4_ := Aside0.mk ((by rw [hg]; exact (zao (by repeat (first | (with_reducible first | exact HB.out | apply zab | apply zad | apply zae | refine zaf ?_ GE198.out) | exact HB.out))) : w.heap.size ≤ gb200)); have n5_ := Aside0.mk ((by rw [hg]; exact Nat.ne_of_lt (zaA (g := gb198) (o := .cells #[.slice (some ad199) l0_0.length c0_0, .int .i64 a0_1, .int .i64 a0_2, .int .i64 a0_3, .int .i64 a0_4] 24 (0, 0)) (by (with_reducible repeat (first | refine zai ?_ _ | refine zal ?_ | refine zag ?_ _)); exact BK198.out)) : gb198 ≠ gb200)); have n6_ := Aside0.mk ((by rw [hg]; exact Nat.ne_of_gt (zaA (g := gb198) (o := .cells #[.slice (some ad199) l0_0.length c0_0, .int .i64 a0_1, .int .i64 a0_2, .int .i64 a0_3, .int .i64 a0_4] 24 (0, 0)) (by (with_reducible repeat (first | refine zai ?_ _ | refine zal ?_ | refine zag ?_ _)); exact BK198.out)) : gb200 ≠ gb198)); clear BK198; clear HB; have BK198 := n0_; have HB := n1_; have BK200 := n2_; have GW200 := n3_; have GE200 := n4_; have NB198_200 := n5_; have NB200_198 := n6_; clear n0_ n1_ n2_ n3_ n4_ n5_ n6_; clear hb hbox hg; have hnb16 := NB200_198.out; have hnc16 := NB198_200.out; have hcz17_0 : w15.cell? ⟨gb200, 0, none⟩ = some (.string (⟨#[]⟩ : ByteArray)) := (zac BK200.out 0).trans rfl; have hcz17_1 : w15.cell? ⟨gb200, 1, none⟩ = some (.slice none 0 0) := (zac BK200.out 1).trans rfl; have hcz17_2 : w15.cell? ⟨gb200, 2, none⟩ = some (.int .i64 0) := (zac BK200.out 2).trans rfl; have hcz17_3 : w15.cell? ⟨gb200, 3, none⟩ = some (.int .i64 0) := (zac BK200.out 3).trans rfl; have hcz17_4 : w15.cell? ⟨gb200, 4, none⟩ = some (.bool false) := (zac BK200.out 4).trans rfl; have hcz17_5 : w15.cell? ⟨gb200, 5, none⟩ = some (.string (⟨#[]⟩ : ByteArray)) := (zac BK200.out 5).trans rfl; have hcz17_6 : w15.cell? ⟨gb200, 6, none⟩ = some (.slice none 0 0) := (zac BK200.out 6).trans rfl; have hfz17_0 := zaa BK200.out 0; have hfz17_1 := zaa BK200.out 1; have hfz17_2 := zaa BK200.out 2; have hfz17_3 := zaa BK200.out 3; have hfz17_4 := zaa BK200.out 4; have hfz17_5 := zaa BK200.out 5; have hfz17_6 := zaa BK200.out 6) | ((with_reducible refine zap (f := 20) rfl ?_); refine zau (some 25) rfl rfl Try.func20 (by kernel_rfl) rfl #[.slice A199_1 ((zaj l0_0 x3_1).f1).length c199_1] rfl (by (try simp only [List.map_toArray, List.map_cons, List.map_nil]); first | done | rfl | (simp only [List.length_drop, List.length_take]; rfl)) ?_; (with_reducible refine (towncrierlaw08_Few.calls k1 _ _ ((zaj l0_0 x3_1).f1) true _ ?side1 ?side2 A9.out).mono ?_); (case side1 => exact Kd.C_below HR199_1.out (by repeat (first | (with_reducible first | exact HB.out | apply zab | apply zad | apply zae | refine zaf ?_ GE198.out | refine zaf ?_ GE200.out) | exact HB.out))); (case side2 => exact HC199_1.out); rintro e w' ⟨rfl, ⟨nd, rfl⟩⟩; refine ⟨_, rfl, ?_⟩) | ((with_reducible refine zap (f := 20) rfl ?_); refine zau (some 28) rfl rfl Try.func20 (by kernel_rfl) rfl #[.slice A199_6 ((zaj l0_0 x3_1).f6).length c199_6] rfl (by (try simp only [List.map_toArray, List.map_cons, List.map_nil]); first | done | rfl | (simp only [List.length_drop, List.length_take]; rfl)) ?_; (with_reducible refine (towncrierlaw08_Few.calls k1 _ _ ((zaj l0_0 x3_1).f6) true _ ?side1 ?side2 A10.out).mono ?_); (case side1 => exact Kd.C_below HR199_6.out (by repeat (first | (with_reducible first | exact HB.out | apply zab | apply zad | apply zae | refine zaf ?_ GE198.out | refine zaf ?_ GE200.out) | exact HB.out))); (case side2 => exact HC199_6.out); rintro e w' ⟨rfl, ⟨nd, rfl⟩⟩; refine ⟨_, rfl, ?_⟩))
         go_ret
         exact ⟨by first | rfl | (simp [zan, zam] <;> rfl) | (simp [*, zan, zam] <;> rfl), by repeat (first | (with_reducible first | exact HB.out | apply zab | apply zad | apply zae | refine zaf ?_ GE198.out | refine zaf ?_ GE200.out) | exact HB.out)⟩
        ·rw [if_neg c13] at H
         have c13b0 : decide (60 < (((zaj l0_0 x3_1).f0).size : Int)) = false := decide_eq_false c13
         have c13b1 : decide (60 < ((zaj l0_0 x3_1).f0).size) = false := decide_eq_false (by omega)
         clear c13
         by_cases c18 : (((zaj l0_0 x3_1).f5).size : Int) > 60
         ·rw [if_pos c18] at H
          have c18b0 : decide (60 < (((zaj l0_0 x3_1).f5).size : Int)) = true := decide_eq_true c18
          have c18b1 : decide (60 < ((zaj l0_0 x3_1).f5).size) = true := decide_eq_true (by omega)
          clear c18
          obtain rfl := Option.some.inj H
          have hcz19_0 : wr.cell? ⟨gb198, 0, none⟩ = some (.slice A0_0 l0_0.length c0_0) := (zac BK198.out 0).trans rfl
          have hcz19_1 : wr.cell? ⟨gb198, 1, none⟩ = some (.int .i64 a0_1) := (zac BK198.out 1).trans rfl
          have hcz19_2 : wr.cell? ⟨gb198, 2, none⟩ = some (.int .i64 a0_2) := (zac BK198.out 2).trans rfl
          have hcz19_3 : wr.cell? ⟨gb198, 3, none⟩ = some (.int .i64 a0_3) := (zac BK198.out 3).trans rfl
          have hcz19_4 : wr.cell? ⟨gb198, 4, none⟩ = some (.int .i64 a0_4) := (zac BK198.out 4).trans rfl
          have hfz19_0 := zaa BK198.out 0
          have hfz19_1 := zaa BK198.out 1
          have hfz19_2 := zaa BK198.out 2
          have hfz19_3 := zaa BK198.out 3
          have hfz19_4 := zaa BK198.out 4
          have p199 : 0 ≤ (x3_1 : Int) := of_decide_eq_true (by first | (with_reducible assumption) | assumption)
          have q199 : x3_1 < (l0_0.length : Int) := of_decide_eq_true (by first | (with_reducible assumption) | assumption)
          obtain ⟨ad199, A199_1, c199_1, A199_6, c199_6, e199, hx199_0, hx199_1, hx199_2, hx199_3, hx199_4, hx199_5, hx199_6, hl199_1, hi199_1, hl199_6, hi199_6⟩ := zbi HR0_0.out x3_1 p199 q199
          cases e199
          replace hx199_0 := (HB.out.cell (World.block_lt_of_cell? w _ hx199_0)).trans hx199_0
          replace hx199_1 := (HB.out.cell (World.block_lt_of_cell? w _ hx199_1)).trans hx199_1
          replace hx199_2 := (HB.out.cell (World.block_lt_of_cell? w _ hx199_2)).trans hx199_2
          replace hx199_3 := (HB.out.cell (World.block_lt_of_cell? w _ hx199_3)).trans hx199_3
          replace hx199_4 := (HB.out.cell (World.block_lt_of_cell? w _ hx199_4)).trans hx199_4
          replace hx199_5 := (HB.out.cell (World.block_lt_of_cell? w _ hx199_5)).trans hx199_5
          replace hx199_6 := (HB.out.cell (World.block_lt_of_cell? w _ hx199_6)).trans hx199_6
          have HR199_1 := Aside0.mk hi199_1
          have HC199_1 := Aside0.mk hl199_1
          clear hi199_1 hl199_1
          have HR199_6 := Aside0.mk hi199_6
          have HC199_6 := Aside0.mk hl199_6
          clear hi199_6 hl199_6
          replace p199 := eq_true p199
          replace q199 := eq_true q199
          go_wp2_with (first | ((with_reducible refine zaw (N := 4) rfl ?_); (try (refine zaQ (by rfl) ?_; dsimp only)); refine zas ?hg (N := 4) ?hd (cs := #[.string (⟨#[]⟩ : ByteArray), .slice none 0 0, .int .i64 0, .int .i64 0, .bool false, .string (⟨#[]⟩ : ByteArray), .slice none 0 0]) (t := 40) ?hr ?_; (case hd => rfl); (case hg => rfl); (case hr => first | (go_simp; done) | (go_simp; rfl)); intro gb200 hg w20 hbox hb; have n0_ := Aside0.mk (zak (g := gb198) (o := .cells #[.slice (some ad199) l0_0.length c0_0, .int .i64 a0_1, .int .i64 a0_2, .int .i64 a0_3, .int .i64 a0_4] 24 (0, 0)) (by (with_reducible repeat (first | refine zai ?_ _ | refine zal ?_ | refine zag ?_ _)); exact BK198.out) hb); have n1_ := Aside0.mk (zah (by repeat (first | (with_reducible first | exact HB.out | apply zab | apply zad | apply zae | refine zaf ?_ GE198.out) | exact HB.out)) hb); have n2_ := Aside0.mk (hbox); have n3_ := Aside0.mk ((by rw [hg]; exact (zao (by repeat (first | (with_reducible first | exact HB.out | apply zab | apply zad | apply zae | refine zaf ?_ GE198.out) | exact HB.out))) : w.heap.size ≤ gb200)); have n4_ := Aside0.mk ((by rw [hg]; exact (zao (by repeat (first | (with_reducible first | exact HB.out | apply zab | apply zad | apply zae | refine zaf ?_ GE198.out) | exact HB.out))) : w.heap.size ≤ gb200)); have n5_ := Aside0.mk ((by rw [hg]; exact Nat.ne_of_lt (zaA (g := gb198) (o := .cells #[.slice (some ad199) l0_0.length c0_0, .int .i64 a0_1, .int .i64 a0_2, .int .i64 a0_3, .int .i64 a0_4] 24 (0, 0)) (by (with_reducible repeat (first | refine zai ?_ _ | refine zal ?_ | refine zag ?_ _)); exact BK198.out)) : gb198 ≠ gb200)); have n6_ := Aside0.mk ((by rw [hg]; exact Nat.ne_of_gt (zaA (g := gb198) (o := .cells #[.slice (some ad199) l0_0.length c0_0, .int .i64 a0_1, .int .i64 a0_2, .int .i64 a0_3, .int .i64 a0_4] 24 (0, 0)) (by (with_reducible repeat (first | refine zai ?_ _ | refine zal ?_ | refine zag ?_ _)); exact BK198.out)) : gb200 ≠ gb198)); clear BK198; clear HB; have BK198 := n0_; have HB := n1_; have BK200 := n2_; have GW200 := n3_; have GE200 := n4_; have NB198_200 := n5_; have NB200_198 := n6_; clear n0_ n1_ n2_ n3_ n4_ n5_ n6_; clear hb hbox hg; have hnb21 := NB200_198.out; have hnc21 := NB198_200.out; have hcz22_0 : w20.cell? ⟨gb200, 0, none⟩ = some (.string (⟨#[]⟩ : ByteArray)) := (zac BK200.out 0).trans rfl; have hcz22_1 : w20.cell? ⟨gb200, 1, none⟩ = some (.slice none 0 0) := (zac BK200.out 1).trans rfl; have hcz22_2 : w20.cell? ⟨gb200, 2, none⟩ = some (.int .i64 0) := (zac BK200.out 2).trans rfl; have hcz22_3 : w20.cell? ⟨gb200, 3, none⟩ = some (.int .i64 0) := (zac BK200.out 3).trans rfl; have hcz22_4 : w20.cell? ⟨gb200, 4, none⟩ = some (.bool false) := (zac BK200.out 4).trans rfl; have hcz22_5 : w20.cell? ⟨gb200, 5, none⟩ = some (.string (⟨#[]⟩ : ByteArray)) := (zac BK200.out 5).trans rfl; have hcz22_6 : w20.cell? ⟨gb200, 6, none⟩ = some (.slice none 0 0) := (zac BK200.out 6).trans rfl; have hfz22_0 := zaa BK200.out 0; have hfz22_1 := zaa BK200.out 1; have hfz22_2 := zaa BK200.out 2; have hfz22_3 := zaa BK200.out 3; have hfz22_4 := zaa BK200.out 4; have hfz22_5 := zaa BK200.out 5; have hfz22_6 := zaa BK200.out 6) | ((with_reducible refine zap (f := 20) rfl ?_); refine zau (some 25) rfl rfl Try.func20 (by kernel_rfl) rfl #[.slice A199_1 ((zaj l0_0 x3_1).f1).length c199_1] rfl (by (try simp only [List.map_toArray, List.map_cons, List.map_nil]); first | done | rfl | (simp only [List.length_drop, List.length_take]; rfl)) ?_; (with_reducible refine (towncrierlaw08_Few.calls k1 _ _ ((zaj l0_0 x3_1).f1) true _ ?side1 ?side2 A9.out).mono ?_); (case side1 => exact Kd.C_below HR199_1.out (by repeat (first | (with_reducible first | exact HB.out | apply zab | apply zad | apply zae | refine zaf ?_ GE198.out | refine zaf ?_ GE200.out) | exact HB.out))); (case side2 => exact HC199_1.out); rintro e w' ⟨rfl, ⟨nd, rfl⟩⟩; refine ⟨_, rfl, ?_⟩) | ((with_reducible refine zap (f := 20) rfl ?_); refine zau (some 28) rfl rfl Try.func20 (by kernel_rfl) rfl #[.slice A199_6 ((zaj l0_0 x3_1).f6).length c199_6] rfl (by (try simp only [List.map_toArray, List.map_cons, List.map_nil]); first | done | rfl | (simp only [List.length_drop, List.length_take]; rfl)) ?_; (with_reducible refine (towncrierlaw08_Few.calls k1 _ _ ((zaj l0_0 x3_1).f6) true _ ?side1 ?side2 A10.out).mono ?_); (case side1 => exact Kd.C_below HR199_6.out (by repeat (first | (with_reducible first | exact HB.out | apply zab | apply zad | apply zae | refine zaf ?_ GE198.out | refine zaf ?_ GE200.out) | exact HB.out))); (case side2 => exact HC199_6.out); rintro e w' ⟨rfl, ⟨nd, rfl⟩⟩; refine ⟨_, rfl, ?_⟩))
          go_ret
          exact ⟨by first | rfl | (simp [zan, zam] <;> rfl) | (simp [*, zan, zam] <;> rfl), by repeat (first | (with_reducible first | exact HB.out | apply zab | apply zad | apply zae | refine zaf ?_ GE198.out | refine zaf ?_ GE200.out) | exact HB.out)⟩
         ·rw [if_neg c18] at H
          have c18b0 : decide (60 < (((zaj l0_0 x3_1).f5).size : Int)) = false := decide_eq_false c18
          have c18b1 : decide (60 < ((zaj l0_0 x3_1).f5).size) = false := decide_eq_false (by omega)
          clear c18
          have H' := Aside0.mk H
          clear H
          have hcz23_0 : wr.cell? ⟨gb198, 0, none⟩ = some (.slice A0_0 l0_0.length c0_0) := (zac BK198.out 0).trans rfl
          have hcz23_1 : wr.cell? ⟨gb198, 1, none⟩ = some (.int .i64 a0_1) := (zac BK198.out 1).trans rfl
          have hcz23_2 : wr.cell? ⟨gb198, 2, none⟩ = some (.int .i64 a0_2) := (zac BK198.out 2).trans rfl
          have hcz23_3 : wr.cell? ⟨gb198, 3, none⟩ = some (.int .i64 a0_3) := (zac BK198.out 3).trans rfl
          have hcz23_4 : wr.cell? ⟨gb198, 4, none⟩ = some (.int .i64 a0_4) := (zac BK198.out 4).trans rfl
          have hfz23_0 := zaa BK198.out 0
          have hfz23_1 := zaa BK198.out 1
          have hfz23_2 := zaa BK198.out 2
          have hfz23_3 := zaa BK198.out 3
          have hfz23_4 := zaa BK198.out 4
          have p199 : 0 ≤ (x3_1 : Int) := of_decide_eq_true (by first | (with_reducible assumption) | assumption)
          have q199 : x3_1 < (l0_0.length : Int) := of_decide_eq_true (by first | (with_reducible assumption) | assumption)
          obtain ⟨ad199, A199_1, c199_1, A199_6, c199_6, e199, hx199_0, hx199_1, hx199_2, hx199_3, hx199_4, hx199_5, hx199_6, hl199_1, hi199_1, hl199_6, hi199_6⟩ := zbi HR0_0.out x3_1 p199 q199
          cases e199
          replace hx199_0 := (HB.out.cell (World.block_lt_of_cell? w _ hx199_0)).trans hx199_0
          replace hx199_1 := (HB.out.cell (World.block_lt_of_cell? w _ hx199_1)).trans hx199_1
          replace hx199_2 := (HB.out.cell (World.block_lt_of_cell? w _ hx199_2)).trans hx199_2
          replace hx199_3 := (HB.out.cell (World.block_lt_of_cell? w _ hx199_3)).trans hx199_3
          replace hx199_4 := (HB.out.cell (World.block_lt_of_cell? w _ hx199_4)).trans hx199_4
          replace hx199_5 := (HB.out.cell (World.block_lt_of_cell? w _ hx199_5)).trans hx199_5
          replace hx199_6 := (HB.out.cell (World.block_lt_of_cell? w _ hx199_6)).trans hx199_6
          have HR199_1 := Aside0.mk hi199_1
          have HC199_1 := Aside0.mk hl199_1
          clear hi199_1 hl199_1
          have HR199_6 := Aside0.mk hi199_6
          have HC199_6 := Aside0.mk hl199_6
          clear hi199_6 hl199_6
          replace p199 := eq_true p199
          replace q199 := eq_true q199
          go_wp2_with (first | ((with_reducible refine zaw (N := 4) rfl ?_); (try (refine zaQ (by rfl) ?_; dsimp only)); refine zas ?hg (N := 4) ?hd (cs := #[.string (⟨#[]⟩ : ByteArray), .slice none 0 0, .int .i64 0, .int .i64 0, .bool false, .string (⟨#[]⟩ : ByteArray), .slice none 0 0]) (t := 40) ?hr ?_; (case hd => rfl); (case hg => rfl); (case hr => first | (go_simp; done) | (go_simp; rfl)); intro gb200 hg w24 hbox hb; have n0_ := Aside0.mk (zak (g := gb198) (o := .cells #[.slice (some ad199) l0_0.length c0_0, .int .i64 a0_1, .int .i64 a0_2, .int .i64 a0_3, .int .i64 a0_4] 24 (0, 0)) (by (with_reducible repeat (first | refine zai ?_ _ | refine zal ?_ | refine zag ?_ _)); exact BK198.out) hb); have n1_ := Aside0.mk (zah (by repeat (first | (with_reducible first | exact HB.out | apply zab | apply zad | apply zae | refine zaf ?_ GE198.out) | exact HB.out)) hb); have n2_ := Aside0.mk (hbox); have n3_ := Aside0.mk ((by rw [hg]; exact (zao (by repeat (first | (with_reducible first | exact HB.out | apply zab | apply zad | apply zae | refine zaf ?_ GE198.out) | exact HB.out))) : w.heap.size ≤ gb200)); have n4_ := Aside0.mk ((by rw [hg]; exact (zao (by repeat (first | (with_reducible first | exact HB.out | apply zab | apply zad | apply zae | refine zaf ?_ GE198.out) | exact HB.out))) : w.heap.size ≤ gb200)); have n5_ := Aside0.mk ((by rw [hg]; exact Nat.ne_of_lt (zaA (g := gb198) (o := .cells #[.slice (some ad199) l0_0.length c0_0, .int .i64 a0_1, .int .i64 a0_2, .int .i64 a0_3, .int .i64 a0_4] 24 (0, 0)) (by (with_reducible repeat (first | refine zai ?_ _ | refine zal ?_ | refine zag ?_ _)); exact BK198.out)) : gb198 ≠ gb200)); have n6_ := Aside0.mk ((by rw [hg]; exact Nat.ne_of_gt (zaA (g := gb198) (o := .cells #[.slice (some ad199) l0_0.length c0_0, .int .i64 a0_1, .int .i64 a0_2, .int .i64 a0_3, .int .i64 a0_4] 24 (0, 0)) (by (with_reducible repeat (first | refine zai ?_ _ | refine zal ?_ | refine zag ?_ _)); exact BK198.out)) : gb200 ≠ gb198)); clear BK198; clear HB; have BK198 := n0_; have HB := n1_; have BK200 := n2_; have GW200 := n3_; have GE200 := n4_; have NB198_200 := n5_; have NB200_198 := n6_; clear n0_ n1_ n2_ n3_ n4_ n5_ n6_; clear hb hbox hg; have hnb25 := NB200_198.out; have hnc25 := NB198_200.out; have hcz26_0 : w24.cell? ⟨gb200, 0, none⟩ = some (.string (⟨#[]⟩ : ByteArray)) := (zac BK200.out 0).trans rfl; have hcz26_1 : w24.cell? ⟨gb200, 1, none⟩ = some (.slice none 0 0) := (zac BK200.out 1).trans rfl; have hcz26_2 : w24.cell? ⟨gb200, 2, none⟩ = some (.int .i64 0) := (zac BK200.out 2).trans rfl; have hcz26_3 : w24.cell? ⟨gb200, 3, none⟩ = some (.int .i64 0) := (zac BK200.out 3).trans rfl; have hcz26_4 : w24.cell? ⟨gb200, 4, none⟩ = some (.bool false) := (zac BK200.out 4).trans rfl; have hcz26_5 : w24.cell? ⟨gb200, 5, none⟩ = some (.string (⟨#[]⟩ : ByteArray)) := (zac BK200.out 5).trans rfl; have hcz26_6 : w24.cell? ⟨gb200, 6, none⟩ = some (.slice none 0 0) := (zac BK200.out 6).trans rfl; have hfz26_0 := zaa BK200.out 0; have hfz26_1 := zaa BK200.out 1; have hfz26_2 := zaa BK200.out 2; have hfz26_3 := zaa BK200.out 3; have hfz26_4 := zaa BK200.out 4; have hfz26_5 := zaa BK200.out 5; have hfz26_6 := zaa BK200.out 6) | ((with_reducible refine zap (f := 20) rfl ?_); refine zau (some 25) rfl rfl Try.func20 (by kernel_rfl) rfl #[.slice A199_1 ((zaj l0_0 x3_1).f1).length c199_1] rfl (by (try simp only [List.map_toArray, List.map_cons, List.map_nil]); first | done | rfl | (simp only [List.length_drop, List.length_take]; rfl)) ?_; (with_reducible refine (towncrierlaw08_Few.calls k1 _ _ ((zaj l0_0 x3_1).f1) true _ ?side1 ?side2 A9.out).mono ?_); (case side1 => exact Kd.C_below HR199_1.out (by repeat (first | (with_reducible first | exact HB.out | apply zab | apply zad | apply zae | refine zaf ?_ GE198.out | refine zaf ?_ GE200.out) | exact HB.out))); (case side2 => exact HC199_1.out); rintro e w' ⟨rfl, ⟨nd, rfl⟩⟩; refine ⟨_, rfl, ?_⟩) | ((with_reducible refine zap (f := 20) rfl ?_); refine zau (some 28) rfl rfl Try.func20 (by kernel_rfl) rfl #[.slice A199_6 ((zaj l0_0 x3_1).f6).length c199_6] rfl (by (try simp only [List.map_toArray, List.map_cons, List.map_nil]); first | done | rfl | (simp only [List.length_drop, List.length_take]; rfl)) ?_; (with_reducible refine (towncrierlaw08_Few.calls k1 _ _ ((zaj l0_0 x3_1).f6) true _ ?side1 ?side2 A10.out).mono ?_); (case side1 => exact Kd.C_below HR199_6.out (by repeat (first | (with_reducible first | exact HB.out | apply zab | apply zad | apply zae | refine zaf ?_ GE198.out | refine zaf ?_ GE200.out) | exact HB.out))); (case side2 => exact HC199_6.out); rintro e w' ⟨rfl, ⟨nd, rfl⟩⟩; refine ⟨_, rfl, ?_⟩))
          go_roundg k1
          case measure => have := HK1.out; omega
          case rel => exact ⟨(wrap64 (x3_1 + 1)), (by first | rfl | (simp; done) | (simp [*]; done)), H', ⟨by have := HK1.out; omega⟩, ⟨by (with_reducible repeat (first | refine zai ?_ _ | refine zal ?_ | refine zag ?_ _)); refine zaG ?_ NB198_200.out _; (with_reducible repeat (first | refine zai ?_ _ | refine zal ?_ | refine zag ?_ _)); refine zaG ?_ NB198_200.out _; (with_reducible repeat (first | refine zai ?_ _ | refine zal ?_ | refine zag ?_ _)); refine zaG ?_ NB198_200.out _; (with_reducible repeat (first | refine zai ?_ _ | refine zal ?_ | refine zag ?_ _)); refine zaG ?_ NB198_200.out _; (with_reducible repeat (first | refine zai ?_ _ | refine zal ?_ | refine zag ?_ _)); refine zaG ?_ NB198_200.out _; (with_reducible repeat (first | refine zai ?_ _ | refine zal ?_ | refine zag ?_ _)); refine zaG ?_ NB198_200.out _; (with_reducible repeat (first | refine zai ?_ _ | refine zal ?_ | refine zag ?_ _)); refine zaG ?_ NB198_200.out _; (with_reducible repeat (first | refine zai ?_ _ | refine zal ?_ | refine zag ?_ _)); exact BK198.out⟩, ⟨by repeat (first | (with_reducible first | exact HB.out | apply zab | apply zad | apply zae | refine zaf ?_ GE198.out | refine zaf ?_ GE200.out) | exact HB.out)⟩⟩
       ·replace c12 := Bool.eq_false_iff.mpr c12
        subst c12
        have H1 : (some false) = some r := by rw [if_neg (show ¬ (false = true) by decide)] at H; exact H
        clear H
        have H := H1
        clear H1
        obtain rfl := Option.some.inj H
        have hcz27_0 : wr.cell? ⟨gb198, 0, none⟩ = some (.slice A0_0 l0_0.length c0_0) := (zac BK198.out 0).trans rfl
        have hcz27_1 : wr.cell? ⟨gb198, 1, none⟩ = some (.int .i64 a0_1) := (zac BK198.out 1).trans rfl
        have hcz27_2 : wr.cell? ⟨gb198, 2, none⟩ = some (.int .i64 a0_2) := (zac BK198.out 2).trans rfl
        have hcz27_3 : wr.cell? ⟨gb198, 3, none⟩ = some (.int .i64 a0_3) := (zac BK198.out 3).trans rfl
        have hcz27_4 : wr.cell? ⟨gb198, 4, none⟩ = some (.int .i64 a0_4) := (zac BK198.out 4).trans rfl
        have hfz27_0 := zaa BK198.out 0
        have hfz27_1 := zaa BK198.out 1
        have hfz27_2 := zaa BK198.out 2
        have hfz27_3 := zaa BK198.out 3
        have hfz27_4 := zaa BK198.out 4
        have p199 : 0 ≤ (x3_1 : Int) := of_decide_eq_true (by first | (with_reducible assumption) | assumption)
        have q199 : x3_1 < (l0_0.length : Int) := of_decide_eq_true (by first | (with_reducible assumption) | assumption)
        obtain ⟨ad199, A199_1, c199_1, A199_6, c199_6, e199, hx199_0, hx199_1, hx199_2, hx199_3, hx199_4, hx199_5, hx199_6, hl199_1, hi199_1, hl199_6, hi199_6⟩ := zbi HR0_0.out x3_1 p199 q199
        cases e199
        replace hx199_0 := (HB.out.cell (World.block_lt_of_cell? w _ hx199_0)).trans hx199_0
        replace hx199_1 := (HB.out.cell (World.block_lt_of_cell? w _ hx199_1)).trans hx199_1
        replace hx199_2 := (HB.out.cell (World.block_lt_of_cell? w _ hx199_2)).trans hx199_2
        replace hx199_3 := (HB.out.cell (World.block_lt_of_cell? w _ hx199_3)).trans hx199_3
        replace hx199_4 := (HB.out.cell (World.block_lt_of_cell? w _ hx199_4)).trans hx199_4
        replace hx199_5 := (HB.out.cell (World.block_lt_of_cell? w _ hx199_5)).trans hx199_5
        replace hx199_6 := (HB.out.cell (World.block_lt_of_cell? w _ hx199_6)).trans hx199_6
        have HR199_1 := Aside0.mk hi199_1
        have HC199_1 := Aside0.mk hl199_1
        clear hi199_1 hl199_1
        have HR199_6 := Aside0.mk hi199_6
        have HC199_6 := Aside0.mk hl199_6
        clear hi199_6 hl199_6
        replace p199 := eq_true p199
        replace q199 := eq_true q199
        go_wp2_with (first | ((with_reducible refine zaw (N := 4) rfl ?_); (try (refine zaQ (by rfl) ?_; dsimp only)); refine zas ?hg (N := 4) ?hd (cs := #[.string (⟨#[]⟩ : ByteArray), .slice none 0 0, .int .i64 0, .int .i64 0, .bool false, .string (⟨#[]⟩ : ByteArray), .slice none 0 0]) (t := 40) ?hr ?_; (case hd => rfl); (case hg => rfl); (case hr => first | (go_simp; done) | (go_simp; rfl)); intro gb200 hg w28 hbox hb; have n0_ := Aside0.mk (zak (g := gb198) (o := .cells #[.slice (some ad199) l0_0.length c0_0, .int .i64 a0_1, .int .i64 a0_2, .int .i64 a0_3, .int .i64 a0_4] 24 (0, 0)) (by (with_reducible repeat (first | refine zai ?_ _ | refine zal ?_ | refine zag ?_ _)); exact BK198.out) hb); have n1_ := Aside0.mk (zah (by repeat (first | (with_reducible first | exact HB.out | apply zab | apply zad | apply zae | refine zaf ?_ GE198.out) | exact HB.out)) hb); have n2_ := Aside0.mk (hbox); have n3_ := Aside0.mk ((by rw [hg]; exact (zao (by repeat (first | (with_reducible first | exact HB.out | apply zab | apply zad | apply zae | refine zaf ?_ GE198.out) | exact HB.out))) : w.heap.size ≤ gb200)); have n4_ := Aside0.mk ((by rw [hg]; exact (zao (by repeat (first | (with_reducible first | exact HB.out | apply zab | apply zad | apply zae | refine zaf ?_ GE198.out) | exact HB.out))) : w.heap.size ≤ gb200)); have n5_ := Aside0.mk ((by rw [hg]; exact Nat.ne_of_lt (zaA (g := gb198) (o := .cells #[.slice (some ad199) l0_0.length c0_0, .int .i64 a0_1, .int .i64 a0_2, .int .i64 a0_3, .int .i64 a0_4] 24 (0, 0)) (by (with_reducible repeat (first | refine zai ?_ _ | refine zal ?_ | refine zag ?_ _)); exact BK198.out)) : gb198 ≠ gb200)); have n6_ := Aside0.mk ((by rw [hg]; exact Nat.ne_of_gt (zaA (g := gb198) (o := .cells #[.slice (some ad199) l0_0.length c0_0, .int .i64 a0_1, .int .i64 a0_2, .int .i64 a0_3, .int .i64 a0_4] 24 (0, 0)) (by (with_reducible repeat (first | refine zai ?_ _ | refine zal ?_ | refine zag ?_ _)); exact BK198.out)) : gb200 ≠ gb198)); clear BK198; clear HB; have BK198 := n0_; have HB := n1_; have BK200 := n2_; have GW200 := n3_; have GE200 := n4_; have NB198_200 := n5_; have NB200_198 := n6_; clear n0_ n1_ n2_ n3_ n4_ n5_ n6_; clear hb hbox hg; have hnb29 := NB200_198.out; have hnc29 := NB198_200.out; have hcz30_0 : w28.cell? ⟨gb200, 0, none⟩ = some (.string (⟨#[]⟩ : ByteArray)) := (zac BK200.out 0).trans rfl; have hcz30_1 : w28.cell? ⟨gb200, 1, none⟩ = some (.slice none 0 0) := (zac BK200.out 1).trans rfl; have hcz30_2 : w28.cell? ⟨gb200, 2, none⟩ = some (.int .i64 0) := (zac BK200.out 2).trans rfl; have hcz30_3 : w28.cell? ⟨gb200, 3, none⟩ = some (.int .i64 0) := (zac BK200.out 3).trans rfl; have hcz30_4 : w28.cell? ⟨gb200, 4, none⟩ = some (.bool false) := (zac BK200.out 4).trans rfl; have hcz30_5 : w28.cell? ⟨gb200, 5, none⟩ = some (.string (⟨#[]⟩ : ByteArray)) := (zac BK200.out 5).trans rfl; have hcz30_6 : w28.cell? ⟨gb200, 6, none⟩ = some (.slice none 0 0) := (zac BK200.out 6).trans rfl; have hfz30_0 := zaa BK200.out 0; have hfz30_1 := zaa BK200.out 1; have hfz30_2 := zaa BK200.out 2; have hfz30_3 := zaa BK200.out 3; have hfz30_4 := zaa BK200.out 4; have hfz30_5 := zaa BK200.out 5; have hfz30_6 := zaa BK200.out 6) | ((with_reducible refine zap (f := 20) rfl ?_); refine zau (some 25) rfl rfl Try.func20 (by kernel_rfl) rfl #[.slice A199_1 ((zaj l0_0 x3_1).f1).length c199_1] rfl (by (try simp only [List.map_toArray, List.map_cons, List.map_nil]); first | done | rfl | (simp only [List.length_drop, List.length_take]; rfl)) ?_; (with_reducible refine (towncrierlaw08_Few.calls k1 _ _ ((zaj l0_0 x3_1).f1) true _ ?side1 ?side2 A9.out).mono ?_); (case side1 => exact Kd.C_below HR199_1.out (by repeat (first | (with_reducible first | exact HB.out | apply zab | apply zad | apply zae | refine zaf ?_ GE198.out | refine zaf ?_ GE200.out) | exact HB.out))); (case side2 => exact HC199_1.out); rintro e w' ⟨rfl, ⟨nd, rfl⟩⟩; refine ⟨_, rfl, ?_⟩) | ((with_reducible refine zap (f := 20) rfl ?_); refine zau (some 28) rfl rfl Try.func20 (by kernel_rfl) rfl #[.slice A199_6 ((zaj l0_0 x3_1).f6).length c199_6] rfl (by (try simp only [List.map_toArray, List.map_cons, List.map_nil]); first | done | rfl | (simp only [List.length_drop, List.length_take]; rfl)) ?_; (with_reducible refine (towncrierlaw08_Few.calls k1 _ _ ((zaj l0_0 x3_1).f6) false _ ?side1 ?side2 A10.out).mono ?_); (case side1 => exact Kd.C_below HR199_6.out (by repeat (first | (with_reducible first | exact HB.out | apply zab | apply zad | apply zae | refine zaf ?_ GE198.out | refine zaf ?_ GE200.out) | exact HB.out))); (case side2 => exact HC199_6.out); rintro e w' ⟨rfl, ⟨nd, rfl⟩⟩; refine ⟨_, rfl, ?_⟩))
        go_ret
        exact ⟨by first | rfl | (simp [zan, zam] <;> rfl) | (simp [*, zan, zam] <;> rfl), by repeat (first | (with_reducible first | exact HB.out | apply zab | apply zad | apply zae | refine zaf ?_ GE198.out | refine zaf ?_ GE200.out) | exact HB.out)⟩
      ·replace c11 := Bool.eq_false_iff.mpr c11
       subst c11
       have H1 : (some false) = some r := by rw [if_neg (show ¬ (false = true) by decide)] at H; exact H
       clear H
       have H := H1
       clear H1
       obtain rfl := Option.some.inj H
       have hcz31_0 : wr.cell? ⟨gb198, 0, none⟩ = some (.slice A0_0 l0_0.length c0_0) := (zac BK198.out 0).trans rfl
       have hcz31_1 : wr.cell? ⟨gb198, 1, none⟩ = some (.int .i64 a0_1) := (zac BK198.out 1).trans rfl
       have hcz31_2 : wr.cell? ⟨gb198, 2, none⟩ = some (.int .i64 a0_2) := (zac BK198.out 2).trans rfl
       have hcz31_3 : wr.cell? ⟨gb198, 3, none⟩ = some (.int .i64 a0_3) := (zac BK198.out 3).trans rfl
       have hcz31_4 : wr.cell? ⟨gb198, 4, none⟩ = some (.int .i64 a0_4) := (zac BK198.out 4).trans rfl
       have hfz31_0 := zaa BK198.out 0
       have hfz31_1 := zaa BK198.out 1
       have hfz31_2 := zaa BK198.out 2
       have hfz31_3 := zaa BK198.out 3
       have hfz31_4 := zaa BK198.out 4
       have p199 : 0 ≤ (x3_1 : Int) := of_decide_eq_true (by first | (with_reducible assumption) | assumption)
       have q199 : x3_1 < (l0_0.length : Int) := of_decide_eq_true (by first | (with_reducible assumption) | assumption)
       obtain ⟨ad199, A199_1, c199_1, A199_6, c199_6, e199, hx199_0, hx199_1, hx199_2, hx199_3, hx199_4, hx199_5, hx199_6, hl199_1, hi199_1, hl199_6, hi199_6⟩ := zbi HR0_0.out x3_1 p199 q199
       cases e199
       replace hx199_0 := (HB.out.cell (World.block_lt_of_cell? w _ hx199_0)).trans hx199_0
       replace hx199_1 := (HB.out.cell (World.block_lt_of_cell? w _ hx199_1)).trans hx199_1
       replace hx199_2 := (HB.out.cell (World.block_lt_of_cell? w _ hx199_2)).trans hx199_2
       replace hx199_3 := (HB.out.cell (World.block_lt_of_cell? w _ hx199_3)).trans hx199_3
       replace hx199_4 := (HB.out.cell (World.block_lt_of_cell? w _ hx199_4)).trans hx199_4
       replace hx199_5 := (HB.out.cell (World.block_lt_of_cell? w _ hx199_5)).trans hx199_5
       replace hx199_6 := (HB.out.cell (World.block_lt_of_cell? w _ hx199_6)).trans hx199_6
       have HR199_1 := Aside0.mk hi199_1
       have HC199_1 := Aside0.mk hl199_1
       clear hi199_1 hl199_1
       have HR199_6 := Aside0.mk hi199_6
       have HC199_6 := Aside0.mk hl199_6
       clear hi199_6 hl199_6
       replace p199 := eq_true p199
       replace q199 := eq_true q199
       go_wp2_with (first | ((with_reducible refine zaw (N := 4) rfl ?_); (try (refine zaQ (by rfl) ?_; dsimp only)); refine zas ?hg (N := 4) ?hd (cs := #[.string (⟨#[]⟩ : ByteArray), .slice none 0 0, .int .i64 0, .int .i64 0, .bool false, .string (⟨#[]⟩ : ByteArray), .slice none 0 0]) (t := 40) ?hr ?_; (case hd => rfl); (case hg => rfl); (case hr => first | (go_simp; done) | (go_simp; rfl)); intro gb200 hg w32 hbox hb; have n0_ := Aside0.mk (zak (g := gb198) (o := .cells #[.slice (some ad199) l0_0.length c0_0, .int .i64 a0_1, .int .i64 a0_2, .int .i64 a0_3, .int .i64 a0_4] 24 (0, 0)) (by (with_reducible repeat (first | refine zai ?_ _ | refine zal ?_ | refine zag ?_ _)); exact BK198.out) hb); have n1_ := Aside0.mk (zah (by repeat (first | (with_reducible first | exact HB.out | apply zab | apply zad | apply zae | refine zaf ?_ GE198.out) | exact HB.out)) hb); have n2_ := Aside0.mk (hbox); have n3_ := Aside0.mk ((by rw [hg]; exact (zao (by repeat (first | (with_reducible first | exact HB.out | apply zab | apply zad | apply zae | refine zaf ?_ GE198.out) | exact HB.out))) : w.heap.size ≤ gb200)); have n4_ := Aside0.mk ((by rw [hg]; exact (zao (by repeat (first | (with_reducible first | exact HB.out | apply zab | apply zad | apply zae | refine zaf ?_ GE198.out) | exact HB.out))) : w.heap.size ≤ gb200)); have n5_ := Aside0.mk ((by rw [hg]; exact Nat.ne_of_lt (zaA (g := gb198) (o := .cells #[.slice (some ad199) l0_0.length c0_0, .int .i64 a0_1, .int .i64 a0_2, .int .i64 a0_3, .int .i64 a0_4] 24 (0, 0)) (by (with_reducible repeat (first | refine zai ?_ _ | refine zal ?_ | refine zag ?_ _)); exact BK198.out)) : gb198 ≠ gb200)); have n6_ := Aside0.mk ((by rw [hg]; exact Nat.ne_of_gt (zaA (g := gb198) (o := .cells #[.slice (some ad199) l0_0.length c0_0, .int .i64 a0_1, .int .i64 a0_2, .int .i64 a0_3, .int .i64 a0_4] 24 (0, 0)) (by (with_reducible repeat (first | refine zai ?_ _ | refine zal ?_ | refine zag ?_ _)); exact BK198.out)) : gb200 ≠ gb198)); clear BK198; clear HB; have BK198 := n0_; have HB := n1_; have BK200 := n2_; have GW200 := n3_; have GE200 := n4_; have NB198_200 := n5_; have NB200_198 := n6_; clear n0_ n1_ n2_ n3_ n4_ n5_ n6_; clear hb hbox hg; have hnb33 := NB200_198.out; have hnc33 := NB198_200.out; have hcz34_0 : w32.cell? ⟨gb200, 0, none⟩ = some (.string (⟨#[]⟩ : ByteArray)) := (zac BK200.out 0).trans rfl; have hcz34_1 : w32.cell? ⟨gb200, 1, none⟩ = some (.slice none 0 0) := (zac BK200.out 1).trans rfl; have hcz34_2 : w32.cell? ⟨gb200, 2, none⟩ = some (.int .i64 0) := (zac BK200.out 2).trans rfl; have hcz34_3 : w32.cell? ⟨gb200, 3, none⟩ = some (.int .i64 0) := (zac BK200.out 3).trans rfl; have hcz34_4 : w32.cell? ⟨gb200, 4, none⟩ = some (.bool false) := (zac BK200.out 4).trans rfl; have hcz34_5 : w32.cell? ⟨gb200, 5, none⟩ = some (.string (⟨#[]⟩ : ByteArray)) := (zac BK200.out 5).trans rfl; have hcz34_6 : w32.cell? ⟨gb200, 6, none⟩ = some (.slice none 0 0) := (zac BK200.out 6).trans rfl; have hfz34_0 := zaa BK200.out 0; have hfz34_1 := zaa BK200.out 1; have hfz34_2 := zaa BK200.out 2; have hfz34_3 := zaa BK200.out 3; have hfz34_4 := zaa BK200.out 4; have hfz34_5 := zaa BK200.out 5; have hfz34_6 := zaa BK200.out 6) | ((with_reducible refine zap (f := 20) rfl ?_); refine zau (some 25) rfl rfl Try.func20 (by kernel_rfl) rfl #[.slice A199_1 ((zaj l0_0 x3_1).f1).length c199_1] rfl (by (try simp only [List.map_toArray, List.map_cons, List.map_nil]); first | done | rfl | (simp only [List.length_drop, List.length_take]; rfl)) ?_; (with_reducible refine (towncrierlaw08_Few.calls k1 _ _ ((zaj l0_0 x3_1).f1) false _ ?side1 ?side2 A9.out).mono ?_); (case side1 => exact Kd.C_below HR199_1.out (by repeat (first | (with_reducible first | exact HB.out | apply zab | apply zad | apply zae | refine zaf ?_ GE198.out | refine zaf ?_ GE200.out) | exact HB.out))); (case side2 => exact HC199_1.out); rintro e w' ⟨rfl, ⟨nd, rfl⟩⟩; refine ⟨_, rfl, ?_⟩) | ((with_reducible refine zap (f := 20) rfl ?_); refine zau (some 28) rfl rfl Try.func20 (by kernel_rfl) rfl #[.slice A199_6 ((zaj l0_0 x3_1).f6).length c199_6] rfl (by (try simp only [List.map_toArray, List.map_cons, List.map_nil]); first | done | rfl | (simp only [List.length_drop, List.length_take]; rfl)) ?_; (with_reducible refine (towncrierlaw08_Few.calls k1 _ _ ((zaj l0_0 x3_1).f6) t202 _ ?side1 ?side2 A10.out).mono ?_); (case side1 => exact Kd.C_below HR199_6.out (by repeat (first | (with_reducible first | exact HB.out | apply zab | apply zad | apply zae | refine zaf ?_ GE198.out | refine zaf ?_ GE200.out) | exact HB.out))); (case side2 => exact HC199_6.out); rintro e w' ⟨rfl, ⟨nd, rfl⟩⟩; refine ⟨_, rfl, ?_⟩))
       go_ret
       exact ⟨by first | rfl | (simp [zan, zam] <;> rfl) | (simp [*, zan, zam] <;> rfl), by repeat (first | (with_reducible first | exact HB.out | apply zab | apply zad | apply zae | refine zaf ?_ GE198.out | refine zaf ?_ GE200.out) | exact HB.out)⟩
     ·rw [if_neg c8] at H
      exact absurd H (by simp)
    ·rw [if_neg c7] at H
     have c7b0 : decide (x3_1 < (l0_0.length : Int)) = false := decide_eq_false c7
     clear c7
     obtain rfl := Option.some.inj H
     have hcz35_0 : wr.cell? ⟨gb198, 0, none⟩ = some (.slice A0_0 l0_0.length c0_0) := (zac BK198.out 0).trans rfl
     have hcz35_1 : wr.cell? ⟨gb198, 1, none⟩ = some (.int .i64 a0_1) := (zac BK198.out 1).trans rfl
     have hcz35_2 : wr.cell? ⟨gb198, 2, none⟩ = some (.int .i64 a0_2) := (zac BK198.out 2).trans rfl
     have hcz35_3 : wr.cell? ⟨gb198, 3, none⟩ = some (.int .i64 a0_3) := (zac BK198.out 3).trans rfl
     have hcz35_4 : wr.cell? ⟨gb198, 4, none⟩ = some (.int .i64 a0_4) := (zac BK198.out 4).trans rfl
     have hfz35_0 := zaa BK198.out 0
     have hfz35_1 := zaa BK198.out 1
     have hfz35_2 := zaa BK198.out 2
     have hfz35_3 := zaa BK198.out 3
     have hfz35_4 := zaa BK198.out 4
     go_wp2
     go_ret
     exact ⟨by first | rfl | (simp [zan, zam] <;> rfl) | (simp [*, zan, zam] <;> rfl), by repeat (first | (with_reducible first | exact HB.out | apply zab | apply zad | apply zae | refine zaf ?_ GE198.out) | exact HB.out)⟩
end Go.Proofs.Ytooemobolfoefaa.P



namespace Go.Proofs.Ytooemobolfoefaa.P
open Go.RowKit Go.Proofs.YtooemobolfoefaaW.PrintWords Go.Proofs.YtooemobolfoefaaW.PrintLast Go.Proofs.YtooemobolfoefaaW.PrintMore
set_option linter.unusedVariables false
set_option linter.unusedSimpArgs false
theorem kQuery_cells {w : World} {x : SQuery} {cs : List Value} (h : kQuery.K w x cs) : ∃ A c, cs = [.slice A x.f0.length c, .int .i64 x.f1, .int .i64 x.f2, .int .i64 x.f3, .int .i64 x.f4] ∧ x.f0.length ≤ c ∧ kStep.C w A x.f0.length x.f0 := by
 obtain ⟨A, c, rfl, h1, h2⟩ := kQuery_open h
 exact ⟨A, c, rfl, h1, h2⟩
theorem wfQ_ok {x : SQuery} (h : wfQuery x) : okQ x ∧ x.f0.length < 4611686018427387904 := by
 obtain ⟨⟨h1, h2⟩, _⟩ := h
 refine ⟨fun y hy => ?_, by omega⟩
 obtain ⟨_, ⟨_, h3⟩, _, _, _, _, ⟨_, h4⟩⟩ := h2 y hy
 exact ⟨i64B_iff.2 fun z hz => i64V_of (h3 z hz).2.2, i64B_iff.2 fun z hz => i64V_of (h4 z hz).2.2⟩
theorem few8_any (l : List SOp) {k : Nat} (hk : 20 < k) : ∃ b, towncrierlaw08_Few.f k l = some b := by
 unfold towncrierlaw08_Few.f
 by_cases h : (l.length : Int) > 20
 ·rw [if_pos h]; exact ⟨false, rfl⟩
 ·rw [if_neg h]
  exact few8_loop l (by omega) l.length 0 k (by omega) (by omega)
theorem few9_loop (l : List SStep) (hl : l.length ≤ 8) (a b c d : Int) : ∀ (n i k : Nat), i + n = l.length → n + 22 < k → ∃ r, towncrierlaw09_Few.l0 k i l a b c d = some r := by
 intro n
 induction n with
 | zero =>
  intro i k hi hk
  obtain ⟨k, rfl⟩ := rounds_of hk
  simp only [towncrierlaw09_Few.l0]
  rw [if_neg (by omega)]
  exact ⟨_, rfl⟩
 | succ n ih =>
  intro i k hi hk
  obtain ⟨k, rfl⟩ := rounds_of hk
  simp only [towncrierlaw09_Few.l0]
  rw [if_pos (by omega), if_pos (by omega), wrap_succ (by omega)]
  obtain ⟨x, hx⟩ := few8_any (zaj l (i : Int)).f1 (k := k) (by omega)
  obtain ⟨y, hy⟩ := few8_any (zaj l (i : Int)).f6 (k := k) (by omega)
  obtain ⟨z, hz⟩ := ih (i + 1) k (by omega) (by omega)
  rw [hx, hy, Option.bind_some, Option.bind_some, hz]
  repeat' split
  all_goals exact ⟨_, rfl⟩
theorem few9_told (q : SQuery) : ∃ b, (b = true → q.f0.length ≤ 8) ∧ ∀ (A : Option Addr) (c : Nat) (w : World), Kd.C kStep w A q.f0.length q.f0 → q.f0.length ≤ c → Calls Try.prog 10 #[.agg #[.slice A q.f0.length c, .int .i64 q.f1, .int .i64 q.f2, .int .i64 q.f3, .int .i64 q.f4]] w (zaS b w) := by
 have key : ∃ b, towncrierlaw09_Few.f 40 q.f0 q.f1 q.f2 q.f3 q.f4 = some b ∧ (b = true → q.f0.length ≤ 8) := by
  unfold towncrierlaw09_Few.f
  by_cases h : (q.f0.length : Int) > 8
  ·rw [if_pos h]; exact ⟨false, rfl, fun h => by cases h⟩
  ·rw [if_neg h]
   obtain ⟨b, hb⟩ := few9_loop q.f0 (by omega) q.f1 q.f2 q.f3 q.f4 q.f0.length 0 40 (by omega) (by omega)
   exact ⟨b, hb, fun _ => by omega⟩
 obtain ⟨b, h1, h2⟩ := key
 exact ⟨b, h2, fun A c w hr hc => (towncrierlaw09_Few.calls 40 A c q.f0 q.f1 q.f2 q.f3 q.f4 b w hr hc h1).mono fun e w' h => by first | exact h | exact ⟨h.1, h.2.below⟩⟩
theorem C_lone {α : Type} {d : Kd α} {W : World} {B T : Nat} {x : α} {cs : List Value} (h : W.heap[B]? = some (.cells cs.toArray T (0, 0))) (hk : d.K W x cs) (hl : cs.length = d.sz) : Kd.C d W (some ⟨B, 0, none⟩) 1 [x] := by
 refine ⟨rfl, by decide, fun _ => ⟨_, rfl, fun j l hj => ?_⟩⟩
 match j with
 | j + 1 => simp at hj
 | 0 =>
  simp at hj
  subst hj
  refine ⟨cs, hl, hk, fun i u hu => ?_⟩
  rw [Nat.zero_mul, add_plain, zac h]
  simpa using hu
def oneS : SStep := ⟨⟨#[97]⟩, [], 1, 1, false, ⟨#[]⟩, []⟩
def oneQ : SQuery := ⟨[oneS], 0, 0, 0, 0⟩
def oneL : List Int := [1, 1, 97, 0, 1, 1, 0, 0, 0, 0, 0]
def exS9 : SSchema := ⟨⟨#[97]⟩, 1, []⟩
theorem oneQ_may : mayQ oneQ = true := by decide +kernel
theorem oneQ_ok : okQ oneQ := fun x hx => by rw [List.mem_singleton.1 hx]; exact ⟨rfl, rfl⟩
theorem oneQ_bytes : zbr oneQ = oneL := by decide +kernel
theorem oneQ_get : gotQ (getQ oneL) = (oneQ, 11, true) := by
 have h := getQ_put [] oneQ_may oneQ_ok
 rw [List.append_nil, oneQ_bytes] at h
 rw [h]
 rfl
theorem oneQ_check : query_Check.f 12 [exS9] [oneS] 0 0 0 0 = some 0 := by decide +kernel
theorem oneQ_none : query_Check.f 12 [] [oneS] 0 0 0 0 = some 3 := by decide +kernel
theorem one_told (w : World) : Calls Try.prog 19 #[] w fun e w' => ∃ v, e = .returned (.agg #[v, .int .i64 0, .int .i64 0, .int .i64 0, .int .i64 0]) ∧ Kd.R kStep 40 w' w.heap.size (fun _ => True) v [oneS] ∧ Below w.heap.size w w' :=
 (towncrierlaw09_One.calls [oneS] 0 0 0 0 w rfl).mono fun e w' ⟨v, h1, h2, h3⟩ => ⟨v, h1, Kd.S_R h2, h3⟩
theorem get9_told (w : World) (A : Option Addr) (c : Nat) (hr : Kd.C (Kd.int .u8) w A 11 oneL) (hc : 11 ≤ c) : Calls Try.prog 12 #[.slice A 11 c] w fun e w' => ∃ A3 c3, e = .returned (.tuple #[.agg #[.slice A3 1 c3, .int .i64 0, .int .i64 0, .int .i64 0, .int .i64 0], .int .i64 11, .bool true]) ∧ 1 ≤ c3 ∧ Kd.C kStep w' A3 1 [oneS] ∧ Below w.heap.size w w' := by
 refine (getQ_told w A c oneL hr hc (by decide) (by decide) oneQ_get).mono ?_
 rintro e w' ⟨v, rfl, ho, _, hb⟩
 obtain ⟨A3, c3, rfl, h1, h2⟩ := Kd.R_reads ho
 exact ⟨A3, c3, rfl, h1, h2, hb⟩
theorem put9_told (w : World) (A : Option Addr) (c : Nat) (hr : Kd.C kStep w A 1 [oneS]) (hc : 1 ≤ c) : Calls Try.prog 11 #[.agg #[.slice A 1 c, .int .i64 0, .int .i64 0, .int .i64 0, .int .i64 0]] w fun e w' => ∃ A3 c3, e = .returned (.tuple #[.slice A3 11 c3, .bool true]) ∧ 11 ≤ c3 ∧ Kd.C (Kd.int .u8) w' A3 11 oneL ∧ Below w.heap.size w w' := by
 refine (putQ_told oneQ A c w hr hc oneQ_ok (by decide) oneQ_may ((if_pos rfl).trans oneQ_bytes)).mono ?_
 rintro e w' ⟨v, rfl, ho, hb⟩
 obtain ⟨A3, c3, rfl, h1, h2⟩ := Own8.reads ho
 exact ⟨A3, c3, rfl, h1, h2, hb⟩
theorem one9_told (w : World) : Calls Try.prog 19 #[] w fun e w' => ∃ A3 c3, e = .returned (.agg #[.slice A3 1 c3, .int .i64 0, .int .i64 0, .int .i64 0, .int .i64 0]) ∧ 1 ≤ c3 ∧ Kd.C kStep w' A3 1 [oneS] ∧ Below w.heap.size w w' := by
 refine (one_told w).mono ?_
 rintro e w' ⟨v, rfl, ho, hb⟩
 obtain ⟨A3, c3, rfl, h1, h2⟩ := Kd.R_reads ho
 exact ⟨A3, c3, rfl, h1, h2, hb⟩
theorem same9_told (w : World) (A B : Option Addr) (c d : Nat) (hr : Kd.C kStep w A 1 [oneS]) (hc : 1 ≤ c) (hs : Kd.C kStep w B 1 [oneS]) (hd : 1 ≤ d) : Calls Try.prog 13 #[.agg #[.slice A 1 c, .int .i64 0, .int .i64 0, .int .i64 0, .int .i64 0], .agg #[.slice B 1 d, .int .i64 0, .int .i64 0, .int .i64 0, .int .i64 0]] w (zaS true w) := sameQ_told oneQ oneQ A c B d w hr hc hs hd (eqQ_refl _)
theorem check9_told (w : World) (A B : Option Addr) (c d : Nat) (hr : Kd.C kSchema w A 1 [exS9]) (hc : 1 ≤ c) (hs : Kd.C kStep w B 1 [oneS]) (hd : 1 ≤ d) : Calls Try.prog 15 #[.slice A 1 c, .agg #[.slice B 1 d, .int .i64 0, .int .i64 0, .int .i64 0, .int .i64 0]] w fun e w' => e = .returned (.int .i64 0) ∧ Below w.heap.size w w' := query_Check.calls 12 A c [exS9] B d [oneS] 0 0 0 0 0 w hr hc hs hd oneQ_check
theorem check90_told (w : World) (B : Option Addr) (d : Nat) (hs : Kd.C kStep w B 1 [oneS]) (hd : 1 ≤ d) : Calls Try.prog 15 #[.slice none 0 0, .agg #[.slice B 1 d, .int .i64 0, .int .i64 0, .int .i64 0, .int .i64 0]] w fun e w' => e = .returned (.int .i64 3) ∧ Below w.heap.size w w' := query_Check.calls 12 none 0 [] B d [oneS] 0 0 0 0 3 w (Kd.C_nil _ _) (Nat.le_refl _) hs hd oneQ_none
set_option maxHeartbeats 8000000 in
set_option maxRecDepth 100000 in
theorem awake9_told (w : World) : Calls Try.prog 9 #[] w (zaS true w) := by
 go_enter Try.func9, Try.ntmps9
 go_wp2_with fail
 go_at_call 19
 refine (one9_told _).mono ?_
 rintro e w1 ⟨A1, c1, rfl, hc1, hr1, hb1⟩
 have HR1 := Aside0.mk hr1
 have HC1 := Aside0.mk hc1
 have HBY := Aside0.mk hb1
 clear hr1 hc1 hb1
 go_wp2_with fail
 go_at_call 11
 refine (put9_told _ A1 c1 HR1.out HC1.out).mono ?_
 rintro e w2 ⟨A2, c2, rfl, hc2, hr2, hb2⟩
 have HR2 := Aside0.mk hr2
 have HC2 := Aside0.mk hc2
 have HBY := Aside0.mk (zah HBY.out hb2)
 clear hr2 hc2 hb2
 go_wp2_with fail
 go_at_call 12
 refine (get9_told _ A2 c2 HR2.out HC2.out).mono ?_
 rintro e w3 ⟨A3, c3, rfl, hc3, hr3, hb3⟩
 have HC3 := Aside0.mk hc3
 obtain ⟨B, hB⟩ : ∃ B, w3.heap.size = B := ⟨_, rfl⟩
 have HQ : Aside0 (((w3.alloc (.cells #[.slice A3 1 c3, .int .i64 0, .int .i64 0, .int .i64 0, .int .i64 0] 24)).alloc (.cells #[.string ⟨#[97]⟩, .int .i64 1, .slice none 0 0] 43)).heap[B]? = some (.cells #[.slice A3 1 c3, .int .i64 0, .int .i64 0, .int .i64 0, .int .i64 0] 24 (0, 0))) := ⟨by rw [← hB]; exact zag (zat w3 _) _⟩
 have HL := Aside0.mk (show Kd.C kSchema ((w3.alloc (.cells #[.slice A3 1 c3, .int .i64 0, .int .i64 0, .int .i64 0, .int .i64 0] 24)).alloc (.cells #[.string ⟨#[97]⟩, .int .i64 1, .slice none 0 0] 43)) (some ⟨w3.heap.size + 1, 0, none⟩) 1 [exS9] from C_lone (T := 43) (cs := [.string ⟨#[97]⟩, .int .i64 1, .slice none 0 0]) (za7 w3 _ _) (kSchema_mk _ exS9 (A2 := none) (c2 := 0) (Nat.le_refl _) (Kd.C_nil _ _)) rfl)
 have HBW := Aside0.mk (zab (zab (Below.refl w3.heap.size w3) (.cells #[.slice A3 1 c3, .int .i64 0, .int .i64 0, .int .i64 0, .int .i64 0] 24)) (.cells #[.string ⟨#[97]⟩, .int .i64 1, .slice none 0 0] 43))
 have HBY := Aside0.mk (zah (zah HBY.out hb3) HBW.out)
 have HR2W := Aside0.mk (Kd.C_below (Kd.C_below HR2.out hb3) HBW.out)
 have HR3W := Aside0.mk (Kd.C_below hr3 HBW.out)
 clear hr3 hc3 hb3
 go_upto_region 4 with fail
 simp only [hB] at HL ⊢
 generalize (w3.alloc (.cells #[.slice A3 1 c3, .int .i64 0, .int .i64 0, .int .i64 0, .int .i64 0] 24)).alloc (.cells #[.string ⟨#[97]⟩, .int .i64 1, .slice none 0 0] 43) = W3 at HQ HL HBY HR2W HR3W HBW ⊢
 have HCV : Aside0 (∀ W, Below W3.heap.size W3 W → (Go.convert 25 9 (.slice A2 11 c2)).run Try.prog W = .ok (.string (⟨#[1, 1, 97, 0, 1, 1, 0, 0, 0, 0, 0]⟩ : ByteArray)) W) := ⟨fun W h => by
  have z := Kd.C_string (P := Try.prog) (c := c2) Try.underlying25 Try.underlying5 Try.underlying9 (Kd.C_below HR2W.out h)
  rw [show strOfNums oneL = (⟨#[1, 1, 97, 0, 1, 1, 0, 0, 0, 0, 0]⟩ : ByteArray) from toList_inj (by decide +kernel)] at z
  exact z⟩
 have he0 := zac (zal HQ.out) 0
 have he1 := zac (zal HQ.out) 1
 have he2 := zac (zal HQ.out) 2
 have he3 := zac (zal HQ.out) 3
 have he4 := zac (zal HQ.out) 4
 have HBD := Aside0.mk (zaM (Below.refl W3.heap.size W3))
 have hcv := HCV.out _ HBD.out
 have HBYS := HBY
 clear hB HBW HBY HR1 HR2 HC1 HC2
 go_region_held3 (fun w' => w'.cell? ⟨B, 0, none⟩ = some (.slice A3 1 c3) ∧ w'.cell? ⟨B, 1, none⟩ = some (.int .i64 0) ∧ w'.cell? ⟨B, 2, none⟩ = some (.int .i64 0) ∧ w'.cell? ⟨B, 3, none⟩ = some (.int .i64 0) ∧ w'.cell? ⟨B, 4, none⟩ = some (.int .i64 0) ∧ (Go.convert 25 9 (.slice A2 11 c2)).run Try.prog w' = .ok (.string (⟨#[1, 1, 97, 0, 1, 1, 0, 0, 0, 0, 0]⟩ : ByteArray)) w')
  (first | go_keep | (go_split_ands; refine ⟨zac (zak HQ.out HBD.out) 0, zac (zak HQ.out HBD.out) 1, zac (zak HQ.out HBD.out) 2, zac (zak HQ.out HBD.out) 3, zac (zak HQ.out HBD.out) 4, ?_⟩; exact HCV.out _ HBD.out))
  (first
   | (go_at_call 19; refine (one9_told _).mono ?_; rintro e w6 ⟨A6, c6, rfl, hc6, hr6, hb6⟩; have HR6 := Aside0.mk hr6; have HC6 := Aside0.mk hc6; have HBD := Aside0.mk (zah HBD.out hb6); clear hr6 hc6)
   | (go_at_call 13; refine (same9_told _ A3 A6 c3 c6 (Kd.C_below HR3W.out HBD.out) HC3.out HR6.out HC6.out).mono ?_; rintro e w7 ⟨rfl, hb7⟩; have HBD := Aside0.mk (zah HBD.out hb7))
   | (go_at_call_of 15 (Value.slice none 0 0); refine (check90_told _ A3 c3 (Kd.C_below HR3W.out HBD.out) HC3.out).mono ?_; rintro e w9 ⟨rfl, hb9⟩; have HBD := Aside0.mk (zah HBD.out hb9))
   | (go_at_call 15; refine (check9_told _ (some ⟨B + 1, 0, none⟩) A3 1 c3 (Kd.C_below HL.out HBD.out) (Nat.le_refl _) (Kd.C_below HR3W.out HBD.out) HC3.out).mono ?_; rintro e w8 ⟨rfl, hb8⟩; have HBD := Aside0.mk (zah HBD.out hb8)))
 all_goals
  go_wp2_with fail
  go_ret
  exact ⟨rfl, zah HBYS.out HBD.out⟩
end Go.Proofs.Ytooemobolfoefaa.P


namespace Go.Proofs.Ytooemobolfoefaa.P
open Go.RowKit Go.Proofs.YtooemobolfoefaaW.PrintWords Go.Proofs.YtooemobolfoefaaW.PrintLast Go.Proofs.YtooemobolfoefaaW.PrintMore
attribute [local go_sem] zaX zaV zbf zbe zaO zaN zaW zaU   -- for this text's walks alone
set_option linter.unusedVariables false
set_option linter.unusedSimpArgs false
theorem openArg0_QuerySame : Opens Try.prog 24 kQuery wfQuery := openQuery
theorem openArg1_QuerySame : Opens Try.prog 24 kQuery wfQuery := openQuery
def QuerySame.Stmt : Prop := ∀ (W : World) (x0 : SQuery) (cs0 : List Value) (K0 : kQuery.K W x0 cs0) (w0 : wfQuery x0) (x1 : SQuery) (cs1 : List Value) (K1 : kQuery.K W x1 cs1) (w1 : wfQuery x1),
  Calls Try.prog 6 #[.agg cs0.toArray, .agg cs1.toArray] W fun e w' => e = .returned (.bool true) ∧ Below W.heap.size W w'
end Go.Proofs.Ytooemobolfoefaa.P


namespace Go.Proofs.Ytooemobolfoefaa.P
open Go.RowKit Go.Proofs.YtooemobolfoefaaW.PrintWords Go.Proofs.YtooemobolfoefaaW.PrintLast Go.Proofs.YtooemobolfoefaaW.PrintMore
set_option linter.unusedVariables false
set_option linter.unusedSimpArgs false
theorem bytesQ_same {x y : SQuery} (hxi : okQ x) (hyi : okQ y) (hx : mayQ x = true) (hy : mayQ y = true) : ((strOfNums (zbr x)).toList == (strOfNums (zbr y)).toList) = eqQ x y := by
 rw [Bool.eq_iff_iff, beq_iff_eq, eqQ_iff]
 constructor
 ·intro h
  exact bytesQ_inj hx hxi hy hyi (str_inj (bytesQ_byte hx) (bytesQ_byte hy) h)
 ·rintro rfl
  rfl
theorem eqQ_time (x : SQuery) {y : Int} (h : y ≠ x.f1) : eqQ x ⟨x.f0, y, x.f2, x.f3, x.f4⟩ = false := by
 rw [← Bool.not_eq_true, eqQ_iff]
 intro h2
 exact h (congrArg SQuery.f1 h2).symm
theorem eqQ_more (x : SQuery) {F : List SStep} (h : F.length ≠ x.f0.length) : eqQ x ⟨F, x.f1, x.f2, x.f3, x.f4⟩ = false := by
 rw [← Bool.not_eq_true, eqQ_iff]
 intro h2
 exact h (congrArg (fun q => q.f0.length) h2).symm
theorem wrap_ne {x : Int} (h0 : -9223372036854775808 ≤ x) (h1 : x ≤ 9223372036854775807) : IntKind.i64.wrap (x + 1) ≠ x := by
 simp only [IntKind.wrap, IntKind.bits, IntKind.signed]
 have h : ((2:Int) ^ (64 - 1)) = 9223372036854775808 := by decide
 have h2 : ((2:Int) ^ 64) = 18446744073709551616 := by decide
 simp only [h, h2, if_true]
 split <;> omega
theorem steps_raw {w : World} {A : Option Addr} {n : Nat} {xs : List SStep} (h : Kd.C kStep w A n xs) : ∃ rows : List (List Value), rows.length = xs.length ∧ Kd.C (Kd.raw 7) w A n rows ∧ ∀ (j : Nat) (x : SStep) (c : List Value), xs[j]? = some x → rows[j]? = some c → kStep.K w x c :=
 Kd.reads_raw h (fun x c hk => ⟨kStep.K_len hk, kStep.K_one hk⟩)
theorem raw_steps {w : World} {A : Option Addr} {n : Nat} {xs : List SStep} {rows : List (List Value)} (h : Kd.C (Kd.raw 7) w A n rows) (hl : rows.length = xs.length) (hk : ∀ (j : Nat) (x : SStep) (c : List Value), xs[j]? = some x → rows[j]? = some c → kStep.K w x c) : Kd.C kStep w A n xs := by
 obtain ⟨h1, h2, h3⟩ := h
 refine ⟨hl.symm.trans h1, h2, fun hp => ?_⟩
 obtain ⟨ad, hA, h4⟩ := h3 hp
 refine ⟨ad, hA, fun j x hj => ?_⟩
 have hjl : j < rows.length := by rw [hl]; exact (List.getElem?_eq_some_iff.1 hj).1
 have hc := List.getElem?_eq_getElem hjl
 obtain ⟨cs, h5, h6, h7⟩ := h4 j _ hc
 obtain ⟨rfl, _⟩ := h6
 exact ⟨_, h5, hk j x _ hj hc, h7⟩
theorem raw_more {w W : World} {xs : List SStep} {rows : List (List Value)} (hb : Below w.heap.size w W) (hl : rows.length = xs.length) (hk : ∀ (j : Nat) (x : SStep) (c : List Value), xs[j]? = some x → rows[j]? = some c → kStep.K w x c) : ∀ (j : Nat) (x : SStep) (c : List Value), (xs ++ [zStep])[j]? = some x → (rows ++ [[.string ⟨#[]⟩, .slice none 0 0, .int .i64 0, .int .i64 0, .bool false, .string ⟨#[]⟩, .slice none 0 0]])[j]? = some c → kStep.K W x c := by
 intro j x c hx hc
 rcases Nat.lt_or_ge j xs.length with hlt | hge
 ·rw [List.getElem?_append_left hlt] at hx
  rw [List.getElem?_append_left (by omega)] at hc
  exact kStep_heap.K (fun k h => hb.block k h) (hk j x c hx hc)
 ·rw [List.getElem?_append_right hge] at hx
  rw [List.getElem?_append_right (by omega), hl] at hc
  obtain ⟨rfl⟩ : zStep = x := by
   rcases hn : j - xs.length with _ | n
   ·rw [hn] at hx; simpa using hx
   ·rw [hn] at hx; simp at hx
  obtain ⟨rfl⟩ : [.string ⟨#[]⟩, .slice none 0 0, .int .i64 0, .int .i64 0, .bool false, .string ⟨#[]⟩, .slice none 0 0] = c := by
   rcases hn : j - xs.length with _ | n
   ·rw [hn] at hc; simpa using hc
   ·rw [hn] at hc; simp at hc
  exact kStep_mk W zStep (Nat.le_refl _) (Kd.C_nil _ _) (Nat.le_refl _) (Kd.C_nil _ _)
set_option maxHeartbeats 40000000 in
set_option maxRecDepth 100000 in
theorem QuerySame.walk : QuerySame.Stmt := by
 intro W x0 cs0 K0 w0 x1 cs1 K1 w1
 obtain ⟨A0, c0, rfl, hc0, hr0⟩ := kQuery_cells K0
 have HR0 := Aside0.mk hr0
 have HC0 := Aside0.mk hc0
 have HOK0 := Aside0.mk (wfQ_ok w0).1
 have HLN0 := Aside0.mk (wfQ_ok w0).2
 obtain ⟨A1, c1, rfl, hc1, hr1⟩ := kQuery_cells K1
 have HR1 := Aside0.mk hr1
 have HC1 := Aside0.mk hc1
 have HOK1 := Aside0.mk (wfQ_ok w1).1
 have HLN1 := Aside0.mk (wfQ_ok w1).2
 obtain ⟨p, hp8, hpC⟩ := few9_told x0
 have HPC := Aside0.mk hpC
 obtain ⟨q, hq8, hqC⟩ := few9_told x1
 have HQC := Aside0.mk hqC
 obtain ⟨hv0, hv1⟩ := lit_i64 w0.2.1
 have HV := Aside0.mk (wrap_ne hv0 hv1)
 obtain ⟨y, hy⟩ : ∃ y, IntKind.i64.wrap (x0.f1 + 1) = y := ⟨_, rfl⟩
 rw [hy] at HV
 have HEV := Aside0.mk (eqQ_time x0 HV.out)
 have HRF := Aside0.mk (eqQ_refl x0)
 obtain ⟨RW, hrl, hrc, hrk⟩ := steps_raw hr0
 have HRL := Aside0.mk hrl
 have HRC := Aside0.mk hrc
 have HRK := Aside0.mk hrk
 clear hr0 hc0 w0 hpC K0 hr1 hc1 w1 hqC K1 hv0 hv1 hrc hrk hrl
 by_cases hgo : p = true ∧ q = true
 ·obtain ⟨rfl, rfl⟩ := hgo
  obtain ⟨m0, hm0⟩ : ∃ m, mayQ x0 = m := ⟨_, rfl⟩
  obtain ⟨m1, hm1⟩ : ∃ m, mayQ x1 = m := ⟨_, rfl⟩
  obtain ⟨P0, hP0⟩ : ∃ P, (if m0 then zbr x0 else []) = P := ⟨_, rfl⟩
  obtain ⟨P1, hP1⟩ : ∃ P, (if m1 then zbr x1 else []) = P := ⟨_, rfl⟩
  obtain ⟨sm, hsm⟩ : ∃ b, eqQ x0 x1 = b := ⟨_, rfl⟩
  obtain ⟨FX, hFX⟩ : ∃ F, RW ++ [[.string ⟨#[]⟩, .slice none 0 0, .int .i64 0, .int .i64 0, .bool false, .string ⟨#[]⟩, .slice none 0 0]] = F := ⟨_, rfl⟩
  obtain ⟨FS, hFS⟩ : ∃ F, x0.f0 ++ [zStep] = F := ⟨_, rfl⟩
  have HM0 := Aside0.mk hm0
  have HM1 := Aside0.mk hm1
  have HP0 := Aside0.mk hP0
  have HP1 := Aside0.mk hP1
  have HSM := Aside0.mk hsm
  have HSM2 : Aside0 (eqQ x1 x0 = sm) := ⟨by rw [eqQ_symm]; exact hsm⟩
  have HFX := Aside0.mk hFX
  have HFS := Aside0.mk hFS
  have HFL : Aside0 (FX.length = FS.length) := ⟨by rw [← hFX, ← hFS, List.length_append, List.length_append, HRL.out]; rfl⟩
  have HEM : Aside0 (eqQ x0 ⟨FS, x0.f1, x0.f2, x0.f3, x0.f4⟩ = false) := ⟨eqQ_more x0 (by rw [← hFS, List.length_append, List.length_singleton]; omega)⟩
  have hl0 := hp8 rfl
  clear hp8 hq8 hFX hFS
  have HBS : Aside0 (m0 = true → m1 = true → ((strOfNums P0).toList == (strOfNums P1).toList) = sm) := ⟨fun h0 h1 => by
   rw [← hP0, ← hP1, ← hsm, h0, h1]
   exact bytesQ_same HOK0.out HOK1.out (hm0.trans h0) (hm1.trans h1)⟩
  clear hm0 hm1 hP0 hP1 hsm
  cases m0 <;> cases m1
  all_goals first
   | (have hbs : ((strOfNums P0).toList == (strOfNums P1).toList) = sm := HBS.out rfl rfl)
   | skip
  all_goals
   go_enter Try.func6, Try.ntmps6
   go_wp2_with fail
   go_at_call 9
   refine (awake9_told _).mono ?_
   rintro e w1_ ⟨rfl, hb1_⟩
   have HB1_ := Aside0.mk (zah (zab (zab (Below.refl _ _) _) _) hb1_)
   have HKx01_ := Aside0.mk (zak (zag (zat _ _) _) hb1_)
   obtain ⟨kx01a_, kx01b_, kx01c_, kx01d_⟩ := know HKx01_.out
   have HKx11_ := Aside0.mk (zak (za7 _ _ _) hb1_)
   obtain ⟨kx11a_, kx11b_, kx11c_, kx11d_⟩ := know HKx11_.out
   clear hb1_
   go_wp2_with fail
   go_at_call_of 10 (Value.agg #[.slice A0 x0.f0.length c0, .int .i64 x0.f1, .int .i64 x0.f2, .int .i64 x0.f3, .int .i64 x0.f4])
   refine (HPC.out A0 c0 _ (Kd.C_below HR0.out (HB1_.out)) HC0.out).mono ?_
   rintro e w2_ ⟨rfl, hb2_⟩
   have HB2_ := Aside0.mk (zah (HB1_.out) hb2_)
   have HKx02_ := Aside0.mk (zak (HKx01_.out) hb2_)
   obtain ⟨kx02a_, kx02b_, kx02c_, kx02d_⟩ := know HKx02_.out
   have HKx12_ := Aside0.mk (zak (HKx11_.out) hb2_)
   obtain ⟨kx12a_, kx12b_, kx12c_, kx12d_⟩ := know HKx12_.out
   clear kx01a_ kx01b_ kx01c_ kx01d_ kx11a_ kx11b_ kx11c_ kx11d_
   clear hb2_
   go_wp2_with fail
   go_at_call_of 10 (Value.agg #[.slice A1 x1.f0.length c1, .int .i64 x1.f1, .int .i64 x1.f2, .int .i64 x1.f3, .int .i64 x1.f4])
   refine (HQC.out A1 c1 _ (Kd.C_below HR1.out (HB2_.out)) HC1.out).mono ?_
   rintro e w3_ ⟨rfl, hb3_⟩
   have HB3_ := Aside0.mk (zah (HB2_.out) hb3_)
   have HKx03_ := Aside0.mk (zak (HKx02_.out) hb3_)
   obtain ⟨kx03a_, kx03b_, kx03c_, kx03d_⟩ := know HKx03_.out
   have HKx13_ := Aside0.mk (zak (HKx12_.out) hb3_)
   obtain ⟨kx13a_, kx13b_, kx13c_, kx13d_⟩ := know HKx13_.out
   clear kx02a_ kx02b_ kx02c_ kx02d_ kx12a_ kx12b_ kx12c_ kx12d_
   clear hb3_
   obtain ⟨ex0a_, ex0b_, ex0c_, ex0d_⟩ := know (zag (zag (HKx03_.out) (.cells #[.slice A0 x0.f0.length c0, .int .i64 y, .int .i64 x0.f2, .int .i64 x0.f3, .int .i64 x0.f4] 24)) (.cells #[.slice A0 x0.f0.length c0, .int .i64 x0.f1, .int .i64 x0.f2, .int .i64 x0.f3, .int .i64 x0.f4] 24))
   obtain ⟨eda_, edb_, edc_, edd_⟩ := know (za7 w3_ (.cells #[.slice A0 x0.f0.length c0, .int .i64 y, .int .i64 x0.f2, .int .i64 x0.f3, .int .i64 x0.f4] 24) (.cells #[.slice A0 x0.f0.length c0, .int .i64 x0.f1, .int .i64 x0.f2, .int .i64 x0.f3, .int .i64 x0.f4] 24))
   have hlt0_ := zaA HKx03_.out
   have hlt1_ := zaA HKx13_.out
   have hrl_ := HRL.out
   go_wp2_with (first
    | ((with_reducible refine zaz (b := .append) (xs := #[.const (.slice none 0 0), .tmp 38]) rfl ?_); at_builtin; refine Kd.R_append_rows (Kd.raw 7) (Rr := Kd.K (Kd.raw 7) w3_) _ rfl (.const (.slice none 0 0)) (.tmp 38) 22 40 (.agg #[(.string ⟨#[]⟩), (.slice none 0 0), (.int .i64 0), (.int .i64 0), (.bool false), (.string ⟨#[]⟩), (.slice none 0 0)]) 104 rfl Try.underlying22 infoStep rfl (by decide) (by decide) (.slice none 0 0) [] RW A0 x0.f0.length c0 (fun _ => True) (fun _ => False) rfl rfl (Kd.R_nil _ _ _ _ _) (Kd.C_below HRC.out (zab (zab (HB3_.out) _) _)) (fun _ _ h => h) (fun _ h => h.elim) (fun _ _ => trivial) (Below.refl _ _) (Nat.le_refl _) (by simp only [List.length_nil]; omega) ?_; intro v4a_ w4a_ ho4a_ hb4a_ hg4a_ hat4a_; simp only [List.nil_append] at ho4a_; have HO4a_ := Aside0.mk ho4a_; have HBA4_ := Aside0.mk hb4a_; clear ho4a_ hb4a_ hg4a_ hat4a_)
    | ((with_reducible refine zaz (b := .append) (xs := #[.tmp 39, .tmp 41]) rfl ?_); at_builtin; refine Kd.R_append (Kd.raw 7) _ rfl (.tmp 39) (.tmp 41) 22 40 (.agg #[(.string ⟨#[]⟩), (.slice none 0 0), (.int .i64 0), (.int .i64 0), (.bool false), (.string ⟨#[]⟩), (.slice none 0 0)]) 104 rfl Try.underlying22 infoStep rfl (by decide) (by decide) v4a_ RW [.string ⟨#[]⟩, .slice none 0 0, .int .i64 0, .int .i64 0, .bool false, .string ⟨#[]⟩, .slice none 0 0] [.string ⟨#[]⟩, .slice none 0 0, .int .i64 0, .int .i64 0, .bool false, .string ⟨#[]⟩, .slice none 0 0] (fun _ => True) (fun _ => False) rfl rfl ⟨rfl, rfl, by decide⟩ (fun _ h => h.elim) (fun _ _ => trivial) HO4a_.out HBA4_.out (zao HBA4_.out) (by omega) ?_; intro v4_ w4b_ ho4_ hb4_ hg4_ hat4_; rw [HFX.out] at ho4_; obtain ⟨A4_, c4_, hv4_, hq4_, hp4_⟩ := Kd.R_reads ho4_; subst hv4_; have HO4_ := Aside0.mk ho4_; have HQ4_ := Aside0.mk hq4_; clear ho4_ hp4_ hq4_ hg4_ hat4_; have HB4b_ := Aside0.mk (zah (zab (zab (HB3_.out) _) _) hb4_); have HKx04b_ := Aside0.mk (zak (zag (zag (HKx03_.out) _) _) hb4_); have HKx14b_ := Aside0.mk (zak (zag (zag (HKx13_.out) _) _) hb4_); have HKc4b_ := Aside0.mk (zak (zag (zat _ _) _) hb4_); have HKd4b_ := Aside0.mk (zak (za7 _ _ _) hb4_); clear hb4_ HO4a_ HBA4_ ex0a_ ex0b_ ex0c_ ex0d_ eda_ edb_ edc_ edd_; obtain ⟨ex0a_, ex0b_, ex0c_, ex0d_⟩ := know HKx04b_.out; obtain ⟨eda_, edb_, edc_, edd_⟩ := know HKd4b_.out))
   rw [HFL.out]
   have HB4_ := Aside0.mk (zaf (v := Value.slice A4_ FS.length c4_) (g := w3_.heap.size + 1) (j := 0) HB4b_.out (by omega))
   have HKx04_ := Aside0.mk (zaG HKx04b_.out (p := ⟨w3_.heap.size + 1, 0, none⟩) (show W.heap.size ≠ w3_.heap.size + 1 by omega) (Value.slice A4_ FS.length c4_))
   have HKx14_ := Aside0.mk (zaG HKx14b_.out (p := ⟨w3_.heap.size + 1, 0, none⟩) (show W.heap.size + 1 ≠ w3_.heap.size + 1 by omega) (Value.slice A4_ FS.length c4_))
   have HKc4_ := Aside0.mk (zaG HKc4b_.out (p := ⟨w3_.heap.size + 1, 0, none⟩) (show w3_.heap.size ≠ w3_.heap.size + 1 by omega) (Value.slice A4_ FS.length c4_))
   have HKd4_ := Aside0.mk (zar (cs' := #[Value.slice A4_ FS.length c4_, .int .i64 x0.f1, .int .i64 x0.f2, .int .i64 x0.f3, .int .i64 x0.f4]) HKd4b_.out 0 (Value.slice A4_ FS.length c4_) rfl)
   have hraw_ := (Kd.R_reads' (Kd.R_set HO4_.out HKd4b_.out (by decide) 0 (Value.slice A4_ FS.length c4_))).2.2
   rw [HFL.out] at hraw_
   have HQS := Aside0.mk (show FS.length ≤ c4_ by rw [← HFL.out]; exact HQ4_.out)
   have hmore_ := raw_more HB4_.out HRL.out HRK.out
   rw [HFX.out, HFS.out] at hmore_
   have HS4_ := Aside0.mk (raw_steps (xs := FS) hraw_ HFL.out hmore_)
   clear hraw_ hmore_ ex0a_ ex0b_ ex0c_ ex0d_ eda_ edb_ edc_ edd_ kx03a_ kx03b_ kx03c_ kx03d_ kx13a_ kx13b_ kx13c_ kx13d_
   obtain ⟨kx04a_, kx04b_, kx04c_, kx04d_⟩ := know HKx04_.out
   obtain ⟨kx14a_, kx14b_, kx14c_, kx14d_⟩ := know HKx14_.out
   obtain ⟨kc4a_, kc4b_, kc4c_, kc4d_⟩ := know HKc4_.out
   obtain ⟨kd4a_, kd4b_, kd4c_, kd4d_⟩ := know HKd4_.out
   go_wp2_with fail
   go_at_call_of 11 (Value.agg #[.slice A0 x0.f0.length c0, .int .i64 x0.f1, .int .i64 x0.f2, .int .i64 x0.f3, .int .i64 x0.f4])
   refine (putQ_told x0 A0 c0 _ (Kd.C_below HR0.out (HB4_.out)) HC0.out HOK0.out HLN0.out HM0.out HP0.out).mono ?_
   rintro e w5_ ⟨v5_, rfl, ho5_, hb5_⟩
   have HB5_ := Aside0.mk (zah (HB4_.out) hb5_)
   have HKx05_ := Aside0.mk (zak (HKx04_.out) hb5_)
   obtain ⟨kx05a_, kx05b_, kx05c_, kx05d_⟩ := know HKx05_.out
   have HKx15_ := Aside0.mk (zak (HKx14_.out) hb5_)
   obtain ⟨kx15a_, kx15b_, kx15c_, kx15d_⟩ := know HKx15_.out
   have HKc5_ := Aside0.mk (zak (HKc4_.out) hb5_)
   obtain ⟨kc5a_, kc5b_, kc5c_, kc5d_⟩ := know HKc5_.out
   have HKd5_ := Aside0.mk (zak (HKd4_.out) hb5_)
   obtain ⟨kd5a_, kd5b_, kd5c_, kd5d_⟩ := know HKd5_.out
   clear kx04a_ kx04b_ kx04c_ kx04d_ kx14a_ kx14b_ kx14c_ kx14d_ kc4a_ kc4b_ kc4c_ kc4d_ kd4a_ kd4b_ kd4c_ kd4d_
   have HRsteps5_ := Aside0.mk (Kd.C_below (HS4_.out) hb5_)
   clear hb5_
   obtain ⟨A5_, c5_, hv5_, hq5_, hp5_⟩ := Own8.reads ho5_
   subst hv5_
   have HP5_ := Aside0.mk hp5_
   have HQ5_ := Aside0.mk hq5_
   clear ho5_ hp5_ hq5_
   go_wp2_with fail
   go_at_call_of 11 (Value.agg #[.slice A1 x1.f0.length c1, .int .i64 x1.f1, .int .i64 x1.f2, .int .i64 x1.f3, .int .i64 x1.f4])
   refine (putQ_told x1 A1 c1 _ (Kd.C_below HR1.out (HB5_.out)) HC1.out HOK1.out HLN1.out HM1.out HP1.out).mono ?_
   rintro e w6_ ⟨v6_, rfl, ho6_, hb6_⟩
   have HB6_ := Aside0.mk (zah (HB5_.out) hb6_)
   have HKx06_ := Aside0.mk (zak (HKx05_.out) hb6_)
   obtain ⟨kx06a_, kx06b_, kx06c_, kx06d_⟩ := know HKx06_.out
   have HKx16_ := Aside0.mk (zak (HKx15_.out) hb6_)
   obtain ⟨kx16a_, kx16b_, kx16c_, kx16d_⟩ := know HKx16_.out
   have HKc6_ := Aside0.mk (zak (HKc5_.out) hb6_)
   obtain ⟨kc6a_, kc6b_, kc6c_, kc6d_⟩ := know HKc6_.out
   have HKd6_ := Aside0.mk (zak (HKd5_.out) hb6_)
   obtain ⟨kd6a_, kd6b_, kd6c_, kd6d_⟩ := know HKd6_.out
   clear kx05a_ kx05b_ kx05c_ kx05d_ kx15a_ kx15b_ kx15c_ kx15d_ kc5a_ kc5b_ kc5c_ kc5d_ kd5a_ kd5b_ kd5c_ kd5d_
   have HRsteps6_ := Aside0.mk (Kd.C_below (HRsteps5_.out) hb6_)
   have HRp6_ := Aside0.mk (Kd.C_below (HP5_.out) hb6_)
   clear hb6_
   obtain ⟨A6_, c6_, hv6_, hq6_, hp6_⟩ := Own8.reads ho6_
   subst hv6_
   have HP6_ := Aside0.mk hp6_
   have HQ6_ := Aside0.mk hq6_
   clear ho6_ hp6_ hq6_
   go_wp2_with fail
   go_at_call 13
   refine (sameQ_told x0 x1 A0 c0 A1 c1 _ (Kd.C_below HR0.out (HB6_.out)) HC0.out (Kd.C_below HR1.out (HB6_.out)) HC1.out HSM.out).mono ?_
   rintro e w7_ ⟨rfl, hb7_⟩
   have HB7_ := Aside0.mk (zah (HB6_.out) hb7_)
   have HKx07_ := Aside0.mk (zak (HKx06_.out) hb7_)
   obtain ⟨kx07a_, kx07b_, kx07c_, kx07d_⟩ := know HKx07_.out
   have HKx17_ := Aside0.mk (zak (HKx16_.out) hb7_)
   obtain ⟨kx17a_, kx17b_, kx17c_, kx17d_⟩ := know HKx17_.out
   have HKc7_ := Aside0.mk (zak (HKc6_.out) hb7_)
   obtain ⟨kc7a_, kc7b_, kc7c_, kc7d_⟩ := know HKc7_.out
   have HKd7_ := Aside0.mk (zak (HKd6_.out) hb7_)
   obtain ⟨kd7a_, kd7b_, kd7c_, kd7d_⟩ := know HKd7_.out
   clear kx06a_ kx06b_ kx06c_ kx06d_ kx16a_ kx16b_ kx16c_ kx16d_ kc6a_ kc6b_ kc6c_ kc6d_ kd6a_ kd6b_ kd6c_ kd6d_
   have HRsteps7_ := Aside0.mk (Kd.C_below (HRsteps6_.out) hb7_)
   have HRp7_ := Aside0.mk (Kd.C_below (HRp6_.out) hb7_)
   have HRr7_ := Aside0.mk (Kd.C_below (HP6_.out) hb7_)
   clear hb7_
   go_wp2_with fail
   go_at_call 13
   refine (sameQ_told x0 x0 A0 c0 A0 c0 _ (Kd.C_below HR0.out (HB7_.out)) HC0.out (Kd.C_below HR0.out (HB7_.out)) HC0.out HRF.out).mono ?_
   rintro e w8_ ⟨rfl, hb8_⟩
   have HB8_ := Aside0.mk (zah (HB7_.out) hb8_)
   have HKx08_ := Aside0.mk (zak (HKx07_.out) hb8_)
   obtain ⟨kx08a_, kx08b_, kx08c_, kx08d_⟩ := know HKx08_.out
   have HKx18_ := Aside0.mk (zak (HKx17_.out) hb8_)
   obtain ⟨kx18a_, kx18b_, kx18c_, kx18d_⟩ := know HKx18_.out
   have HKc8_ := Aside0.mk (zak (HKc7_.out) hb8_)
   obtain ⟨kc8a_, kc8b_, kc8c_, kc8d_⟩ := know HKc8_.out
   have HKd8_ := Aside0.mk (zak (HKd7_.out) hb8_)
   obtain ⟨kd8a_, kd8b_, kd8c_, kd8d_⟩ := know HKd8_.out
   clear kx07a_ kx07b_ kx07c_ kx07d_ kx17a_ kx17b_ kx17c_ kx17d_ kc7a_ kc7b_ kc7c_ kc7d_ kd7a_ kd7b_ kd7c_ kd7d_
   have HRsteps8_ := Aside0.mk (Kd.C_below (HRsteps7_.out) hb8_)
   have HRp8_ := Aside0.mk (Kd.C_below (HRp7_.out) hb8_)
   have HRr8_ := Aside0.mk (Kd.C_below (HRr7_.out) hb8_)
   clear hb8_
   go_wp2_with fail
   go_at_call 13
   refine (sameQ_told x0 ⟨x0.f0, y, x0.f2, x0.f3, x0.f4⟩ A0 c0 A0 c0 _ (Kd.C_below HR0.out (HB8_.out)) HC0.out (Kd.C_below HR0.out (HB8_.out)) HC0.out HEV.out).mono ?_
   rintro e w9_ ⟨rfl, hb9_⟩
   have HB9_ := Aside0.mk (zah (HB8_.out) hb9_)
   have HKx09_ := Aside0.mk (zak (HKx08_.out) hb9_)
   obtain ⟨kx09a_, kx09b_, kx09c_, kx09d_⟩ := know HKx09_.out
   have HKx19_ := Aside0.mk (zak (HKx18_.out) hb9_)
   obtain ⟨kx19a_, kx19b_, kx19c_, kx19d_⟩ := know HKx19_.out
   have HKc9_ := Aside0.mk (zak (HKc8_.out) hb9_)
   obtain ⟨kc9a_, kc9b_, kc9c_, kc9d_⟩ := know HKc9_.out
   have HKd9_ := Aside0.mk (zak (HKd8_.out) hb9_)
   obtain ⟨kd9a_, kd9b_, kd9c_, kd9d_⟩ := know HKd9_.out
   clear kx08a_ kx08b_ kx08c_ kx08d_ kx18a_ kx18b_ kx18c_ kx18d_ kc8a_ kc8b_ kc8c_ kc8d_ kd8a_ kd8b_ kd8c_ kd8d_
   have HRsteps9_ := Aside0.mk (Kd.C_below (HRsteps8_.out) hb9_)
   have HRp9_ := Aside0.mk (Kd.C_below (HRp8_.out) hb9_)
   have HRr9_ := Aside0.mk (Kd.C_below (HRr8_.out) hb9_)
   clear hb9_
   go_wp2_with fail
   go_at_call 13
   refine (sameQ_told x0 ⟨FS, x0.f1, x0.f2, x0.f3, x0.f4⟩ A0 c0 A4_ c4_ _ (Kd.C_below HR0.out (HB9_.out)) HC0.out (HRsteps9_.out) HQS.out HEM.out).mono ?_
   rintro e w10_ ⟨rfl, hb10_⟩
   have HB10_ := Aside0.mk (zah (HB9_.out) hb10_)
   have HKx010_ := Aside0.mk (zak (HKx09_.out) hb10_)
   obtain ⟨kx010a_, kx010b_, kx010c_, kx010d_⟩ := know HKx010_.out
   have HKx110_ := Aside0.mk (zak (HKx19_.out) hb10_)
   obtain ⟨kx110a_, kx110b_, kx110c_, kx110d_⟩ := know HKx110_.out
   have HKc10_ := Aside0.mk (zak (HKc9_.out) hb10_)
   obtain ⟨kc10a_, kc10b_, kc10c_, kc10d_⟩ := know HKc10_.out
   have HKd10_ := Aside0.mk (zak (HKd9_.out) hb10_)
   obtain ⟨kd10a_, kd10b_, kd10c_, kd10d_⟩ := know HKd10_.out
   clear kx09a_ kx09b_ kx09c_ kx09d_ kx19a_ kx19b_ kx19c_ kx19d_ kc9a_ kc9b_ kc9c_ kc9d_ kd9a_ kd9b_ kd9c_ kd9d_
   have HRsteps10_ := Aside0.mk (Kd.C_below (HRsteps9_.out) hb10_)
   have HRp10_ := Aside0.mk (Kd.C_below (HRp9_.out) hb10_)
   have HRr10_ := Aside0.mk (Kd.C_below (HRr9_.out) hb10_)
   clear hb10_
   go_wp2_with fail
   go_at_call 13
   refine (sameQ_told x1 x0 A1 c1 A0 c0 _ (Kd.C_below HR1.out (HB10_.out)) HC1.out (Kd.C_below HR0.out (HB10_.out)) HC0.out HSM2.out).mono ?_
   rintro e w11_ ⟨rfl, hb11_⟩
   have HB11_ := Aside0.mk (zah (HB10_.out) hb11_)
   have HKx011_ := Aside0.mk (zak (HKx010_.out) hb11_)
   obtain ⟨kx011a_, kx011b_, kx011c_, kx011d_⟩ := know HKx011_.out
   have HKx111_ := Aside0.mk (zak (HKx110_.out) hb11_)
   obtain ⟨kx111a_, kx111b_, kx111c_, kx111d_⟩ := know HKx111_.out
   have HKc11_ := Aside0.mk (zak (HKc10_.out) hb11_)
   obtain ⟨kc11a_, kc11b_, kc11c_, kc11d_⟩ := know HKc11_.out
   have HKd11_ := Aside0.mk (zak (HKd10_.out) hb11_)
   obtain ⟨kd11a_, kd11b_, kd11c_, kd11d_⟩ := know HKd11_.out
   clear kx010a_ kx010b_ kx010c_ kx010d_ kx110a_ kx110b_ kx110c_ kx110d_ kc10a_ kc10b_ kc10c_ kc10d_ kd10a_ kd10b_ kd10c_ kd10d_
   have HRsteps11_ := Aside0.mk (Kd.C_below (HRsteps10_.out) hb11_)
   have HRp11_ := Aside0.mk (Kd.C_below (HRp10_.out) hb11_)
   have HRr11_ := Aside0.mk (Kd.C_below (HRr10_.out) hb11_)
   clear hb11_
   have hs1_ := Kd.C_string (P := Try.prog) (c := c5_) Try.underlying25 Try.underlying5 Try.underlying9 HRp11_.out
   have hs2_ := Kd.C_string (P := Try.prog) (c := c6_) Try.underlying25 Try.underlying5 Try.underlying9 HRr11_.out
   go_wp2_with fail
   go_ret
   exact ⟨by simp, HB11_.out⟩
 ·have HNO := Aside0.mk hgo
  clear hgo
  cases p <;> cases q
  all_goals first
   | (exfalso; exact HNO.out ⟨rfl, rfl⟩)
   | skip
  all_goals
   go_enter Try.func6, Try.ntmps6
   go_wp2_with fail
   go_at_call 9
   refine (awake9_told _).mono ?_
   rintro e w1_ ⟨rfl, hb1_⟩
   have HB1_ := Aside0.mk (zah (zab (zab (Below.refl _ _) _) _) hb1_)
   have HKx01_ := Aside0.mk (zak (zag (zat _ _) _) hb1_)
   obtain ⟨kx01a_, kx01b_, kx01c_, kx01d_⟩ := know HKx01_.out
   have HKx11_ := Aside0.mk (zak (za7 _ _ _) hb1_)
   obtain ⟨kx11a_, kx11b_, kx11c_, kx11d_⟩ := know HKx11_.out
   clear hb1_
   go_wp2_with fail
   go_at_call_of 10 (Value.agg #[.slice A0 x0.f0.length c0, .int .i64 x0.f1, .int .i64 x0.f2, .int .i64 x0.f3, .int .i64 x0.f4])
   refine (HPC.out A0 c0 _ (Kd.C_below HR0.out (HB1_.out)) HC0.out).mono ?_
   rintro e w2_ ⟨rfl, hb2_⟩
   have HB2_ := Aside0.mk (zah (HB1_.out) hb2_)
   have HKx02_ := Aside0.mk (zak (HKx01_.out) hb2_)
   obtain ⟨kx02a_, kx02b_, kx02c_, kx02d_⟩ := know HKx02_.out
   have HKx12_ := Aside0.mk (zak (HKx11_.out) hb2_)
   obtain ⟨kx12a_, kx12b_, kx12c_, kx12d_⟩ := know HKx12_.out
   clear kx01a_ kx01b_ kx01c_ kx01d_ kx11a_ kx11b_ kx11c_ kx11d_
   clear hb2_
   go_wp2_with fail
   go_at_call_of 10 (Value.agg #[.slice A1 x1.f0.length c1, .int .i64 x1.f1, .int .i64 x1.f2, .int .i64 x1.f3, .int .i64 x1.f4])
   refine (HQC.out A1 c1 _ (Kd.C_below HR1.out (HB2_.out)) HC1.out).mono ?_
   rintro e w3_ ⟨rfl, hb3_⟩
   have HB3_ := Aside0.mk (zah (HB2_.out) hb3_)
   have HKx03_ := Aside0.mk (zak (HKx02_.out) hb3_)
   obtain ⟨kx03a_, kx03b_, kx03c_, kx03d_⟩ := know HKx03_.out
   have HKx13_ := Aside0.mk (zak (HKx12_.out) hb3_)
   obtain ⟨kx13a_, kx13b_, kx13c_, kx13d_⟩ := know HKx13_.out
   clear kx02a_ kx02b_ kx02c_ kx02d_ kx12a_ kx12b_ kx12c_ kx12d_
   clear hb3_
   go_wp2_with fail
   go_ret
   exact ⟨rfl, HB3_.out⟩
end Go.Proofs.Ytooemobolfoefaa.P

