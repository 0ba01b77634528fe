/- The contracts of the functions that SchemaTwice reaches, the plain facts about them, and its walk (part 3): no condition but those that each theorem names. -/
import Derived.Test.YtbgdamlidohfhaaZSchemaTwice2
set_option linter.unusedVariables false
set_option linter.unusedSimpArgs false
namespace Go.Proofs.Ytbgdamlidohfhaa.P
open Go.RowKit Go.Proofs.YtbgdamlidohfhaaW.PrintWords Go.Proofs.YtbgdamlidohfhaaW.PrintLast Go.Proofs.YtbgdamlidohfhaaW.PrintMore
attribute [local go_sem] max2_int min2_int max_two min_two max_three min_three max_four min_four   -- for this text's walks alone
set_option linter.unusedVariables false
set_option linter.unusedSimpArgs false

/-! ### towncrierref05_Put: function 33 -/
def towncrierref05_Put.l0 : Nat → List Int → Int → ByteArray → Int → List (SField) → Option (List Int × Bool)
  | 0, _, _, _, _, _ => none
  | k + 1, x5, x6, x230000, x230001, x230002 => if x6 < (x230002.length : Int) then (if 0 ≤ x6 then ((towncrierref05_Text.f ((rd_TField x230002 x6).f0)).bind fun t247 => (if x5.length + t247.length < 140737488355328 then ((some (x5 ++ t247 : List Int)).bind fun y250 => (if y250.length < 140737488355328 then (towncrierref05_Put.l0 k (y250 ++ [((rd_TField x230002 x6).f1) % 256]) (wrap64 (x6 + 1)) x230000 x230001 x230002) else (none))) else (none))) else (none)) else (some (x5, true))
def towncrierref05_Put.f (k : Nat) (a0_0 : ByteArray) (a0_1 : Int) (l0_2 : List (SField)) : Option (List Int × Bool) := (towncrierref05_May.f k a0_0 a0_1 l0_2).bind fun t230 => (if t230 = true then ((towncrierref05_Text.f a0_0).bind fun t231 => ((towncrierref01_Put.f (IntKind.u64.wrap (a0_1))).bind fun t234 => (if t231.length + t234.length < 140737488355328 then ((some (t231 ++ t234 : List Int)).bind fun y237 => ((towncrierref01_Put.f (IntKind.u64.wrap ((l0_2.length : Int)))).bind fun t240 => (if y237.length + t240.length < 140737488355328 then (towncrierref05_Put.l0 k (y237 ++ t240) 0 a0_0 a0_1 l0_2) else (none)))) else (none)))) else (some (([] : List Int), false)))
theorem towncrierref05_Put.mono_l : ∀ k, (∀ y0 y1 y2 y3 y4, LeO (towncrierref05_Put.l0 k y0 y1 y2 y3 y4) (towncrierref05_Put.l0 (k + 1) y0 y1 y2 y3 y4))
  | 0 => fun _ _ _ _ _ r h => by simp [towncrierref05_Put.l0] at h
  | k + 1 => by
    have ih0 := towncrierref05_Put.mono_l k
    · intro y0 y1 y2 y3 y4
      unfold towncrierref05_Put.l0
      repeat' first
      | (with_reducible exact ih0 _ _ _ _ _)
      | (with_reducible exact towncrierref05_May.mono _ _ _ _)
      | (with_reducible exact LeO.refl _)
      | (with_reducible exact LeO.none _)
      | (with_reducible refine LeO.ite ?_ ?_)
      | (with_reducible refine LeO.bind ?_ (fun _ => ?_))
      | exact ih0 _ _ _ _ _
      | exact towncrierref05_May.mono _ _ _ _
      | exact LeO.none _
      | refine LeO.ite ?_ ?_
      | refine LeO.bind ?_ (fun _ => ?_)
theorem towncrierref05_Put.mono : ∀ a0 a1 a2 k, LeO (towncrierref05_Put.f k a0 a1 a2) (towncrierref05_Put.f (k + 1) a0 a1 a2) := by
  intro a0 a1 a2 k
  have ih0 := towncrierref05_Put.mono_l k
  unfold towncrierref05_Put.f
  repeat' first
      | (with_reducible exact ih0 _ _ _ _ _)
      | (with_reducible exact towncrierref05_May.mono _ _ _ _)
      | (with_reducible exact LeO.refl _)
      | (with_reducible exact LeO.none _)
      | (with_reducible refine LeO.ite ?_ ?_)
      | (with_reducible refine LeO.bind ?_ (fun _ => ?_))
      | exact ih0 _ _ _ _ _
      | exact towncrierref05_May.mono _ _ _ _
      | exact LeO.none _
      | refine LeO.ite ?_ ?_
      | refine LeO.bind ?_ (fun _ => ?_)
set_option maxHeartbeats 8000000 in
set_option maxRecDepth 100000 in
theorem towncrierref05_Put.calls (k : Nat) (a0_0 : ByteArray) (a0_1 : Int) (A0_2 : Option Addr) (c0_2 : Nat) (l0_2 : List (SField)) (r1 : List Int) (r2 : Bool) (w : World) (hr0_2 : Kd.C kField w A0_2 l0_2.length l0_2) (hc0_2 : l0_2.length ≤ c0_2) (h : towncrierref05_Put.f k a0_0 a0_1 l0_2 = some (r1, r2)) :
    Calls Try.prog 33 #[.agg #[.string a0_0, .int .i64 a0_1, .slice A0_2 l0_2.length c0_2]] w fun e w' => ∃ v0_ : Value, e = .returned (.tuple #[v0_, .bool r2]) ∧ Kd.R (Kd.int .u8) 5 w' w.heap.size (fun _ => True) v0_ r1 ∧ Below w.heap.size w w' := by
  have hu25 := Try.underlying25
  have HR0_2 := Aside0.mk hr0_2
  have HC0_2 := Aside0.mk hc0_2
  clear hr0_2 hc0_2
  have HB := Aside0.mk (Below.refl w.heap.size w)
  have H : ((towncrierref05_May.f k a0_0 a0_1 l0_2).bind fun t230 => (if t230 = true then ((towncrierref05_Text.f a0_0).bind fun t231 => ((towncrierref01_Put.f (IntKind.u64.wrap (a0_1))).bind fun t234 => (if t231.length + t234.length < 140737488355328 then ((some (t231 ++ t234 : List Int)).bind fun y237 => ((towncrierref01_Put.f (IntKind.u64.wrap ((l0_2.length : Int)))).bind fun t240 => (if y237.length + t240.length < 140737488355328 then (towncrierref05_Put.l0 k (y237 ++ t240) 0 a0_0 a0_1 l0_2) else (none)))) else (none)))) else (some (([] : List Int), false)))) = some (r1, r2) := h
  clear h
  replace H := Option.bind_eq_some_iff.mp H
  obtain ⟨t230, A20, H⟩ := H
  replace H : (if t230 = true then ((towncrierref05_Text.f a0_0).bind fun t231 => ((towncrierref01_Put.f (IntKind.u64.wrap (a0_1))).bind fun t234 => (if t231.length + t234.length < 140737488355328 then ((some (t231 ++ t234 : List Int)).bind fun y237 => ((towncrierref01_Put.f (IntKind.u64.wrap ((l0_2.length : Int)))).bind fun t240 => (if y237.length + t240.length < 140737488355328 then (towncrierref05_Put.l0 k (y237 ++ t240) 0 a0_0 a0_1 l0_2) else (none)))) else (none)))) else (some (([] : List Int), false))) = some (r1, r2) := H
  have A2 := Aside0.mk A20
  clear A20
  by_cases c3 : t230 = true
  · subst c3
    have H1 : ((towncrierref05_Text.f a0_0).bind fun t231 => ((towncrierref01_Put.f (IntKind.u64.wrap (a0_1))).bind fun t234 => (if t231.length + t234.length < 140737488355328 then ((some (t231 ++ t234 : List Int)).bind fun y237 => ((towncrierref01_Put.f (IntKind.u64.wrap ((l0_2.length : Int)))).bind fun t240 => (if y237.length + t240.length < 140737488355328 then (towncrierref05_Put.l0 k (y237 ++ t240) 0 a0_0 a0_1 l0_2) else (none)))) else (none)))) = some (r1, r2) := by rw [if_pos rfl] at H; exact H
    clear H
    have H := H1
    clear H1
    replace H := Option.bind_eq_some_iff.mp H
    obtain ⟨t231, A40, H⟩ := H
    replace H : ((towncrierref01_Put.f (IntKind.u64.wrap (a0_1))).bind fun t234 => (if t231.length + t234.length < 140737488355328 then ((some (t231 ++ t234 : List Int)).bind fun y237 => ((towncrierref01_Put.f (IntKind.u64.wrap ((l0_2.length : Int)))).bind fun t240 => (if y237.length + t240.length < 140737488355328 then (towncrierref05_Put.l0 k (y237 ++ t240) 0 a0_0 a0_1 l0_2) else (none)))) else (none))) = some (r1, r2) := H
    have A4 := Aside0.mk A40
    clear A40
    replace H := Option.bind_eq_some_iff.mp H
    obtain ⟨t234, A50, H⟩ := H
    replace H : (if t231.length + t234.length < 140737488355328 then ((some (t231 ++ t234 : List Int)).bind fun y237 => ((towncrierref01_Put.f (IntKind.u64.wrap ((l0_2.length : Int)))).bind fun t240 => (if y237.length + t240.length < 140737488355328 then (towncrierref05_Put.l0 k (y237 ++ t240) 0 a0_0 a0_1 l0_2) else (none)))) else (none)) = some (r1, r2) := H
    have A5 := Aside0.mk A50
    clear A50
    by_cases c6 : t231.length + t234.length < 140737488355328
    · rw [if_pos c6] at H
      have LMc6 := Aside0.mk c6
      clear c6
      obtain ⟨y237, hy237⟩ : ∃ y_ : List Int, y_ = (t231 ++ t234) := ⟨_, rfl⟩
      replace H : ((towncrierref01_Put.f (IntKind.u64.wrap ((l0_2.length : Int)))).bind fun t240 => (if y237.length + t240.length < 140737488355328 then (towncrierref05_Put.l0 k (y237 ++ t240) 0 a0_0 a0_1 l0_2) else (none))) = some (r1, r2) := by first | (rw [hy237]; with_reducible exact H) | (have H2_ := (Option.bind_some _ _).symm.trans H; rw [hy237]; with_reducible exact H2_) | (have H2_ := (Option.bind_some _ _).symm.trans H; with_reducible exact H2_) | with_reducible exact H | (rw [hy237]; exact H) | exact H
      have Ny237 := Aside0.mk hy237
      clear hy237
      replace H := Option.bind_eq_some_iff.mp H
      obtain ⟨t240, A70, H⟩ := H
      replace H : (if y237.length + t240.length < 140737488355328 then (towncrierref05_Put.l0 k (y237 ++ t240) 0 a0_0 a0_1 l0_2) else (none)) = some (r1, r2) := H
      have A7 := Aside0.mk A70
      clear A70
      by_cases c8 : y237.length + t240.length < 140737488355328
      · rw [if_pos c8] at H
        have LMc8 := Aside0.mk c8
        clear c8
        obtain ⟨y243, hy243⟩ : ∃ y_ : List Int, y_ = (y237 ++ t240) := ⟨_, rfl⟩
        replace H : (towncrierref05_Put.l0 k y243 0 a0_0 a0_1 l0_2) = some (r1, r2) := by first | (rw [hy243]; with_reducible exact H) | (have H2_ := (Option.bind_some _ _).symm.trans H; rw [hy243]; with_reducible exact H2_) | (have H2_ := (Option.bind_some _ _).symm.trans H; with_reducible exact H2_) | with_reducible exact H | (rw [hy243]; exact H) | exact H
        have Ny243 := Aside0.mk hy243
        clear hy243
        have H' := Aside0.mk H
        clear H
        go_enter Try.func33, Try.ntmps33
        go_wp2_with (first | ((with_reducible refine gate_dst (N := 1) rfl ?_); refine box_event ?hg (N := 1) ?hd (cs := #[.string a0_0, .int .i64 a0_1, .slice A0_2 l0_2.length c0_2]) (t := 25) ?hr ?_; (case hd => rfl); (case hg => rfl); (case hr => first | (go_simp; done) | (go_simp; rfl)); intro gb229 hg w9 hbox hb; have n0_ := Aside0.mk (below_step (by repeat (first | (with_reducible first | exact HB.out | apply below_alloc | apply pw_below_drewN | apply below_drew1) | exact HB.out)) hb); have n1_ := Aside0.mk (hbox); have n2_ := Aside0.mk ((by rw [hg]; exact (below_size (by repeat (first | (with_reducible first | exact HB.out | apply below_alloc | apply pw_below_drewN | apply below_drew1) | exact HB.out))) : w.heap.size ≤ gb229)); have n3_ := Aside0.mk ((by rw [hg]; exact (below_size (by repeat (first | (with_reducible first | exact HB.out | apply below_alloc | apply pw_below_drewN | apply below_drew1) | exact HB.out))) : w.heap.size ≤ gb229)); clear HB; have HB := n0_; have BK229 := n1_; have GW229 := n2_; have GE229 := n3_; clear n0_ n1_ n2_ n3_; clear hb hbox hg; have hcz10_0 : w9.cell? ⟨gb229, 0, none⟩ = some (.string a0_0) := (blk_cell BK229.out 0).trans rfl; have hcz10_1 : w9.cell? ⟨gb229, 1, none⟩ = some (.int .i64 a0_1) := (blk_cell BK229.out 1).trans rfl; have hcz10_2 : w9.cell? ⟨gb229, 2, none⟩ = some (.slice A0_2 l0_2.length c0_2) := (blk_cell BK229.out 2).trans rfl; have hfz10_0 := blk_frozen BK229.out 0; have hfz10_1 := blk_frozen BK229.out 1; have hfz10_2 := blk_frozen BK229.out 2) | ((with_reducible refine gate_callee (f := 36) rfl ?_); refine goesL_ (some 8) rfl rfl Try.func36 (by kernel_rfl) rfl #[.agg #[.string a0_0, .int .i64 a0_1, .slice A0_2 l0_2.length c0_2]] rfl (by (try simp only [List.map_toArray, List.map_cons, List.map_nil]); first | done | rfl | (simp only [List.length_drop, List.length_take]; rfl)) ?_; (with_reducible refine (towncrierref05_May.calls k a0_0 a0_1 _ _ l0_2 true _ ?side1 ?side2 A2.out).mono ?_); (case side1 => repeat (first | exact (Kd.C_below HR0_2.out HB.out) | (with_reducible refine Kd.C_alloc ?_ _) | (with_reducible refine Kd.C_drewN ?_ _) | (with_reducible refine Kd.C_drew ?_))); (case side2 => exact HC0_2.out); rintro e w11 ⟨rfl, hb⟩; refine ⟨_, rfl, ?_⟩; have n0_ := Aside0.mk (blk_below (g := gb229) (o := .cells #[.string a0_0, .int .i64 a0_1, .slice A0_2 l0_2.length c0_2] 25 (0, 0)) (by (with_reducible repeat (first | refine blk_drewN ?_ _ | refine blk_drew ?_ | refine blk_alloc ?_ _)); exact BK229.out) hb); have n1_ := Aside0.mk (below_step (by repeat (first | (with_reducible first | exact HB.out | apply below_alloc | apply pw_below_drewN | apply below_drew1 | refine below_set ?_ GE229.out) | exact HB.out)) hb); clear BK229; clear HB; have BK229 := n0_; have HB := n1_; clear n0_ n1_; (try clear hb); (try clear hb2); (try clear hk); (try clear hi); have hcz12_0 : w11.cell? ⟨gb229, 0, none⟩ = some (.string a0_0) := (blk_cell BK229.out 0).trans rfl; have hcz12_1 : w11.cell? ⟨gb229, 1, none⟩ = some (.int .i64 a0_1) := (blk_cell BK229.out 1).trans rfl; have hcz12_2 : w11.cell? ⟨gb229, 2, none⟩ = some (.slice A0_2 l0_2.length c0_2) := (blk_cell BK229.out 2).trans rfl; have hfz12_0 := blk_frozen BK229.out 0; have hfz12_1 := blk_frozen BK229.out 1; have hfz12_2 := blk_frozen BK229.out 2) | ((with_reducible refine gate_callee (f := 52) rfl ?_); refine goesL_ (some 13) rfl rfl Try.func52 (by kernel_rfl) rfl #[.string a0_0] rfl (by (try simp only [List.map_toArray, List.map_cons, List.map_nil]); first | done | rfl | (simp only [List.length_drop, List.length_take]; rfl)) ?_; (with_reducible refine (towncrierref05_Text.calls a0_0 t231 _ A4.out).mono ?_); rintro e w13 ⟨v232, rfl, ho0, hb⟩; refine ⟨_, rfl, ?_⟩; have n0_ := Aside0.mk (Kd.R_lower ho0 (below_size (by repeat (first | (with_reducible first | exact HB.out | apply below_alloc | apply pw_below_drewN | apply below_drew1 | refine below_set ?_ GE229.out) | exact HB.out)))); have n1_ := Aside0.mk (blk_below (g := gb229) (o := .cells #[.string a0_0, .int .i64 a0_1, .slice A0_2 l0_2.length c0_2] 25 (0, 0)) (by (with_reducible repeat (first | refine blk_drewN ?_ _ | refine blk_drew ?_ | refine blk_alloc ?_ _)); exact BK229.out) hb); have n2_ := Aside0.mk (below_step (by repeat (first | (with_reducible first | exact HB.out | apply below_alloc | apply pw_below_drewN | apply below_drew1 | refine below_set ?_ GE229.out) | exact HB.out)) hb); clear BK229; clear HB; have HO233 := n0_; have BK229 := n1_; have HB := n2_; clear n0_ n1_ n2_; (try clear hb); (try clear hb2); (try clear hk); (try clear hi); (try clear ho0); have hcz14_0 : w13.cell? ⟨gb229, 0, none⟩ = some (.string a0_0) := (blk_cell BK229.out 0).trans rfl; have hcz14_1 : w13.cell? ⟨gb229, 1, none⟩ = some (.int .i64 a0_1) := (blk_cell BK229.out 1).trans rfl; have hcz14_2 : w13.cell? ⟨gb229, 2, none⟩ = some (.slice A0_2 l0_2.length c0_2) := (blk_cell BK229.out 2).trans rfl; have hfz14_0 := blk_frozen BK229.out 0; have hfz14_1 := blk_frozen BK229.out 1; have hfz14_2 := blk_frozen BK229.out 2) | ((with_reducible refine gate_callee (f := 53) rfl ?_); refine goesL_ (some 18) rfl rfl Try.func53 (by kernel_rfl) rfl #[.int .u64 (IntKind.u64.wrap (a0_1))] rfl (by (try simp only [List.map_toArray, List.map_cons, List.map_nil]); first | done | rfl | (simp only [List.length_drop, List.length_take]; rfl)) ?_; (with_reducible refine (towncrierref01_Put.calls (IntKind.u64.wrap (a0_1)) t234 _ A5.out).mono ?_); rintro e w15 ⟨v235, rfl, ho0, hb⟩; refine ⟨_, rfl, ?_⟩; have n0_ := Aside0.mk (Kd.R_elder' (by (with_reducible repeat (first | apply Kd.R_alloc | apply Kd.R_drewN | apply Kd.R_drew)); exact HO233.out) (Kd.R_base ho0) hb); have n1_ := Aside0.mk (Kd.R_lower (Kd.R_new' ho0 (Kd.R_lt (by (with_reducible repeat (first | apply Kd.R_alloc | apply Kd.R_drewN | apply Kd.R_drew)); exact HO233.out))) (below_size (by repeat (first | (with_reducible first | exact HB.out | apply below_alloc | apply pw_below_drewN | apply below_drew1 | refine below_set ?_ GE229.out) | exact HB.out)))); have n2_ := Aside0.mk (blk_below (g := gb229) (o := .cells #[.string a0_0, .int .i64 a0_1, .slice A0_2 l0_2.length c0_2] 25 (0, 0)) (by (with_reducible repeat (first | refine blk_drewN ?_ _ | refine blk_drew ?_ | refine blk_alloc ?_ _)); exact BK229.out) hb); have n3_ := Aside0.mk (below_step (by repeat (first | (with_reducible first | exact HB.out | apply below_alloc | apply pw_below_drewN | apply below_drew1 | refine below_set ?_ GE229.out) | exact HB.out)) hb); clear HO233; clear BK229; clear HB; have HO233 := n0_; have HO236 := n1_; have BK229 := n2_; have HB := n3_; clear n0_ n1_ n2_ n3_; (try clear hb); (try clear hb2); (try clear hk); (try clear hi); (try clear ho0); obtain ⟨Ao17, co17, eo17⟩ := Kd.R_slice HO236.out; subst eo17) | ((with_reducible refine gate_builtin (b := .append) (xs := #[.tmp 14, .tmp 18]) rfl ?_); at_builtin; refine Kd.R_append_rows (Kd.int .u8) (w0 := w) w.heap.size rfl (.tmp 14) (.tmp 18) 43 5 (.int .u8 0) 1 rfl Try.underlying43 info5 rfl (by decide) (by omega) v232 t231 t234 _ _ _ (fun k_ => some k_ ≠ (.slice Ao17 t234.length co17 : Value).ownBlock) (fun _ => False) rfl rfl ?aO ?aR (fun _ _ h => h) (fun _ h => h.elim) ?aF ?aB ?aS ?aL ?_; (case aR => repeat (first | exact (Kd.R_reads' HO236.out).2.2 | (with_reducible refine Kd.C_alloc ?_ _) | (with_reducible refine Kd.C_drewN ?_ _) | (with_reducible refine Kd.C_drew ?_))); (case aB => exact (by repeat (first | (with_reducible first | exact HB.out | apply below_alloc | apply pw_below_drewN | apply below_drew1 | refine below_set ?_ GE229.out) | exact HB.out))); (case aF => exact (fun k_ hk => Kd.fresh' (Kd.R_lt (by (with_reducible repeat (first | apply Kd.R_alloc | apply Kd.R_drewN | apply Kd.R_drew)); exact HO236.out)) k_ hk)); (case aO => exact (by (with_reducible repeat (first | apply Kd.R_alloc | apply Kd.R_drewN | apply Kd.R_drew)); exact Kd.R_mono HO233.out (fun _ hk => hk.2))); (case aS => exact (below_size (by repeat (first | (with_reducible first | exact HB.out | apply below_alloc | apply pw_below_drewN | apply below_drew1 | refine below_set ?_ GE229.out) | exact HB.out)))); (case aL => have := LMc6.out; omega); intro v238 w16 ho hb hg hat; rw [← Ny237.out] at ho; have n0_ := Aside0.mk (blk_grown (g := gb229) (o := .cells #[.string a0_0, .int .i64 a0_1, .slice A0_2 l0_2.length c0_2] 25 (0, 0)) (by (with_reducible repeat (first | refine blk_drewN ?_ _ | refine blk_drew ?_ | refine blk_alloc ?_ _)); exact BK229.out) hg (Kd.R_ne HO233.out BK229.out (by decide))); have n1_ := Aside0.mk (Kd.R_after (ok := (fun _ => True)) (by (with_reducible repeat (first | apply Kd.R_alloc | apply Kd.R_drewN | apply Kd.R_drew)); exact HO236.out) hg hat); have n2_ := Aside0.mk (hb); have n3_ := Aside0.mk (ho); clear BK229; clear HO236; clear HB; clear HO233; have BK229 := n0_; have HO236 := n1_; have HB := n2_; have HO239 := n3_; clear n0_ n1_ n2_ n3_; clear ho hb hg hat; have hcz18_0 : w16.cell? ⟨gb229, 0, none⟩ = some (.string a0_0) := (blk_cell BK229.out 0).trans rfl; have hcz18_1 : w16.cell? ⟨gb229, 1, none⟩ = some (.int .i64 a0_1) := (blk_cell BK229.out 1).trans rfl; have hcz18_2 : w16.cell? ⟨gb229, 2, none⟩ = some (.slice A0_2 l0_2.length c0_2) := (blk_cell BK229.out 2).trans rfl; have hfz18_0 := blk_frozen BK229.out 0; have hfz18_1 := blk_frozen BK229.out 1; have hfz18_2 := blk_frozen BK229.out 2) | ((with_reducible refine gate_callee (f := 53) rfl ?_); refine goesL_ (some 25) rfl rfl Try.func53 (by kernel_rfl) rfl #[.int .u64 (IntKind.u64.wrap ((l0_2.length : Int)))] rfl (by (try simp only [List.map_toArray, List.map_cons, List.map_nil]); first | done | rfl | (simp only [List.length_drop, List.length_take]; rfl)) ?_; (with_reducible refine (towncrierref01_Put.calls (IntKind.u64.wrap ((l0_2.length : Int))) t240 _ A7.out).mono ?_); rintro e w19 ⟨v241, rfl, ho0, hb⟩; refine ⟨_, rfl, ?_⟩; have n0_ := Aside0.mk (Kd.R_elder' (by (with_reducible repeat (first | apply Kd.R_alloc | apply Kd.R_drewN | apply Kd.R_drew)); exact HO236.out) (Kd.R_base ho0) hb); have n1_ := Aside0.mk (Kd.R_elder' (by (with_reducible repeat (first | apply Kd.R_alloc | apply Kd.R_drewN | apply Kd.R_drew)); exact HO239.out) (Kd.R_base ho0) hb); have n2_ := Aside0.mk (Kd.R_lower (Kd.R_new' (Kd.R_new' ho0 (Kd.R_lt (by (with_reducible repeat (first | apply Kd.R_alloc | apply Kd.R_drewN | apply Kd.R_drew)); exact HO236.out))) (Kd.R_lt (by (with_reducible repeat (first | apply Kd.R_alloc | apply Kd.R_drewN | apply Kd.R_drew)); exact HO239.out))) (below_size (by repeat (first | (with_reducible first | exact HB.out | apply below_alloc | apply pw_below_drewN | apply below_drew1 | refine below_set ?_ GE229.out) | exact HB.out)))); have n3_ := Aside0.mk (blk_below (g := gb229) (o := .cells #[.string a0_0, .int .i64 a0_1, .slice A0_2 l0_2.length c0_2] 25 (0, 0)) (by (with_reducible repeat (first | refine blk_drewN ?_ _ | refine blk_drew ?_ | refine blk_alloc ?_ _)); exact BK229.out) hb); have n4_ := Aside0.mk (below_step (by repeat (first | (with_reducible first | exact HB.out | apply below_alloc | apply pw_below_drewN | apply below_drew1 | refine below_set ?_ GE229.out) | exact HB.out)) hb); clear HO236; clear HO239; clear BK229; clear HB; have HO236 := n0_; have HO239 := n1_; have HO242 := n2_; have BK229 := n3_; have HB := n4_; clear n0_ n1_ n2_ n3_ n4_; (try clear hb); (try clear hb2); (try clear hk); (try clear hi); (try clear ho0); obtain ⟨Ao21, co21, eo21⟩ := Kd.R_slice HO242.out; subst eo21) | ((with_reducible refine gate_builtin (b := .append) (xs := #[.tmp 20, .tmp 25]) rfl ?_); at_builtin; refine Kd.R_append_rows (Kd.int .u8) (w0 := w) w.heap.size rfl (.tmp 20) (.tmp 25) 43 5 (.int .u8 0) 1 rfl Try.underlying43 info5 rfl (by decide) (by omega) v238 y237 t240 _ _ _ (fun k_ => some k_ ≠ (.slice Ao17 t234.length co17 : Value).ownBlock ∧ some k_ ≠ (.slice Ao21 t240.length co21 : Value).ownBlock) (fun _ => False) rfl rfl ?aO ?aR (fun _ _ h => h) (fun _ h => h.elim) ?aF ?aB ?aS ?aL ?_; (case aR => repeat (first | exact (Kd.R_reads' HO242.out).2.2 | (with_reducible refine Kd.C_alloc ?_ _) | (with_reducible refine Kd.C_drewN ?_ _) | (with_reducible refine Kd.C_drew ?_))); (case aB => exact (by repeat (first | (with_reducible first | exact HB.out | apply below_alloc | apply pw_below_drewN | apply below_drew1 | refine below_set ?_ GE229.out) | exact HB.out))); (case aF => exact (fun k_ hk => ⟨Kd.fresh' (Kd.R_lt (by (with_reducible repeat (first | apply Kd.R_alloc | apply Kd.R_drewN | apply Kd.R_drew)); exact HO236.out)) k_ hk, Kd.fresh' (Kd.R_lt (by (with_reducible repeat (first | apply Kd.R_alloc | apply Kd.R_drewN | apply Kd.R_drew)); exact HO242.out)) k_ hk⟩)); (case aO => exact (by (with_reducible repeat (first | apply Kd.R_alloc | apply Kd.R_drewN | apply Kd.R_drew)); exact HO239.out)); (case aS => exact (below_size (by repeat (first | (with_reducible first | exact HB.out | apply below_alloc | apply pw_below_drewN | apply below_drew1 | refine below_set ?_ GE229.out) | exact HB.out)))); (case aL => have := LMc8.out; omega); intro v244 w20 ho hb hg hat; rw [← Ny243.out] at ho; have n0_ := Aside0.mk (blk_grown (g := gb229) (o := .cells #[.string a0_0, .int .i64 a0_1, .slice A0_2 l0_2.length c0_2] 25 (0, 0)) (by (with_reducible repeat (first | refine blk_drewN ?_ _ | refine blk_drew ?_ | refine blk_alloc ?_ _)); exact BK229.out) hg (Kd.R_ne HO239.out BK229.out (by decide))); have n1_ := Aside0.mk (Kd.R_after (ok := (fun k_ => some k_ ≠ (.slice Ao21 t240.length co21 : Value).ownBlock)) (by (with_reducible repeat (first | apply Kd.R_alloc | apply Kd.R_drewN | apply Kd.R_drew)); exact Kd.R_mono HO236.out (fun _ hk => ⟨hk.2, hk.1.2⟩)) hg hat); have n2_ := Aside0.mk (Kd.R_after (ok := (fun k_ => some k_ ≠ (.slice Ao17 t234.length co17 : Value).ownBlock)) (by (with_reducible repeat (first | apply Kd.R_alloc | apply Kd.R_drewN | apply Kd.R_drew)); exact Kd.R_mono HO242.out (fun _ hk => ⟨hk.1.2, hk.2⟩)) hg hat); have n3_ := Aside0.mk (hb); have n4_ := Aside0.mk (ho); clear BK229; clear HO236; clear HO242; clear HB; clear HO239; have BK229 := n0_; have HO236 := n1_; have HO242 := n2_; have HB := n3_; have HO245 := n4_; clear n0_ n1_ n2_ n3_ n4_; clear ho hb hg hat))
        go_loopg [5, 6] k (fun kq v5 v6 w' => ∃ (x5_1 : List Int) (x6_1 : Int), v6 = .int .i64 x6_1 ∧ Aside0 (towncrierref05_Put.l0 kq x5_1 x6_1 a0_0 a0_1 l0_2 = some (r1, r2)) ∧ Aside0 (kq ≤ k) ∧ Aside0 (Kd.R (Kd.int .u8) 5 w' w.heap.size (fun _ => True) v5 x5_1) ∧ Aside0 (w'.heap[gb229]? = some (.cells #[.string a0_0, .int .i64 a0_1, (.slice A0_2 l0_2.length c0_2)] 25 (0, 0))) ∧ Aside0 (Below w.heap.size w w'))
        case atStart => exact ⟨(y243), (0), (by first | rfl | (simp; done) | (simp [*]; done)), H', ⟨Nat.le_refl _⟩, ⟨by (with_reducible repeat (first | apply Kd.R_alloc | apply Kd.R_drewN | apply Kd.R_drew)); exact Kd.R_mono HO245.out (fun _ hk => trivial)⟩, ⟨by (with_reducible repeat (first | refine blk_drewN ?_ _ | refine blk_drew ?_ | refine blk_alloc ?_ _)); exact BK229.out⟩, ⟨by repeat (first | (with_reducible first | exact HB.out | apply below_alloc | apply pw_below_drewN | apply below_drew1 | refine below_set ?_ GE229.out) | exact HB.out)⟩⟩
        case round =>
          clear H'
          try clear p2
          try clear c3
          try clear c5
          try clear c6
          try clear c8
          try clear hcz10_0
          try clear hcz10_1
          try clear hcz10_2
          try clear hcz12_0
          try clear hcz12_1
          try clear hcz12_2
          try clear hcz14_0
          try clear hcz14_1
          try clear hcz14_2
          try clear hcz18_0
          try clear hcz18_1
          try clear hcz18_2
          try clear hfz10_0
          try clear hfz10_1
          try clear hfz10_2
          try clear hfz12_0
          try clear hfz12_1
          try clear hfz12_2
          try clear hfz14_0
          try clear hfz14_1
          try clear hfz14_2
          try clear hfz18_0
          try clear hfz18_1
          try clear hfz18_2
          obtain ⟨x5_1, x6_1, rfl, HA, HK1, HO_5, BK229, HB⟩ := hrel
          cases gk with
          | zero => exact absurd HA.out (by simp [towncrierref05_Put.l0])
          | succ k1 =>
            have H := HA.out
            clear HA
            simp only [towncrierref05_Put.l0] at H
            by_cases c22 : x6_1 < (l0_2.length : Int)
            · rw [if_pos c22] at H
              have c22b0 : decide (x6_1 < (l0_2.length : Int)) = true := decide_eq_true c22
              clear c22
              by_cases c23 : 0 ≤ x6_1
              · rw [if_pos c23] at H
                have c23b0 : decide (0 ≤ x6_1) = true := decide_eq_true c23
                clear c23
                replace H := Option.bind_eq_some_iff.mp H
                obtain ⟨t247, A240, H⟩ := H
                replace H : (if x5_1.length + t247.length < 140737488355328 then ((some (x5_1 ++ t247 : List Int)).bind fun y250 => (if y250.length < 140737488355328 then (towncrierref05_Put.l0 k1 (y250 ++ [((rd_TField l0_2 x6_1).f1) % 256]) (wrap64 (x6_1 + 1)) a0_0 a0_1 l0_2) else (none))) else (none)) = some (r1, r2) := H
                have A24 := Aside0.mk A240
                clear A240
                by_cases c25 : x5_1.length + t247.length < 140737488355328
                · rw [if_pos c25] at H
                  have LMc25 := Aside0.mk c25
                  clear c25
                  obtain ⟨y250, hy250⟩ : ∃ y_ : List Int, y_ = (x5_1 ++ t247) := ⟨_, rfl⟩
                  replace H : (if y250.length < 140737488355328 then (towncrierref05_Put.l0 k1 (y250 ++ [((rd_TField l0_2 x6_1).f1) % 256]) (wrap64 (x6_1 + 1)) a0_0 a0_1 l0_2) else (none)) = some (r1, r2) := by first | (rw [hy250]; with_reducible exact H) | (have H2_ := (Option.bind_some _ _).symm.trans H; rw [hy250]; with_reducible exact H2_) | (have H2_ := (Option.bind_some _ _).symm.trans H; with_reducible exact H2_) | with_reducible exact H | (rw [hy250]; exact H) | exact H
                  have Ny250 := Aside0.mk hy250
                  clear hy250
                  by_cases c26 : y250.length < 140737488355328
                  · rw [if_pos c26] at H
                    have LMc26 := Aside0.mk c26
                    clear c26
                    obtain ⟨y254, hy254⟩ : ∃ y_ : List Int, y_ = (y250 ++ [((rd_TField l0_2 x6_1).f1) % 256]) := ⟨_, rfl⟩
                    replace H : (towncrierref05_Put.l0 k1 y254 (wrap64 (x6_1 + 1)) a0_0 a0_1 l0_2) = some (r1, r2) := by first | (rw [hy254]; with_reducible exact H) | (have H2_ := (Option.bind_some _ _).symm.trans H; rw [hy254]; with_reducible exact H2_) | (have H2_ := (Option.bind_some _ _).symm.trans H; with_reducible exact H2_) | with_reducible exact H | (rw [hy254]; exact H) | exact H
                    have Ny254 := Aside0.mk hy254
                    clear hy254
                    have H' := Aside0.mk H
                    clear H
                    have hcz27_0 : wr.cell? ⟨gb229, 0, none⟩ = some (.string a0_0) := (blk_cell BK229.out 0).trans rfl
                    have hcz27_1 : wr.cell? ⟨gb229, 1, none⟩ = some (.int .i64 a0_1) := (blk_cell BK229.out 1).trans rfl
                    have hcz27_2 : wr.cell? ⟨gb229, 2, none⟩ = some (.slice A0_2 l0_2.length c0_2) := (blk_cell BK229.out 2).trans rfl
                    have hfz27_0 := blk_frozen BK229.out 0
                    have hfz27_1 := blk_frozen BK229.out 1
                    have hfz27_2 := blk_frozen BK229.out 2
                    have p246 : 0 ≤ (x6_1 : Int) := of_decide_eq_true (by first | (with_reducible assumption) | assumption)
                    have q246 : x6_1 < (l0_2.length : Int) := of_decide_eq_true (by first | (with_reducible assumption) | assumption)
                    obtain ⟨ad246, e246, hx246_0, hx246_1⟩ := at_TField HR0_2.out x6_1 p246 q246
                    cases e246
                    replace hx246_0 := (HB.out.cell (World.block_lt_of_cell? w _ hx246_0)).trans hx246_0
                    replace hx246_1 := (HB.out.cell (World.block_lt_of_cell? w _ hx246_1)).trans hx246_1
                    replace p246 := eq_true p246
                    replace q246 := eq_true q246
                    go_wp2_with (first | ((with_reducible refine gate_callee (f := 52) rfl ?_); refine goesL_ (some 41) rfl rfl Try.func52 (by kernel_rfl) rfl #[.string ((rd_TField l0_2 x6_1).f0)] rfl (by (try simp only [List.map_toArray, List.map_cons, List.map_nil]); first | done | rfl | (simp only [List.length_drop, List.length_take]; rfl)) ?_; (with_reducible refine (towncrierref05_Text.calls ((rd_TField l0_2 x6_1).f0) t247 _ A24.out).mono ?_); rintro e w28 ⟨v248, rfl, ho0, hb⟩; refine ⟨_, rfl, ?_⟩; have n0_ := Aside0.mk (Kd.R_elder' (by (with_reducible repeat (first | apply Kd.R_alloc | apply Kd.R_drewN | apply Kd.R_drew)); exact HO_5.out) (Kd.R_base ho0) hb); have n1_ := Aside0.mk (Kd.R_lower (Kd.R_new' ho0 (Kd.R_lt (by (with_reducible repeat (first | apply Kd.R_alloc | apply Kd.R_drewN | apply Kd.R_drew)); exact HO_5.out))) (below_size (by repeat (first | (with_reducible first | exact HB.out | apply below_alloc | apply pw_below_drewN | apply below_drew1 | refine below_set ?_ GE229.out) | exact HB.out)))); have n2_ := Aside0.mk (blk_below (g := gb229) (o := .cells #[.string a0_0, .int .i64 a0_1, .slice (some ad246) l0_2.length c0_2] 25 (0, 0)) (by (with_reducible repeat (first | refine blk_drewN ?_ _ | refine blk_drew ?_ | refine blk_alloc ?_ _)); exact BK229.out) hb); have n3_ := Aside0.mk (below_step (by repeat (first | (with_reducible first | exact HB.out | apply below_alloc | apply pw_below_drewN | apply below_drew1 | refine below_set ?_ GE229.out) | exact HB.out)) hb); clear HO_5; clear BK229; clear HB; have HO_5 := n0_; have HO249 := n1_; have BK229 := n2_; have HB := n3_; clear n0_ n1_ n2_ n3_; (try clear hb); (try clear hb2); (try clear hk); (try clear hi); (try clear ho0); obtain ⟨Ao30, co30, eo30⟩ := Kd.R_slice HO249.out; subst eo30) | ((with_reducible refine gate_builtin (b := .append) (xs := #[.tmp 34, .tmp 41]) rfl ?_); at_builtin; refine Kd.R_append_rows (Kd.int .u8) (w0 := w) w.heap.size rfl (.tmp 34) (.tmp 41) 43 5 (.int .u8 0) 1 rfl Try.underlying43 info5 rfl (by decide) (by omega) u5 x5_1 t247 _ _ _ (fun k_ => some k_ ≠ (.slice Ao30 t247.length co30 : Value).ownBlock) (fun _ => False) rfl rfl ?aO ?aR (fun _ _ h => h) (fun _ h => h.elim) ?aF ?aB ?aS ?aL ?_; (case aR => repeat (first | exact (Kd.R_reads' HO249.out).2.2 | (with_reducible refine Kd.C_alloc ?_ _) | (with_reducible refine Kd.C_drewN ?_ _) | (with_reducible refine Kd.C_drew ?_))); (case aB => exact (by repeat (first | (with_reducible first | exact HB.out | apply below_alloc | apply pw_below_drewN | apply below_drew1 | refine below_set ?_ GE229.out) | exact HB.out))); (case aF => exact (fun k_ hk => Kd.fresh' (Kd.R_lt (by (with_reducible repeat (first | apply Kd.R_alloc | apply Kd.R_drewN | apply Kd.R_drew)); exact HO249.out)) k_ hk)); (case aO => exact (by (with_reducible repeat (first | apply Kd.R_alloc | apply Kd.R_drewN | apply Kd.R_drew)); exact Kd.R_mono HO_5.out (fun _ hk => hk.2))); (case aS => exact (below_size (by repeat (first | (with_reducible first | exact HB.out | apply below_alloc | apply pw_below_drewN | apply below_drew1 | refine below_set ?_ GE229.out) | exact HB.out)))); (case aL => have := LMc25.out; omega); intro v251 w29 ho hb hg hat; rw [← Ny250.out] at ho; have n0_ := Aside0.mk (blk_grown (g := gb229) (o := .cells #[.string a0_0, .int .i64 a0_1, .slice (some ad246) l0_2.length c0_2] 25 (0, 0)) (by (with_reducible repeat (first | refine blk_drewN ?_ _ | refine blk_drew ?_ | refine blk_alloc ?_ _)); exact BK229.out) hg (Kd.R_ne HO_5.out BK229.out (by decide))); have n1_ := Aside0.mk (Kd.R_after (ok := (fun _ => True)) (by (with_reducible repeat (first | apply Kd.R_alloc | apply Kd.R_drewN | apply Kd.R_drew)); exact HO249.out) hg hat); have n2_ := Aside0.mk (hb); have n3_ := Aside0.mk (ho); clear BK229; clear HO249; clear HB; clear HO_5; have BK229 := n0_; have HO249 := n1_; have HB := n2_; have HO252 := n3_; clear n0_ n1_ n2_ n3_; clear ho hb hg hat; have hcz31_0 : w29.cell? ⟨gb229, 0, none⟩ = some (.string a0_0) := (blk_cell BK229.out 0).trans rfl; have hcz31_1 : w29.cell? ⟨gb229, 1, none⟩ = some (.int .i64 a0_1) := (blk_cell BK229.out 1).trans rfl; have hcz31_2 : w29.cell? ⟨gb229, 2, none⟩ = some (.slice (some ad246) l0_2.length c0_2) := (blk_cell BK229.out 2).trans rfl; have hfz31_0 := blk_frozen BK229.out 0; have hfz31_1 := blk_frozen BK229.out 1; have hfz31_2 := blk_frozen BK229.out 2; have p253 : 0 ≤ (x6_1 : Int) := of_decide_eq_true (by first | (with_reducible assumption) | assumption); have q253 : x6_1 < (l0_2.length : Int) := of_decide_eq_true (by first | (with_reducible assumption) | assumption); obtain ⟨ad253, e253, hx253_0, hx253_1⟩ := at_TField HR0_2.out x6_1 p253 q253; obtain rfl : ad246 = ad253 := (by injection e253); replace hx253_0 := (HB.out.cell (World.block_lt_of_cell? w _ hx253_0)).trans hx253_0; replace hx253_1 := (HB.out.cell (World.block_lt_of_cell? w _ hx253_1)).trans hx253_1; replace p253 := eq_true p253; replace q253 := eq_true q253) | ((with_reducible refine gate_builtin (b := .append) (xs := #[.tmp 43, .tmp 51]) rfl ?_); at_builtin; refine Kd.R_append (Kd.int .u8) (w0 := w) w.heap.size rfl (.tmp 43) (.tmp 51) 43 5 (.int .u8 0) 1 rfl Try.underlying43 info5 rfl (by decide) (by omega) v251 y250 (((rd_TField l0_2 x6_1).f1) % 256) [.int .u8 (((rd_TField l0_2 x6_1).f1) % 256)] (fun k_ => some k_ ≠ (.slice Ao30 t247.length co30 : Value).ownBlock) (fun _ => False) rfl rfl ?aP (fun _ hk => hk.elim) ?aF ?aO ?aB ?aS ?aL ?_; (case aP => exact rfl); (case aB => exact (by repeat (first | (with_reducible first | exact HB.out | apply below_alloc | apply pw_below_drewN | apply below_drew1 | refine below_set ?_ GE229.out) | exact HB.out))); (case aF => exact (fun k_ hk => Kd.fresh' (Kd.R_lt (by (with_reducible repeat (first | apply Kd.R_alloc | apply Kd.R_drewN | apply Kd.R_drew)); exact HO249.out)) k_ hk)); (case aO => exact (by (with_reducible repeat (first | apply Kd.R_alloc | apply Kd.R_drewN | apply Kd.R_drew)); exact HO252.out)); (case aS => exact (below_size (by repeat (first | (with_reducible first | exact HB.out | apply below_alloc | apply pw_below_drewN | apply below_drew1 | refine below_set ?_ GE229.out) | exact HB.out)))); (case aL => have := LMc26.out; omega); intro v255 w32 ho hb hg hat; rw [← Ny254.out] at ho; have n0_ := Aside0.mk (blk_grown (g := gb229) (o := .cells #[.string a0_0, .int .i64 a0_1, .slice (some ad246) l0_2.length c0_2] 25 (0, 0)) (by (with_reducible repeat (first | refine blk_drewN ?_ _ | refine blk_drew ?_ | refine blk_alloc ?_ _)); exact BK229.out) hg (Kd.R_ne HO252.out BK229.out (by decide))); have n1_ := Aside0.mk (Kd.R_after (ok := (fun _ => True)) (by (with_reducible repeat (first | apply Kd.R_alloc | apply Kd.R_drewN | apply Kd.R_drew)); exact HO249.out) hg hat); have n2_ := Aside0.mk (hb); have n3_ := Aside0.mk (ho); clear BK229; clear HO249; clear HB; clear HO252; have BK229 := n0_; have HO249 := n1_; have HB := n2_; have HO256 := n3_; clear n0_ n1_ n2_ n3_; clear ho hb hg hat))
                    go_roundg k1
                    case measure => have := HK1.out; omega
                    case rel => exact ⟨(y254), (wrap64 (x6_1 + 1)), (by first | rfl | (simp; done) | (simp [*]; done)), H', ⟨by have := HK1.out; omega⟩, ⟨by (with_reducible repeat (first | apply Kd.R_alloc | apply Kd.R_drewN | apply Kd.R_drew)); exact Kd.R_mono HO256.out (fun _ hk => trivial)⟩, ⟨by (with_reducible repeat (first | refine blk_drewN ?_ _ | refine blk_drew ?_ | refine blk_alloc ?_ _)); exact BK229.out⟩, ⟨by repeat (first | (with_reducible first | exact HB.out | apply below_alloc | apply pw_below_drewN | apply below_drew1 | refine below_set ?_ GE229.out) | exact HB.out)⟩⟩
                  · rw [if_neg c26] at H
                    exact absurd H (by simp)
                · rw [if_neg c25] at H
                  exact absurd H (by simp)
              · rw [if_neg c23] at H
                exact absurd H (by simp)
            · rw [if_neg c22] at H
              have c22b0 : decide (x6_1 < (l0_2.length : Int)) = false := decide_eq_false c22
              clear c22
              simp only [Option.some.injEq, Prod.mk.injEq] at H
              obtain ⟨rfl, rfl⟩ := H
              have hcz33_0 : wr.cell? ⟨gb229, 0, none⟩ = some (.string a0_0) := (blk_cell BK229.out 0).trans rfl
              have hcz33_1 : wr.cell? ⟨gb229, 1, none⟩ = some (.int .i64 a0_1) := (blk_cell BK229.out 1).trans rfl
              have hcz33_2 : wr.cell? ⟨gb229, 2, none⟩ = some (.slice A0_2 l0_2.length c0_2) := (blk_cell BK229.out 2).trans rfl
              have hfz33_0 := blk_frozen BK229.out 0
              have hfz33_1 := blk_frozen BK229.out 1
              have hfz33_2 := blk_frozen BK229.out 2
              go_wp2
              go_ret2
              exact ⟨_, by first | rfl | (simp [errW_none, errW_some] <;> rfl) | (simp [*, errW_none, errW_some] <;> rfl), by (with_reducible repeat (first | apply Kd.R_alloc | apply Kd.R_drewN | apply Kd.R_drew)); exact HO_5.out, by repeat (first | (with_reducible first | exact HB.out | apply below_alloc | apply pw_below_drewN | apply below_drew1 | refine below_set ?_ GE229.out) | exact HB.out)⟩
      · rw [if_neg c8] at H
        exact absurd H (by simp)
    · rw [if_neg c6] at H
      exact absurd H (by simp)
  · replace c3 := Bool.eq_false_iff.mpr c3
    subst c3
    have H1 : (some (([] : List Int), false)) = some (r1, r2) := by rw [if_neg (show ¬ (false = true) by decide)] at H; exact H
    clear H
    have H := H1
    clear H1
    simp only [Option.some.injEq, Prod.mk.injEq] at H
    obtain ⟨rfl, rfl⟩ := H
    go_enter Try.func33, Try.ntmps33
    go_wp2_with (first | ((with_reducible refine gate_dst (N := 1) rfl ?_); refine box_event ?hg (N := 1) ?hd (cs := #[.string a0_0, .int .i64 a0_1, .slice A0_2 l0_2.length c0_2]) (t := 25) ?hr ?_; (case hd => rfl); (case hg => rfl); (case hr => first | (go_simp; done) | (go_simp; rfl)); intro gb229 hg w34 hbox hb; have n0_ := Aside0.mk (below_step (by repeat (first | (with_reducible first | exact HB.out | apply below_alloc | apply pw_below_drewN | apply below_drew1) | exact HB.out)) hb); have n1_ := Aside0.mk (hbox); have n2_ := Aside0.mk ((by rw [hg]; exact (below_size (by repeat (first | (with_reducible first | exact HB.out | apply below_alloc | apply pw_below_drewN | apply below_drew1) | exact HB.out))) : w.heap.size ≤ gb229)); have n3_ := Aside0.mk ((by rw [hg]; exact (below_size (by repeat (first | (with_reducible first | exact HB.out | apply below_alloc | apply pw_below_drewN | apply below_drew1) | exact HB.out))) : w.heap.size ≤ gb229)); clear HB; have HB := n0_; have BK229 := n1_; have GW229 := n2_; have GE229 := n3_; clear n0_ n1_ n2_ n3_; clear hb hbox hg; have hcz35_0 : w34.cell? ⟨gb229, 0, none⟩ = some (.string a0_0) := (blk_cell BK229.out 0).trans rfl; have hcz35_1 : w34.cell? ⟨gb229, 1, none⟩ = some (.int .i64 a0_1) := (blk_cell BK229.out 1).trans rfl; have hcz35_2 : w34.cell? ⟨gb229, 2, none⟩ = some (.slice A0_2 l0_2.length c0_2) := (blk_cell BK229.out 2).trans rfl; have hfz35_0 := blk_frozen BK229.out 0; have hfz35_1 := blk_frozen BK229.out 1; have hfz35_2 := blk_frozen BK229.out 2) | ((with_reducible refine gate_callee (f := 36) rfl ?_); refine goesL_ (some 8) rfl rfl Try.func36 (by kernel_rfl) rfl #[.agg #[.string a0_0, .int .i64 a0_1, .slice A0_2 l0_2.length c0_2]] rfl (by (try simp only [List.map_toArray, List.map_cons, List.map_nil]); first | done | rfl | (simp only [List.length_drop, List.length_take]; rfl)) ?_; (with_reducible refine (towncrierref05_May.calls k a0_0 a0_1 _ _ l0_2 false _ ?side1 ?side2 A2.out).mono ?_); (case side1 => repeat (first | exact (Kd.C_below HR0_2.out HB.out) | (with_reducible refine Kd.C_alloc ?_ _) | (with_reducible refine Kd.C_drewN ?_ _) | (with_reducible refine Kd.C_drew ?_))); (case side2 => exact HC0_2.out); rintro e w36 ⟨rfl, hb⟩; refine ⟨_, rfl, ?_⟩; have n0_ := Aside0.mk (blk_below (g := gb229) (o := .cells #[.string a0_0, .int .i64 a0_1, .slice A0_2 l0_2.length c0_2] 25 (0, 0)) (by (with_reducible repeat (first | refine blk_drewN ?_ _ | refine blk_drew ?_ | refine blk_alloc ?_ _)); exact BK229.out) hb); have n1_ := Aside0.mk (below_step (by repeat (first | (with_reducible first | exact HB.out | apply below_alloc | apply pw_below_drewN | apply below_drew1 | refine below_set ?_ GE229.out) | exact HB.out)) hb); clear BK229; clear HB; have BK229 := n0_; have HB := n1_; clear n0_ n1_; (try clear hb); (try clear hb2); (try clear hk); (try clear hi)))
    go_ret2
    exact ⟨_, by first | rfl | (simp [errW_none, errW_some] <;> rfl) | (simp [*, errW_none, errW_some] <;> rfl), by first | exact Kd.R_nil _ _ _ _ _ | exact Kd.N_nil _ _ _ _ _ | exact Kd.V_nil _ _ _ _ _ | exact Kd.Q_nil _ _ _ _ _ | exact Kd.S_nil _ _ _ _ _, by repeat (first | (with_reducible first | exact HB.out | apply below_alloc | apply pw_below_drewN | apply below_drew1 | refine below_set ?_ GE229.out) | exact HB.out)⟩

end Go.Proofs.Ytbgdamlidohfhaa.P

namespace Go.Proofs.Ytbgdamlidohfhaa.P
open Go.RowKit Go.Proofs.YtbgdamlidohfhaaW.PrintWords Go.Proofs.YtbgdamlidohfhaaW.PrintLast Go.Proofs.YtbgdamlidohfhaaW.PrintMore
attribute [local go_sem] max2_int min2_int max_two min_two max_three min_three max_four min_four   -- for this text's walks alone
set_option linter.unusedVariables false
set_option linter.unusedSimpArgs false

/-! ### towncrierref01_Get: function 55 -/
def towncrierref01_Get.f (l0 : List Int) : Option (Int × Int × Bool) := if byteL l0 then some (tellN (getN l0)) else none
def ref01GetRel (l : List Int) (i : Nat) (v5 v6 : Value) : Prop := i ≤ 10 ∧ i ≤ l.length ∧ leCont (l.take i) ∧ ((10 ≤ i ∧ ∃ x y, v5 = .int .u64 x ∧ v6 = .int .u64 y) ∨ (i ≤ 9 ∧ v5 = .int .u64 ((leVal (l.take i) : Nat) : Int) ∧ v6 = .int .u64 ((128 ^ i : Nat) : Int))) ∧ getN l = getNAux i (leVal (l.take i)) (l.drop i)
set_option maxHeartbeats 1000000 in
set_option maxRecDepth 100000 in
theorem towncrierref01_Get.told (A0 : Option Addr) (c0 : Nat) (l0 : List Int) (w : World) (hb : byteL l0) (hr0 : Kd.C (Kd.int .u8) w A0 l0.length l0) (hc0 : l0.length ≤ c0) :
    Calls Try.prog 55 #[.slice A0 l0.length c0] w (getPost l0 w) := by
  have HR := Aside0.mk hr0
  have HC := Aside0.mk hc0
  have HB := Aside0.mk hb
  have hm := hr0.2.1
  clear hr0 hc0 hb
  go_enter Try.func55, Try.ntmps55
  go_wp2
  go_loop [5, 6, 7] (fun v5 v6 v7 => ∃ i : Nat, v7 = .int .i64 i ∧ ref01GetRel l0 i v5 v6) (fun _ _ v => 10 - (intOf v).toNat)
  case atStart => exact ⟨0, rfl, by omega, by omega, fun x hx => by simp at hx, .inr ⟨by omega, rfl, rfl⟩, rfl⟩
  case round =>
    obtain ⟨i, rfl, hi, hil, hcont, hval, hget⟩ := hrel
    have HCONT := Aside0.mk hcont
    have HGET := Aside0.mk hget
    clear hcont hget
    rcases hval with ⟨h10, x, y, rfl, rfl⟩ | ⟨h9, rfl, rfl⟩
    · have HE : Aside0 (getN l0 = none) := ⟨by rw [HGET.out, getNAux_late _ _ h10]⟩
      have hn : ¬ i < 10 := by omega
      by_cases hlt : i < l0.length
      all_goals
        go_wp2
        go_ret3
        exact ⟨by rw [HE.out]; rfl, Below.refl _ _⟩
    · by_cases hlt : i < l0.length
      · obtain ⟨ad, e, hx⟩ := Kd.at_int HR.out (i : Int) (by omega) (by omega)
        cases e
        have hcb := HB.out (l0.getD i 0) (by simp [List.getD, hlt])
        have HD : Aside0 (l0.drop i = l0.getD i 0 :: l0.drop (i + 1)) := ⟨by rw [List.drop_eq_getElem_cons hlt]; simp [List.getD, hlt]⟩
        have HT : Aside0 (l0.take (i + 1) = l0.take i ++ [l0.getD i 0]) := ⟨take_snoc 0 l0 i hlt⟩
        simp only [Int.toNat_natCast] at hx
        rw [show rd l0 (i : Int) = l0.getD i 0 from by simp [rd]] at hx
        obtain ⟨c, hc⟩ := Int.eq_ofNat_of_zero_le hcb.1
        rw [hc] at hx HD HT hcb
        clear hc
        have hc2 : c < 256 := by omega
        clear hcb
        obtain ⟨p, hp⟩ : ∃ p, 128 ^ i = p := ⟨_, rfl⟩
        obtain ⟨a, ha⟩ : ∃ a, leVal (l0.take i) = a := ⟨_, rfl⟩
        rw [hp, ha]
        have HP := Aside0.mk hp
        have HA := Aside0.mk ha
        clear hp ha
        have hlt10 : i < 10 := by omega
        have hsum := u64_sum a c p
        have hlen : (l0.take i).length = i := by rw [List.length_take]; omega
        have HV : Aside0 (leVal (l0.take i ++ [(c : Int)]) = a + c % 128 * p) := ⟨by rw [leVal_snoc, hlen, HA.out, HP.out, Int.toNat_natCast]⟩
        have HLEN := Aside0.mk hlen
        clear hlen
        obtain ⟨v, hv⟩ : ∃ v, (a + c % 128 * p) % 18446744073709551616 = v := ⟨_, rfl⟩
        rw [hv] at hsum
        have HVV := Aside0.mk hv
        clear hv
        by_cases h128 : c < 128
        · have h128' : ((c : Nat) : Int) < 128 := by omega
          have hput : towncrierref01_Put.f ((v : Nat) : Int) = some (lePut v) := by
            have := HVV.out
            unfold towncrierref01_Put.f
            rw [if_pos (by omega), if_pos (by omega), Int.toNat_natCast]
          have HPUT := Aside0.mk hput
          have HEND := Aside0.mk (getN_end (c := (c : Int)) (l := l0.drop (i + 1)) HCONT.out (by omega) (by omega) (by rw [HLEN.out]; omega))
          clear hput
          obtain ⟨i0, hi0, _, hsz0, _⟩ := info_parts info5
          have hcut := (print_take_of (P := Try.prog) (Value.int .u8) 0 43 5 .i64 Try.underlying43 hi0 hsz0 (some ad) c0 l0 ((i : Int) + 1) (by omega) (by omega) HC.out).1
          have hln : (l0.take (i + 1)).length = i + 1 := by rw [List.length_take]; omega
          rw [show ((i : Int) + 1).toNat = i + 1 from by omega, hln] at hcut
          have HTK := Aside0.mk (Kd.C_take HR.out (show i + 1 ≤ l0.length by omega))
          rw [hln] at HTK
          clear hln
          clear hi0 hsz0
          by_cases heq : lePut v = l0.take (i + 1)
          · have hs1 : ((strOfNums (lePut v)).toList == (strOfNums (l0.take (i + 1))).toList) = true := by rw [heq]; simp
            have HRES : Aside0 (getN l0 = some (v, i + 1)) := ⟨by
              rw [HGET.out, HD.out]
              have h := HEND.out
              rw [HLEN.out] at h
              rw [h, HV.out, HVV.out, ← HT.out, if_pos heq]
              have h2 := congrArg leVal heq
              rw [leVal_put, HT.out, HV.out] at h2
              rw [h2]⟩
            have HEQ := Aside0.mk heq
            clear heq
            go_wp2_with (go_at_call 53; refine (towncrierref01_Put.calls ((v : Nat) : Int) _ _ HPUT.out).mono ?_; rintro e w1 ⟨v8, rfl, ho, hb1⟩; have HO := Aside0.mk ho; clear ho; have hcv1 := fun m => own_string (P := Try.prog) Try.underlying43 Try.underlying5 Try.underlying9 (Kd.own_of_R (Kd.R_drewN HO.out m)); have hcv2 := fun m => Kd.C_string (P := Try.prog) (c := c0) Try.underlying43 Try.underlying5 Try.underlying9 (Kd.C_drewN (Kd.C_below HTK.out hb1) m))
            have hw1 : IntKind.i64.wrap ((i : Int) + 1) = (i : Int) + 1 := IntWalk.i64_in _ (by omega)
            go_quiet (fail)
            go_wp2
            go_ret3
            exact ⟨by rw [HRES.out]; rfl, pw_below_drewN hb1 _⟩
          · have hs1 : ((strOfNums (lePut v)).toList == (strOfNums (l0.take (i + 1))).toList) = false := beq_eq_false_iff_ne.mpr fun h => heq (str_inj (lePut_byte v) (byteL_take HB.out _) h)
            have HRES : Aside0 (getN l0 = none) := ⟨by
              rw [HGET.out, HD.out]
              have h := HEND.out
              rw [HLEN.out] at h
              rw [h, HV.out, HVV.out, ← HT.out, if_neg heq]⟩
            clear heq
            go_wp2_with (go_at_call 53; refine (towncrierref01_Put.calls ((v : Nat) : Int) _ _ HPUT.out).mono ?_; rintro e w1 ⟨v8, rfl, ho, hb1⟩; have HO := Aside0.mk ho; clear ho; have hcv1 := fun m => own_string (P := Try.prog) Try.underlying43 Try.underlying5 Try.underlying9 (Kd.own_of_R (Kd.R_drewN HO.out m)); have hcv2 := fun m => Kd.C_string (P := Try.prog) (c := c0) Try.underlying43 Try.underlying5 Try.underlying9 (Kd.C_drewN (Kd.C_below HTK.out hb1) m))
            have hw1 : IntKind.i64.wrap ((i : Int) + 1) = (i : Int) + 1 := IntWalk.i64_in _ (by omega)
            go_quiet (fail)
            go_wp2
            go_ret3
            exact ⟨by rw [HRES.out]; rfl, pw_below_drewN hb1 _⟩
        · have h128' : ¬ ((c : Nat) : Int) < 128 := by omega
          go_wp2
          go_round
          case measure => simp [intOf]; omega
          case rel =>
            refine ⟨i + 1, by go_num, by omega, by omega, ?_, ?_, ?_⟩
            · rw [HT.out]
              intro x hx2
              rcases List.mem_append.1 hx2 with hx2 | hx2
              · exact HCONT.out x hx2
              · simp at hx2; omega
            · by_cases h9 : i = 9
              · exact .inl ⟨by omega, _, _, rfl, rfl⟩
              · refine .inr ⟨by omega, ?_, ?_⟩
                · have h1 := leVal_lt (l0.take i)
                  rw [HLEN.out, HA.out] at h1
                  have h2 := HP.out
                  have hpl8 : 128 ^ i ≤ 128 ^ 8 := Nat.pow_le_pow_right (by decide) (by omega)
                  have h88 : (128 : Nat) ^ 8 = 72057594037927936 := by decide
                  have hx3 : c % 128 * p ≤ 127 * p := Nat.mul_le_mul_right _ (by omega)
                  have h3 := HVV.out
                  rw [Nat.mod_eq_of_lt (by omega)] at h3
                  rw [HT.out, HV.out, h3]
                · have h2 := HP.out
                  have hpl8 : 128 ^ i ≤ 128 ^ 8 := Nat.pow_le_pow_right (by decide) (by omega)
                  have h88 : (128 : Nat) ^ 8 = 72057594037927936 := by decide
                  rw [Nat.pow_succ, h2, show ((p : Nat) : Int) * 128 = ((p * 128 : Nat) : Int) from by omega, u64_mod, Nat.mod_eq_of_lt (by omega)]
            · rw [HGET.out, HD.out, HT.out]
              have h := getN_more (c := (c : Int)) (l := l0.drop (i + 1)) (t := l0.take i) (by rw [HLEN.out]; omega) (by omega)
              rw [HLEN.out] at h
              rw [h]
              simp [HLEN.out]
      · have HE : Aside0 (getN l0 = none) := ⟨by rw [HGET.out, List.drop_of_length_le (by omega)]; rfl⟩
        go_wp2
        go_ret3
        exact ⟨by rw [HE.out]; rfl, Below.refl _ _⟩
theorem towncrierref01_Get.calls (A0 : Option Addr) (c0 : Nat) (l0 : List Int) (r1 r2 : Int) (r3 : Bool) (w : World) (hr0 : Kd.C (Kd.int .u8) w A0 l0.length l0) (hc0 : l0.length ≤ c0) (h : towncrierref01_Get.f l0 = some (r1, r2, r3)) :
    Calls Try.prog 55 #[.slice A0 l0.length c0] w fun e w' => e = .returned (.tuple #[.int .u64 r1, .int .i64 r2, .bool r3]) ∧ Below w.heap.size w w' := by
  unfold towncrierref01_Get.f at h
  by_cases hb : byteL l0
  · rw [if_pos hb] at h
    have h2 := Option.some.inj h
    refine (towncrierref01_Get.told A0 c0 l0 w hb hr0 hc0).mono ?_
    rintro e w' ⟨rfl, h3⟩
    rw [h2]
    exact ⟨rfl, h3⟩
  · rw [if_neg hb] at h
    exact absurd h (by simp)
theorem towncrierref01_Get.yes (A0 : Option Addr) (c0 : Nat) (l0 : List Int) (w : World) {n u : Nat} (hg : getN l0 = some (n, u)) (hb : byteL l0) (hr0 : Kd.C (Kd.int .u8) w A0 l0.length l0) (hc0 : l0.length ≤ c0) : Calls Try.prog 55 #[.slice A0 l0.length c0] w (numYes n u w) :=
  (towncrierref01_Get.told A0 c0 l0 w hb hr0 hc0).mono fun e w' h => by unfold getPost at h; rw [hg] at h; exact h
theorem towncrierref01_Get.no (A0 : Option Addr) (c0 : Nat) (l0 : List Int) (w : World) (hg : getN l0 = none) (hb : byteL l0) (hr0 : Kd.C (Kd.int .u8) w A0 l0.length l0) (hc0 : l0.length ≤ c0) : Calls Try.prog 55 #[.slice A0 l0.length c0] w (numNo w) :=
  (towncrierref01_Get.told A0 c0 l0 w hb hr0 hc0).mono fun e w' h => by unfold getPost at h; rw [hg] at h; exact h

end Go.Proofs.Ytbgdamlidohfhaa.P

namespace Go.Proofs.Ytbgdamlidohfhaa.P
open Go.RowKit Go.Proofs.YtbgdamlidohfhaaW.PrintWords Go.Proofs.YtbgdamlidohfhaaW.PrintLast Go.Proofs.YtbgdamlidohfhaaW.PrintMore
attribute [local go_sem] max2_int min2_int max_two min_two max_three min_three max_four min_four   -- for this text's walks alone
set_option linter.unusedVariables false
set_option linter.unusedSimpArgs false

/-! ### towncrierref05_Read: function 54 -/
set_option maxHeartbeats 1000000 in
set_option maxRecDepth 100000 in
theorem towncrierref05_Read.yes (A0 : Option Addr) (c0 : Nat) (l0 : List Int) (most : Nat) (w : World) {t : List Int} {n : Nat} (hg : readT l0 most = some (t, n)) (hm : most ≤ 1000) (hb : byteL l0) (hr0 : Kd.C (Kd.int .u8) w A0 l0.length l0) (hc0 : l0.length ≤ c0) :
    Calls Try.prog 54 #[.slice A0 l0.length c0, .int .i64 (most : Int)] w (textYes t n w) := by
  have hl63 := hr0.2.1
  unfold readT at hg
  cases hq : getM l0 most with
  | none => rw [hq] at hg; simp at hg
  | some p =>
    obtain ⟨a, u⟩ := p
    rw [hq] at hg
    simp only at hg
    by_cases h5 : a ≤ l0.length - u
    · rw [if_pos h5] at hg
      simp only [Option.some.injEq, Prod.mk.injEq] at hg
      obtain ⟨rfl, rfl⟩ := hg
      obtain ⟨h1, h2, h3⟩ := getM_used hq
      have hw1 := u64_small' (n := most) (by omega)
      have hw2 : IntKind.i64.wrap ((a : Nat) : Int) = (a : Int) := IntWalk.i64_in _ (by omega)
      obtain ⟨i0, hi0, _, hsz0, _⟩ := info_parts info5
      obtain ⟨A', hcut, hC', hln⟩ := mid_row (P := Try.prog) (d := Kd.int .u8) Try.underlying43 hi0 hsz0 A0 c0 l0 u a (u : Int) ((u : Int) + (a : Int)) rfl rfl (by omega) hc0
      have HCUT := Aside0.mk (hC' w hr0)
      have HC := Aside0.mk (towncrierref01_Get.yes A0 c0 l0 w h1 hb hr0 hc0)
      have hsz : ((a : Nat) : Int) ≤ (most : Int) := by omega
      have hsz2 : ((l0.length : Nat) : Int) - (u : Int) ≥ (a : Int) := by omega
      clear hi0 hsz0 hq h1 hb hr0 hC' hln h5 h2
      go_enter Try.func54, Try.ntmps54
      go_wp2_with (go_at_call 55; refine HC.out.mono ?_; rintro e w1 ⟨rfl, hb1⟩; have hcv := Kd.C_string (P := Try.prog) (c := c0 - u) Try.underlying43 Try.underlying5 Try.underlying9 (Kd.C_below HCUT.out hb1))
      go_ret3
      exact ⟨rfl, hb1⟩
    · rw [if_neg h5] at hg; simp at hg
set_option maxHeartbeats 1000000 in
set_option maxRecDepth 100000 in
theorem towncrierref05_Read.no (A0 : Option Addr) (c0 : Nat) (l0 : List Int) (most : Nat) (w : World) (hg : readT l0 most = none) (hm : most ≤ 1000) (hb : byteL l0) (hr0 : Kd.C (Kd.int .u8) w A0 l0.length l0) (hc0 : l0.length ≤ c0) :
    Calls Try.prog 54 #[.slice A0 l0.length c0, .int .i64 (most : Int)] w (textNo w) := by
  have hl63 := hr0.2.1
  have hw1 := u64_small' (n := most) (by omega)
  cases hq : getN l0 with
  | none =>
    have HC := Aside0.mk (towncrierref01_Get.no A0 c0 l0 w hq hb hr0 hc0)
    clear hg hb hr0 hq
    go_enter Try.func54, Try.ntmps54
    go_wp2_with (go_at_call 55; refine HC.out.mono ?_; rintro e w1 ⟨rfl, hb1⟩)
    go_ret3
    exact ⟨rfl, hb1⟩
  | some p =>
    obtain ⟨a, u⟩ := p
    have HC := Aside0.mk (towncrierref01_Get.yes A0 c0 l0 w hq hb hr0 hc0)
    have hu := (getN_used hq).2.1
    unfold readT at hg
    rw [getM_some hq] at hg
    by_cases h2 : a ≤ most
    · rw [if_pos h2] at hg
      simp only at hg
      by_cases h5 : a ≤ l0.length - u
      · rw [if_pos h5] at hg; simp at hg
      · have hw2 : IntKind.i64.wrap ((a : Nat) : Int) = (a : Int) := IntWalk.i64_in _ (by omega)
        have hsz : ((a : Nat) : Int) ≤ (most : Int) := by omega
        have hsz2 : ((l0.length : Nat) : Int) - (u : Int) < (a : Int) := by omega
        clear hg hb hr0 hq h5 h2
        go_enter Try.func54, Try.ntmps54
        go_wp2_with (go_at_call 55; refine HC.out.mono ?_; rintro e w1 ⟨rfl, hb1⟩)
        all_goals first | (exfalso; omega) | (go_ret3; exact ⟨rfl, hb1⟩)
    · have hsz : ¬ ((a : Nat) : Int) ≤ (most : Int) := by omega
      clear hg hb hr0 hq h2
      go_enter Try.func54, Try.ntmps54
      go_wp2_with (go_at_call 55; refine HC.out.mono ?_; rintro e w1 ⟨rfl, hb1⟩)
      all_goals first | (exfalso; omega) | (go_ret3; exact ⟨rfl, hb1⟩)

end Go.Proofs.Ytbgdamlidohfhaa.P

namespace Go.Proofs.Ytbgdamlidohfhaa.P
open Go.RowKit Go.Proofs.YtbgdamlidohfhaaW.PrintWords Go.Proofs.YtbgdamlidohfhaaW.PrintLast Go.Proofs.YtbgdamlidohfhaaW.PrintMore
attribute [local go_sem] max2_int min2_int max_two min_two max_three min_three max_four min_four   -- for this text's walks alone
set_option linter.unusedVariables false
set_option linter.unusedSimpArgs false

/-! ### towncrierref05_Get: function 34 -/
def numGen (n u : Nat) (b : Bool) (w : World) (e : Ending) (w' : World) : Prop := e = .returned (.tuple #[.int .u64 (n : Int), .int .i64 (u : Int), .bool b]) ∧ Below w.heap.size w w'
theorem ref01Get_gen (ld : List Int) (hb : byteL ld) : ∃ n u b, ((b = true ∧ getN ld = some (n, u)) ∨ (b = false ∧ n = 0 ∧ u = 0 ∧ getN ld = none)) ∧ u ≤ ld.length ∧ n < 18446744073709551616 ∧ ∀ (A0 : Option Addr) (c0 : Nat) (w : World), Kd.C (Kd.int .u8) w A0 ld.length ld → ld.length ≤ c0 → Calls Try.prog 55 #[.slice A0 ld.length c0] w (numGen n u b w) := by
  cases hg : getN ld with
  | none => exact ⟨0, 0, false, .inr ⟨rfl, rfl, rfl, rfl⟩, Nat.zero_le _, by omega, fun A0 c0 w hr hc => towncrierref01_Get.no A0 c0 ld w hg hb hr hc⟩
  | some p =>
    obtain ⟨n, u⟩ := p
    exact ⟨n, u, true, .inl ⟨rfl, rfl⟩, (getN_used hg).2.1, by have := (getN_some hb hg).1; omega, fun A0 c0 w hr hc => towncrierref01_Get.yes A0 c0 ld w hg hb hr hc⟩
/-- In a round: what is kept of the answer's, of nothing's and of the schema's block, and the fields so far. -/
structure getRel5 (l : List Int) (nm : ByteArray) (ver many : Int) (w : World) (B : Nat) (k at_ : Nat) (w' : World) : Prop where
  le : (k : Int) ≤ many
  at' : at_ ≤ l.length
  st : ∃ fs v, fs.length = k ∧ getRaw l = contF l (many.toNat - k) at_ fs nm ver ∧ w'.heap[B]? = some (.cells #[.string nm, .int .i64 ver, v] 25 (0, 0)) ∧ Kd.R kField 39 w' w.heap.size (fun _ => True) v fs
  ans : w'.heap[w.heap.size]? = some (.cells #[.string ⟨#[]⟩, .int .i64 0, .slice none 0 0] 25 (0, 0))
  non : w'.heap[w.heap.size + 1]? = some (.cells #[.string ⟨#[]⟩, .int .i64 0, .slice none 0 0] 25 (0, 0))
  below : Below w.heap.size w w'
set_option maxHeartbeats 4000000 in
set_option maxRecDepth 100000 in
theorem towncrierref05_Get.told (w : World) (A : Option Addr) (c : Nat) (l : List Int) (hr0 : Kd.C (Kd.int .u8) w A l.length l) (hc0 : l.length ≤ c) (hb : byteL l) :
    Calls Try.prog 34 #[.slice A l.length c] w (getSPost (getS l) w) := by
  have hl63 := hr0.2.1
  have HR := Aside0.mk hr0
  have HC := Aside0.mk hc0
  have HBY := Aside0.mk hb
  have hT1 : 39 ≠ 25 := by decide
  clear hr0 hb
  obtain ⟨i0, hi0, _, hsz0, _⟩ := info_parts info5
  cases hg1 : readT l 12 with
  | none =>
    have HN : Aside0 (getS l = none) := ⟨by unfold getS getRaw; rw [hg1]⟩
    have HG1 := Aside0.mk hg1
    clear hg1 hi0 hsz0
    go_enter Try.func34, Try.ntmps34
    go_wp2_with (go_at_call 54; refine (towncrierref05_Read.no A c l 12 _ HG1.out (by omega) HBY.out (Kd.C_below HR.out (below_alloc (below_alloc (Below.refl _ _) _) _)) HC.out).mono ?_; rintro e w1 ⟨rfl, hb1⟩; have HANSX := Aside0.mk (blk_below (blk_alloc (blk_new _ _) _) hb1); have HNONX := Aside0.mk (blk_below (blk_new2 _ _ _) hb1); have HBX := Aside0.mk (below_step (below_alloc (below_alloc (Below.refl _ _) _) _) hb1); have hx00 : w1.cell? ⟨w.heap.size, 0, none⟩ = some (.string ⟨#[]⟩) := blk_cell HANSX.out 0; have hx01 : w1.cell? ⟨w.heap.size, 1, none⟩ = some (.int .i64 0) := blk_cell HANSX.out 1; have hx02 : w1.cell? ⟨w.heap.size, 2, none⟩ = some (.slice none 0 0) := blk_cell HANSX.out 2; have hx10 : w1.cell? ⟨w.heap.size + 1, 0, none⟩ = some (.string ⟨#[]⟩) := blk_cell HNONX.out 0; have hx11 : w1.cell? ⟨w.heap.size + 1, 1, none⟩ = some (.int .i64 0) := blk_cell HNONX.out 1; have hx12 : w1.cell? ⟨w.heap.size + 1, 2, none⟩ = some (.slice none 0 0) := blk_cell HNONX.out 2; have hxf : ∀ i, w1.frozen? ⟨w.heap.size, i, none⟩ = false := fun i => blk_frozen HANSX.out i)
    rw [HN.out]
    have hz := blk_set (blk_set (blk_set HANSX.out 0 (Value.string ⟨#[]⟩)) 1 (Value.int .i64 0)) 2 (Value.slice none 0 0)
    have hbz := ((HBX.out.setCell (p := ⟨w.heap.size, 0, none⟩) (Nat.le_refl _) (Value.string ⟨#[]⟩)).setCell (p := ⟨w.heap.size, 1, none⟩) (Nat.le_refl _) (Value.int .i64 0)).setCell (p := ⟨w.heap.size, 2, none⟩) (Nat.le_refl _) (Value.slice none 0 0)
    generalize World.setCell (World.setCell (World.setCell _ _ _) _ _) _ _ = W3 at hz hbz ⊢
    have hz0 : W3.cell? ⟨w.heap.size, 0, none⟩ = some (.string ⟨#[]⟩) := blk_cell hz 0
    have hz1 : W3.cell? ⟨w.heap.size, 1, none⟩ = some (.int .i64 0) := blk_cell hz 1
    have hz2 : W3.cell? ⟨w.heap.size, 2, none⟩ = some (.slice none 0 0) := blk_cell hz 2
    exact bodyPost_ret (v := .tuple #[.agg #[.string ⟨#[]⟩, .int .i64 0, .slice none 0 0], .int .i64 0, .bool false]) (by simp [results, Try.results34, go_sem, hz0, hz1, hz2]) rfl ⟨rfl, hbz⟩
  | some p =>
    obtain ⟨t, u⟩ := p
    have hu := (readT_used hg1).1
    obtain ⟨n1, u1, b1, hq1, hu1, hn1, hC1⟩ := ref01Get_gen (l.drop u) (byteL_drop HBY.out u)
    have hln1 : u + (l.drop u).length = l.length := by rw [List.length_drop]; omega
    obtain ⟨n2, u2, b2, hq2, hu2, hn2, hC2⟩ := ref01Get_gen (l.drop (u + u1)) (byteL_drop HBY.out (u + u1))
    have hln2 : u + u1 + (l.drop (u + u1)).length = l.length := by rw [List.length_drop]; omega
    obtain ⟨A1, hcut1, hD1, hlc1⟩ := drop_row (P := Try.prog) (d := Kd.int .u8) Try.underlying43 hi0 hsz0 A c l u (u : Int) rfl hu HC.out
    obtain ⟨A2, hcut2, hD2, hlc2⟩ := drop_row (P := Try.prog) (d := Kd.int .u8) Try.underlying43 hi0 hsz0 A c l (u + u1) ((u : Int) + (u1 : Int)) (by omega) (by omega) HC.out
    have HG1 := Aside0.mk hg1
    have HD1 := Aside0.mk (hD1 w HR.out)
    have HD2 := Aside0.mk (hD2 w HR.out)
    have HL1 := Aside0.mk hlc1
    have HL2 := Aside0.mk hlc2
    have HC1 := Aside0.mk hC1
    have HC2 := Aside0.mk hC2
    have HQ1 := Aside0.mk hq1
    have HQ2 := Aside0.mk hq2
    have hs12 : u + u1 + u2 ≤ l.length := by omega
    have hs11 : u + u1 ≤ l.length := by omega
    clear hg1 hD1 hD2 hlc1 hlc2 hC1 hC2 hq1 hq2 hln1 hln2 hu1 hu2
    by_cases hok : b1 = true ∧ b2 = true ∧ n1 ≤ 1000 ∧ n2 ≤ 6
    · obtain ⟨rfl, rfl, h1000, h6⟩ := hok
      have HRAW : Aside0 (getRaw l = contF l n2 (u + u1 + u2) [] (strOfNums t) n1) := ⟨by
        have e1 : getN (l.drop u) = some (n1, u1) := by rcases HQ1.out with h | h; exact h.2; cases h.1
        have e2 : getN (l.drop (u + u1)) = some (n2, u2) := by rcases HQ2.out with h | h; exact h.2; cases h.1
        unfold getRaw
        rw [HG1.out]
        simp only
        rw [getM_some e1, if_pos h1000]
        simp only
        rw [getM_some e2, if_pos h6]⟩
      clear HQ1 HQ2
      have hw2 : IntKind.i64.wrap ((n1 : Nat) : Int) = (n1 : Int) := IntWalk.i64_in _ (by omega)
      have hw3 : IntKind.i64.wrap ((n2 : Nat) : Int) = (n2 : Int) := IntWalk.i64_in _ (by omega)
      generalize l.drop u = ld1 at *
      generalize l.drop (u + u1) = ld2 at *
      go_enter Try.func34, Try.ntmps34
      go_wp2_with (first
        | (go_at_call 54; refine (towncrierref05_Read.yes A c l 12 _ HG1.out (by omega) HBY.out (Kd.C_below HR.out (below_alloc (below_alloc (Below.refl _ _) _) _)) HC.out).mono ?_; rintro e w1 ⟨rfl, hb1⟩; have HA1 := Aside0.mk (blk_below (blk_alloc (blk_new _ _) _) hb1); have HN1 := Aside0.mk (blk_below (blk_new2 _ _ _) hb1); have HB1 := Aside0.mk (below_step (below_alloc (below_alloc (Below.refl _ _) _) _) hb1); clear hb1)
        | (go_at_call_of 55 (Value.slice A1 ld1.length (c - u)); refine (HC1.out A1 _ _ (Kd.C_below HD1.out HB1.out) HL1.out).mono ?_; rintro e w2 ⟨rfl, hb2⟩; have HA2 := Aside0.mk (blk_below HA1.out hb2); have HN2 := Aside0.mk (blk_below HN1.out hb2); have HB2 := Aside0.mk (below_step HB1.out hb2); clear hb2)
        | (go_at_call 55; refine (HC2.out A2 _ _ (Kd.C_below HD2.out HB2.out) HL2.out).mono ?_; rintro e w3 ⟨rfl, hb3⟩; have HANSX := Aside0.mk (blk_below HA2.out hb3); have HNONX := Aside0.mk (blk_below HN2.out hb3); have HBX := Aside0.mk (below_step HB2.out hb3); have hx00 : w3.cell? ⟨w.heap.size, 0, none⟩ = some (.string ⟨#[]⟩) := blk_cell HANSX.out 0; have hx01 : w3.cell? ⟨w.heap.size, 1, none⟩ = some (.int .i64 0) := blk_cell HANSX.out 1; have hx02 : w3.cell? ⟨w.heap.size, 2, none⟩ = some (.slice none 0 0) := blk_cell HANSX.out 2; have hx10 : w3.cell? ⟨w.heap.size + 1, 0, none⟩ = some (.string ⟨#[]⟩) := blk_cell HNONX.out 0; have hx11 : w3.cell? ⟨w.heap.size + 1, 1, none⟩ = some (.int .i64 0) := blk_cell HNONX.out 1; have hx12 : w3.cell? ⟨w.heap.size + 1, 2, none⟩ = some (.slice none 0 0) := blk_cell HNONX.out 2; have hxf : ∀ i, w3.frozen? ⟨w.heap.size, i, none⟩ = false := fun i => blk_frozen HANSX.out i))
      have hb15 := blk_new w3 (.cells #[.string (strOfNums t), .int .i64 (n1 : Int), .slice none 0 0] 25)
      have hz15 : w.heap.size + 2 ≤ w3.heap.size := by have := blk_lt HNONX.out; omega
      have HB15 := Aside0.mk hb15
      have HA15 := Aside0.mk (blk_alloc HANSX.out (.cells #[.string (strOfNums t), .int .i64 (n1 : Int), .slice none 0 0] 25))
      have HN15 := Aside0.mk (blk_alloc HNONX.out (.cells #[.string (strOfNums t), .int .i64 (n1 : Int), .slice none 0 0] 25))
      have HBX15 := Aside0.mk (below_alloc HBX.out (.cells #[.string (strOfNums t), .int .i64 (n1 : Int), .slice none 0 0] 25))
      clear hb15 hx00 hx01 hx02 hx10 hx11 hx12 hxf HANSX HNONX HBX HA1 HN1 HB1 HA2 HN2 HB2 hb3 HC1 HC2 HD1 HD2 HL1 HL2 hcut1 hcut2
      go_loopw [7, 16, 17, 18, 19] (fun v7 v16 _ _ _ w' => ∃ k at_ : Nat, v16 = .int .i64 k ∧ v7 = .int .i64 at_ ∧ getRel5 l (strOfNums t) n1 n2 w w3.heap.size k at_ w') (fun _ i _ _ _ _ => n2 - (intOf i).toNat)
      case atStart => exact ⟨0, u + u1 + u2, rfl, by push_cast; rfl, by omega, hs12, ⟨[], _, rfl, by simpa using HRAW.out, HB15.out, Kd.R_nil _ _ _ _ _⟩, HA15.out, HN15.out, HBX15.out⟩
      case round =>
        obtain ⟨k, at_, rfl, rfl, hkm, hatl, ⟨fs, v, hfl, hinv, hk6, ho⟩, hans, hnon, hbw⟩ := hrel
        generalize w3.heap.size = b6 at *
        clear HB15 HA15 HN15 HBX15 HRAW
        rw [Int.toNat_natCast] at hinv
        have HINV := Aside0.mk hinv
        have HK6 := Aside0.mk hk6
        have HO := Aside0.mk ho
        have HANS := Aside0.mk hans
        have HNON := Aside0.mk hnon
        have HBW := Aside0.mk hbw
        have HFL := Aside0.mk hfl
        clear hinv hk6 ho hans hnon hbw hfl
        by_cases hlt : k < n2
        · obtain ⟨A4, hcut4, hD4, hlc4⟩ := drop_row (P := Try.prog) (d := Kd.int .u8) Try.underlying43 hi0 hsz0 A c l at_ (at_ : Int) rfl hatl HC.out
          have HD4 := Aside0.mk (hD4 w HR.out)
          have HL4 := Aside0.mk hlc4
          have hln4 : at_ + (l.drop at_).length = l.length := by rw [List.length_drop]; omega
          have hstep := contF_step l (n2 - k - 1) at_ fs (strOfNums t) n1
          rw [show n2 - k - 1 + 1 = n2 - k from by omega] at hstep
          have HBD := Aside0.mk (byteL_drop HBY.out at_)
          clear hD4 hlc4
          cases hg4 : readT (l.drop at_) 12 with
          | none =>
            have HN : Aside0 (getS l = none) := ⟨by unfold getS; rw [HINV.out, hstep, hg4]⟩
            have HG4 := Aside0.mk hg4
            clear hg4 hstep hi0 hsz0
            generalize l.drop at_ = ld4 at *
            go_wp2_with (go_at_call 54; refine (towncrierref05_Read.no A4 _ ld4 12 _ HG4.out (by omega) HBD.out (Kd.C_below HD4.out HBW.out) HL4.out).mono ?_; rintro e w4 ⟨rfl, hb4⟩; have HANSX := Aside0.mk (blk_below HANS.out hb4); have HNONX := Aside0.mk (blk_below HNON.out hb4); have HBX := Aside0.mk (below_step HBW.out hb4); have hx00 : w4.cell? ⟨w.heap.size, 0, none⟩ = some (.string ⟨#[]⟩) := blk_cell HANSX.out 0; have hx01 : w4.cell? ⟨w.heap.size, 1, none⟩ = some (.int .i64 0) := blk_cell HANSX.out 1; have hx02 : w4.cell? ⟨w.heap.size, 2, none⟩ = some (.slice none 0 0) := blk_cell HANSX.out 2; have hx10 : w4.cell? ⟨w.heap.size + 1, 0, none⟩ = some (.string ⟨#[]⟩) := blk_cell HNONX.out 0; have hx11 : w4.cell? ⟨w.heap.size + 1, 1, none⟩ = some (.int .i64 0) := blk_cell HNONX.out 1; have hx12 : w4.cell? ⟨w.heap.size + 1, 2, none⟩ = some (.slice none 0 0) := blk_cell HNONX.out 2; have hxf : ∀ i, w4.frozen? ⟨w.heap.size, i, none⟩ = false := fun i => blk_frozen HANSX.out i)
            rw [HN.out]
            have hz := blk_set (blk_set (blk_set HANSX.out 0 (Value.string ⟨#[]⟩)) 1 (Value.int .i64 0)) 2 (Value.slice none 0 0)
            have hbz := ((HBX.out.setCell (p := ⟨w.heap.size, 0, none⟩) (Nat.le_refl _) (Value.string ⟨#[]⟩)).setCell (p := ⟨w.heap.size, 1, none⟩) (Nat.le_refl _) (Value.int .i64 0)).setCell (p := ⟨w.heap.size, 2, none⟩) (Nat.le_refl _) (Value.slice none 0 0)
            generalize World.setCell (World.setCell (World.setCell _ _ _) _ _) _ _ = W3 at hz hbz ⊢
            have hz0 : W3.cell? ⟨w.heap.size, 0, none⟩ = some (.string ⟨#[]⟩) := blk_cell hz 0
            have hz1 : W3.cell? ⟨w.heap.size, 1, none⟩ = some (.int .i64 0) := blk_cell hz 1
            have hz2 : W3.cell? ⟨w.heap.size, 2, none⟩ = some (.slice none 0 0) := blk_cell hz 2
            exact bodyPost_ret (v := .tuple #[.agg #[.string ⟨#[]⟩, .int .i64 0, .slice none 0 0], .int .i64 0, .bool false]) (by simp [results, Try.results34, go_sem, hz0, hz1, hz2]) rfl ⟨rfl, hbz⟩
          | some p4 =>
            obtain ⟨t', n4⟩ := p4
            have hn4 := (readT_used hg4).1
            have hs4 : at_ + n4 ≤ l.length := by omega
            have hs4' : (at_ : Int) + (n4 : Int) ≤ 9223372036854775807 := by omega
            rw [hg4] at hstep
            simp only at hstep
            have HG4 := Aside0.mk hg4
            by_cases hend : at_ + n4 < l.length
            · rw [List.drop_eq_getElem_cons hend] at hstep
              simp only at hstep
              obtain ⟨adb, hadb, hxb⟩ := Kd.at_int HR.out ((at_ + n4 : Nat) : Int) (by omega) (by omega)
              subst hadb
              have hbb := HBY.out l[at_ + n4] (List.getElem_mem _)
              rw [show rd l ((at_ + n4 : Nat) : Int) = l[at_ + n4] from by show l.getD ((at_ + n4 : Nat) : Int).toNat 0 = _; rw [Int.toNat_natCast]; simp [List.getD, hend]] at hxb
              simp only [Int.toNat_natCast] at hxb
              generalize l[at_ + n4] = x0 at *
              obtain ⟨hx01, hx02⟩ := hbb
              have hwx : IntKind.i64.wrap x0 = x0 := IntWalk.i64_in _ (by omega)
              have HSTEP := Aside0.mk (HINV.out.trans hstep)
              have hlte : ((at_ : Int) + (n4 : Int)) < (l.length : Int) := by omega
              have hge0 : 0 ≤ (at_ : Int) + (n4 : Int) := by omega
              have hnat : ((at_ : Int) + (n4 : Int)).toNat = at_ + n4 := by omega
              have HXB := Aside0.mk hxb
              clear hg4 hstep hi0 hsz0 hxb hln4
              generalize l.drop at_ = ld4 at *
              go_wp2_with (go_at_call 54; refine (towncrierref05_Read.yes A4 _ ld4 12 _ HG4.out (by omega) HBD.out (Kd.C_below HD4.out HBW.out) HL4.out).mono ?_; rintro e w4 ⟨rfl, hb4⟩; have HK4 := Aside0.mk (blk_below HK6.out hb4); have HA4 := Aside0.mk (blk_below HANS.out hb4); have HN4 := Aside0.mk (blk_below HNON.out hb4); have HB4 := Aside0.mk (below_step HBW.out hb4); have HO4 := Aside0.mk (Kd.R_below HO.out hb4); have hxb4 := pw_cell_below HB4.out HXB.out; have hd4 : w4.cell? ⟨b6, 2, none⟩ = some v := blk_cell HK4.out 2; have hd4a : ∀ o, (w4.alloc o).cell? ⟨b6, 2, none⟩ = some v := fun o => cell_later o hd4; have hxb4a : ∀ o, (w4.alloc o).cell? (adb.add (at_ + n4)) = some (.int .u8 x0) := fun o => cell_later o hxb4; have hz4 : b6 < w4.heap.size := blk_lt HK4.out; clear hb4)
              go_region_law (first
                | (refine Kd.R_append_step (o := ⟨some 108, _, _, _, _, _⟩) kField (w0 := w) (W := w4.drew) w.heap.size ?hw (.tmp 99) (.tmp 107) 23 39 (.agg #[(.string ⟨#[]⟩), (.int .i64 0)]) 24 rfl Try.underlying23 infoField rfl ?h0 ?h1 v fs (⟨strOfNums t', x0⟩ : SField) [.string (strOfNums t'), .int .i64 x0] (fun _ => True) (fun _ => False) ?hs ?hx ?aP (fun _ h => h.elim) (fun _ _ => trivial) ?aO ?aB ?aS ?aL ?_; (case hw => rfl); (case h0 => decide); (case h1 => decide); (case hs => rfl); (case hx => rfl); (case aP => exact kField_mkM _ _ _ (⟨strOfNums t', x0⟩ : SField)); (case aO => exact Kd.R_drew HO4.out); (case aB => exact below_drew HB4.out); (case aS => exact below_size (below_drew HB4.out)); (case aL => rw [HFL.out]; omega); intro v6 w6 ho6 hb6 hg6 hat6; obtain ⟨A6, c6, hv6⟩ := Kd.R_slice ho6; rw [List.length_append, List.length_singleton] at hv6; subst hv6; have HO6 := Aside0.mk ho6; have HK6'' := Aside0.mk (blk_grown (blk_drew HK4.out) hg6 (Kd.R_ne HO4.out HK4.out hT1)); have HN6 := Aside0.mk (blk_grown (blk_drew HN4.out) hg6 (Kd.R_ne HO4.out HN4.out hT1)); have HA6 := Aside0.mk (blk_grown (blk_drew HA4.out) hg6 (Kd.R_ne HO4.out HA4.out hT1)); have hd60 : w6.cell? ⟨b6, 2, none⟩ = some v := blk_cell HK6''.out 2; have hd61 : w6.frozen? ⟨b6, 2, none⟩ = false := blk_frozen HK6''.out 2; clear ho6))
              all_goals
                have HK7 := Aside0.mk (blk_set HK6''.out 2 (Value.slice A6 (fs.length + 1) c6))
                have HO7 := Aside0.mk (Kd.R_set HO6.out HK6''.out (by decide) 2 (Value.slice A6 (fs.length + 1) c6))
                have HN7 := Aside0.mk (blk_far HN6.out (p := ⟨b6, 2, none⟩) (show w.heap.size + 1 ≠ b6 by omega) (Value.slice A6 (fs.length + 1) c6))
                have HA7 := Aside0.mk (blk_far HA6.out (p := ⟨b6, 2, none⟩) (show w.heap.size ≠ b6 by omega) (Value.slice A6 (fs.length + 1) c6))
                have HB7 := Aside0.mk (hb6.setCell (p := ⟨b6, 2, none⟩) (show w.heap.size ≤ b6 by omega) (Value.slice A6 (fs.length + 1) c6))
                have hfl1 : Aside0 ((fs ++ [(⟨strOfNums t', x0⟩ : SField)]).length = k + 1) := ⟨by rw [List.length_append, HFL.out]; rfl⟩
                have hki : Aside0 ((n2 : Int).toNat - (k + 1) = n2 - k - 1) := ⟨by omega⟩
                go_wp2
                go_roundw
                case measure => simp [intOf]; omega
                case rel => exact ⟨k + 1, at_ + n4 + 1, by go_num, by go_num, by omega, by omega, ⟨_, _, hfl1.out, by rw [hki.out]; exact HSTEP.out, HK7.out, HO7.out⟩, HA7.out, HN7.out, HB7.out⟩
            · rw [List.drop_of_length_le (by omega)] at hstep
              have HN : Aside0 (getS l = none) := ⟨by unfold getS; rw [HINV.out, hstep]⟩
              have hge : ¬ ((at_ : Int) + (n4 : Int)) < (l.length : Int) := by omega
              clear hg4 hstep hi0 hsz0 hln4
              generalize l.drop at_ = ld4 at *
              go_wp2_with (go_at_call 54; refine (towncrierref05_Read.yes A4 _ ld4 12 _ HG4.out (by omega) HBD.out (Kd.C_below HD4.out HBW.out) HL4.out).mono ?_; rintro e w4 ⟨rfl, hb4⟩; have HANSX := Aside0.mk (blk_below HANS.out hb4); have HNONX := Aside0.mk (blk_below HNON.out hb4); have HBX := Aside0.mk (below_step HBW.out hb4); have hx00 : w4.cell? ⟨w.heap.size, 0, none⟩ = some (.string ⟨#[]⟩) := blk_cell HANSX.out 0; have hx01 : w4.cell? ⟨w.heap.size, 1, none⟩ = some (.int .i64 0) := blk_cell HANSX.out 1; have hx02 : w4.cell? ⟨w.heap.size, 2, none⟩ = some (.slice none 0 0) := blk_cell HANSX.out 2; have hx10 : w4.cell? ⟨w.heap.size + 1, 0, none⟩ = some (.string ⟨#[]⟩) := blk_cell HNONX.out 0; have hx11 : w4.cell? ⟨w.heap.size + 1, 1, none⟩ = some (.int .i64 0) := blk_cell HNONX.out 1; have hx12 : w4.cell? ⟨w.heap.size + 1, 2, none⟩ = some (.slice none 0 0) := blk_cell HNONX.out 2; have hxf : ∀ i, w4.frozen? ⟨w.heap.size, i, none⟩ = false := fun i => blk_frozen HANSX.out i)
              all_goals first
                | (exfalso; omega)
                | skip
              all_goals rw [HN.out]
              all_goals
                have hz := blk_set (blk_set (blk_set HANSX.out 0 (Value.string ⟨#[]⟩)) 1 (Value.int .i64 0)) 2 (Value.slice none 0 0)
                have hbz := ((HBX.out.setCell (p := ⟨w.heap.size, 0, none⟩) (Nat.le_refl _) (Value.string ⟨#[]⟩)).setCell (p := ⟨w.heap.size, 1, none⟩) (Nat.le_refl _) (Value.int .i64 0)).setCell (p := ⟨w.heap.size, 2, none⟩) (Nat.le_refl _) (Value.slice none 0 0)
                generalize World.setCell (World.setCell (World.setCell _ _ _) _ _) _ _ = W3 at hz hbz ⊢
                have hz0 : W3.cell? ⟨w.heap.size, 0, none⟩ = some (.string ⟨#[]⟩) := blk_cell hz 0
                have hz1 : W3.cell? ⟨w.heap.size, 1, none⟩ = some (.int .i64 0) := blk_cell hz 1
                have hz2 : W3.cell? ⟨w.heap.size, 2, none⟩ = some (.slice none 0 0) := blk_cell hz 2
                exact bodyPost_ret (v := .tuple #[.agg #[.string ⟨#[]⟩, .int .i64 0, .slice none 0 0], .int .i64 0, .bool false]) (by simp [results, Try.results34, go_sem, hz0, hz1, hz2]) rfl ⟨rfl, hbz⟩
        · obtain rfl : k = n2 := by omega
          obtain ⟨Av, cv, hv, hcv, hrv⟩ := Kd.R_reads HO.out
          subst hv
          have HRV := Aside0.mk hrv
          have HCV := Aside0.mk hcv
          have hend : getRaw l = some (⟨strOfNums t, n1, fs⟩, at_) := by rw [HINV.out, Nat.sub_self]; unfold contF getF; simp
          have HOKN : Aside0 (okNames (⟨strOfNums t, n1, fs⟩ : SSchema)) := ⟨getRaw_names hend⟩
          have hs0 : wr.cell? ⟨b6, 0, none⟩ = some (.string (strOfNums t)) := blk_cell HK6.out 0
          have hs1 : wr.cell? ⟨b6, 1, none⟩ = some (.int .i64 (n1 : Int)) := blk_cell HK6.out 1
          have hs2 : wr.cell? ⟨b6, 2, none⟩ = some (.slice Av fs.length cv) := blk_cell HK6.out 2
          clear hrv hcv
          cases hmay : mayS ⟨strOfNums t, n1, fs⟩ with
          | false =>
            have HN : Aside0 (getS l = none) := ⟨by unfold getS; rw [hend]; simp only; rw [hmay]; rfl⟩
            have HM := Aside0.mk hmay
            clear hmay hend
            go_wp2_with (go_at_call 36; refine (refMay_told (⟨strOfNums t, n1, fs⟩ : SSchema) Av cv _ HRV.out HCV.out HOKN.out).mono ?_; rw [HM.out]; rintro e w8 ⟨rfl, hb8⟩; have HANSX := Aside0.mk (blk_below HANS.out hb8); have HNONX := Aside0.mk (blk_below HNON.out hb8); have HBX := Aside0.mk (below_step HBW.out hb8); have hx00 : w8.cell? ⟨w.heap.size, 0, none⟩ = some (.string ⟨#[]⟩) := blk_cell HANSX.out 0; have hx01 : w8.cell? ⟨w.heap.size, 1, none⟩ = some (.int .i64 0) := blk_cell HANSX.out 1; have hx02 : w8.cell? ⟨w.heap.size, 2, none⟩ = some (.slice none 0 0) := blk_cell HANSX.out 2; have hx10 : w8.cell? ⟨w.heap.size + 1, 0, none⟩ = some (.string ⟨#[]⟩) := blk_cell HNONX.out 0; have hx11 : w8.cell? ⟨w.heap.size + 1, 1, none⟩ = some (.int .i64 0) := blk_cell HNONX.out 1; have hx12 : w8.cell? ⟨w.heap.size + 1, 2, none⟩ = some (.slice none 0 0) := blk_cell HNONX.out 2; have hxf : ∀ i, w8.frozen? ⟨w.heap.size, i, none⟩ = false := fun i => blk_frozen HANSX.out i; have HK8 := Aside0.mk (blk_below HK6.out hb8); have hs08 : w8.cell? ⟨b6, 0, none⟩ = some (.string (strOfNums t)) := blk_cell HK8.out 0; have hs18 : w8.cell? ⟨b6, 1, none⟩ = some (.int .i64 (n1 : Int)) := blk_cell HK8.out 1; have hs28 : w8.cell? ⟨b6, 2, none⟩ = some (.slice Av fs.length cv) := blk_cell HK8.out 2; have HR8 := Aside0.mk (Kd.R_below HO.out hb8))
            rw [HN.out]
            have hz := blk_set (blk_set (blk_set HANSX.out 0 (Value.string ⟨#[]⟩)) 1 (Value.int .i64 0)) 2 (Value.slice none 0 0)
            have hbz := ((HBX.out.setCell (p := ⟨w.heap.size, 0, none⟩) (Nat.le_refl _) (Value.string ⟨#[]⟩)).setCell (p := ⟨w.heap.size, 1, none⟩) (Nat.le_refl _) (Value.int .i64 0)).setCell (p := ⟨w.heap.size, 2, none⟩) (Nat.le_refl _) (Value.slice none 0 0)
            generalize World.setCell (World.setCell (World.setCell _ _ _) _ _) _ _ = W3 at hz hbz ⊢
            have hz0 : W3.cell? ⟨w.heap.size, 0, none⟩ = some (.string ⟨#[]⟩) := blk_cell hz 0
            have hz1 : W3.cell? ⟨w.heap.size, 1, none⟩ = some (.int .i64 0) := blk_cell hz 1
            have hz2 : W3.cell? ⟨w.heap.size, 2, none⟩ = some (.slice none 0 0) := blk_cell hz 2
            exact bodyPost_ret (v := .tuple #[.agg #[.string ⟨#[]⟩, .int .i64 0, .slice none 0 0], .int .i64 0, .bool false]) (by simp [results, Try.results34, go_sem, hz0, hz1, hz2]) rfl ⟨rfl, hbz⟩
          | true =>
            have HN : Aside0 (getS l = some (⟨strOfNums t, n1, fs⟩, at_)) := ⟨by unfold getS; rw [hend]; simp only; rw [hmay]; rfl⟩
            have HM := Aside0.mk hmay
            clear hmay hend
            go_wp2_with (go_at_call 36; refine (refMay_told (⟨strOfNums t, n1, fs⟩ : SSchema) Av cv _ HRV.out HCV.out HOKN.out).mono ?_; rw [HM.out]; rintro e w8 ⟨rfl, hb8⟩; have HANSX := Aside0.mk (blk_below HANS.out hb8); have HNONX := Aside0.mk (blk_below HNON.out hb8); have HBX := Aside0.mk (below_step HBW.out hb8); have hx00 : w8.cell? ⟨w.heap.size, 0, none⟩ = some (.string ⟨#[]⟩) := blk_cell HANSX.out 0; have hx01 : w8.cell? ⟨w.heap.size, 1, none⟩ = some (.int .i64 0) := blk_cell HANSX.out 1; have hx02 : w8.cell? ⟨w.heap.size, 2, none⟩ = some (.slice none 0 0) := blk_cell HANSX.out 2; have hx10 : w8.cell? ⟨w.heap.size + 1, 0, none⟩ = some (.string ⟨#[]⟩) := blk_cell HNONX.out 0; have hx11 : w8.cell? ⟨w.heap.size + 1, 1, none⟩ = some (.int .i64 0) := blk_cell HNONX.out 1; have hx12 : w8.cell? ⟨w.heap.size + 1, 2, none⟩ = some (.slice none 0 0) := blk_cell HNONX.out 2; have hxf : ∀ i, w8.frozen? ⟨w.heap.size, i, none⟩ = false := fun i => blk_frozen HANSX.out i; have HK8 := Aside0.mk (blk_below HK6.out hb8); have hs08 : w8.cell? ⟨b6, 0, none⟩ = some (.string (strOfNums t)) := blk_cell HK8.out 0; have hs18 : w8.cell? ⟨b6, 1, none⟩ = some (.int .i64 (n1 : Int)) := blk_cell HK8.out 1; have hs28 : w8.cell? ⟨b6, 2, none⟩ = some (.slice Av fs.length cv) := blk_cell HK8.out 2; have HR8 := Aside0.mk (Kd.R_below HO.out hb8))
            have hz := blk_set (blk_set (blk_set HANSX.out 0 (Value.string (strOfNums t))) 1 (Value.int .i64 (n1 : Int))) 2 (Value.slice Av fs.length cv)
            have hbz := ((HBX.out.setCell (p := ⟨w.heap.size, 0, none⟩) (Nat.le_refl _) (Value.string (strOfNums t))).setCell (p := ⟨w.heap.size, 1, none⟩) (Nat.le_refl _) (Value.int .i64 (n1 : Int))).setCell (p := ⟨w.heap.size, 2, none⟩) (Nat.le_refl _) (Value.slice Av fs.length cv)
            have hrz := Kd.R_set (Kd.R_set (Kd.R_set HR8.out HANSX.out (by decide) 0 (Value.string (strOfNums t))) (blk_set HANSX.out 0 _) (by decide) 1 (Value.int .i64 (n1 : Int))) (blk_set (blk_set HANSX.out 0 _) 1 _) (by decide) 2 (Value.slice Av fs.length cv)
            generalize World.setCell (World.setCell (World.setCell w8 _ _) _ _) _ _ = W3 at hz hbz hrz ⊢
            have hz0 : W3.cell? ⟨w.heap.size, 0, none⟩ = some (.string (strOfNums t)) := blk_cell hz 0
            have hz1 : W3.cell? ⟨w.heap.size, 1, none⟩ = some (.int .i64 (n1 : Int)) := blk_cell hz 1
            have hz2 : W3.cell? ⟨w.heap.size, 2, none⟩ = some (.slice Av fs.length cv) := blk_cell hz 2
            rw [HN.out]
            exact bodyPost_ret (v := .tuple #[.agg #[.string (strOfNums t), .int .i64 (n1 : Int), .slice Av fs.length cv], .int .i64 (at_ : Int), .bool true]) (by simp [results, Try.results34, go_sem, hz0, hz1, hz2]) rfl ⟨Av, cv, rfl, HCV.out, (Kd.R_reads' hrz).2.2, hbz⟩
    · have HN : Aside0 (getS l = none) := ⟨by
        unfold getS getRaw
        rw [HG1.out]
        simp only
        rcases HQ1.out with ⟨h1, e1⟩ | ⟨h1, _, h0, e1⟩
        · rw [getM_some e1]
          by_cases h3 : n1 ≤ 1000
          · rw [if_pos h3]
            simp only
            rcases HQ2.out with ⟨h2, e2⟩ | ⟨h2, _, _, e2⟩
            · rw [getM_some e2, if_neg (fun h4 => hok ⟨h1, h2, h3, h4⟩)]
            · rw [getM_none e2]
          · rw [if_neg h3]
        · rw [getM_none e1]⟩
      clear HQ1 HQ2 hi0 hsz0
      have hok2 : ¬ (b1 = true ∧ b2 = true ∧ (n1 : Int) ≤ 1000 ∧ (n2 : Int) ≤ 6) := fun h => hok ⟨h.1, h.2.1, by omega, by omega⟩
      have HOK := Aside0.mk hok2
      clear hok hok2
      generalize l.drop u = ld1 at *
      generalize l.drop (u + u1) = ld2 at *
      go_enter Try.func34, Try.ntmps34
      go_wp2_with (first
        | (go_at_call 54; refine (towncrierref05_Read.yes A c l 12 _ HG1.out (by omega) HBY.out (Kd.C_below HR.out (below_alloc (below_alloc (Below.refl _ _) _) _)) HC.out).mono ?_; rintro e w1 ⟨rfl, hb1⟩; have HA1 := Aside0.mk (blk_below (blk_alloc (blk_new _ _) _) hb1); have HN1 := Aside0.mk (blk_below (blk_new2 _ _ _) hb1); have HB1 := Aside0.mk (below_step (below_alloc (below_alloc (Below.refl _ _) _) _) hb1); clear hb1)
        | (go_at_call_of 55 (Value.slice A1 ld1.length (c - u)); refine (HC1.out A1 _ _ (Kd.C_below HD1.out HB1.out) HL1.out).mono ?_; rintro e w2 ⟨rfl, hb2⟩; have HA2 := Aside0.mk (blk_below HA1.out hb2); have HN2 := Aside0.mk (blk_below HN1.out hb2); have HB2 := Aside0.mk (below_step HB1.out hb2); clear hb2)
        | (go_at_call 55; refine (HC2.out A2 _ _ (Kd.C_below HD2.out HB2.out) HL2.out).mono ?_; rintro e w3 ⟨rfl, hb3⟩; have HANSX := Aside0.mk (blk_below HA2.out hb3); have HNONX := Aside0.mk (blk_below HN2.out hb3); have HBX := Aside0.mk (below_step HB2.out hb3); have hx00 : w3.cell? ⟨w.heap.size, 0, none⟩ = some (.string ⟨#[]⟩) := blk_cell HANSX.out 0; have hx01 : w3.cell? ⟨w.heap.size, 1, none⟩ = some (.int .i64 0) := blk_cell HANSX.out 1; have hx02 : w3.cell? ⟨w.heap.size, 2, none⟩ = some (.slice none 0 0) := blk_cell HANSX.out 2; have hx10 : w3.cell? ⟨w.heap.size + 1, 0, none⟩ = some (.string ⟨#[]⟩) := blk_cell HNONX.out 0; have hx11 : w3.cell? ⟨w.heap.size + 1, 1, none⟩ = some (.int .i64 0) := blk_cell HNONX.out 1; have hx12 : w3.cell? ⟨w.heap.size + 1, 2, none⟩ = some (.slice none 0 0) := blk_cell HNONX.out 2; have hxf : ∀ i, w3.frozen? ⟨w.heap.size, i, none⟩ = false := fun i => blk_frozen HANSX.out i))
      all_goals first
        | (exfalso; apply HOK.out; refine ⟨by assumption, by assumption, by omega, by omega⟩)
        | skip
      all_goals rw [HN.out]
      all_goals
        have hz := blk_set (blk_set (blk_set HANSX.out 0 (Value.string ⟨#[]⟩)) 1 (Value.int .i64 0)) 2 (Value.slice none 0 0)
        have hbz := ((HBX.out.setCell (p := ⟨w.heap.size, 0, none⟩) (Nat.le_refl _) (Value.string ⟨#[]⟩)).setCell (p := ⟨w.heap.size, 1, none⟩) (Nat.le_refl _) (Value.int .i64 0)).setCell (p := ⟨w.heap.size, 2, none⟩) (Nat.le_refl _) (Value.slice none 0 0)
        generalize World.setCell (World.setCell (World.setCell _ _ _) _ _) _ _ = W3 at hz hbz ⊢
        have hz0 : W3.cell? ⟨w.heap.size, 0, none⟩ = some (.string ⟨#[]⟩) := blk_cell hz 0
        have hz1 : W3.cell? ⟨w.heap.size, 1, none⟩ = some (.int .i64 0) := blk_cell hz 1
        have hz2 : W3.cell? ⟨w.heap.size, 2, none⟩ = some (.slice none 0 0) := blk_cell hz 2
        exact bodyPost_ret (v := .tuple #[.agg #[.string ⟨#[]⟩, .int .i64 0, .slice none 0 0], .int .i64 0, .bool false]) (by simp [results, Try.results34, go_sem, hz0, hz1, hz2]) rfl ⟨rfl, hbz⟩

end Go.Proofs.Ytbgdamlidohfhaa.P

/- What the calls that the statements of layer 5 begin by come to: the chapter's example; and what is put and got, as it stands in a walk; no condition but those that each names. -/
namespace Go.Proofs.Ytbgdamlidohfhaa.P
open Go.RowKit Go.Proofs.YtbgdamlidohfhaaW.PrintWords Go.Proofs.YtbgdamlidohfhaaW.PrintLast Go.Proofs.YtbgdamlidohfhaaW.PrintMore
set_option linter.unusedVariables false
theorem few5_told (x : SSchema) : ∃ b, (b = true → x.f2.length ≤ 10) ∧ ∀ (A : Option Addr) (c : Nat) (w : World), Kd.C kField w A x.f2.length x.f2 → x.f2.length ≤ c → Calls Try.prog 17 #[.agg #[.string x.f0, .int .i64 x.f1, .slice A x.f2.length c]] w (boolPost b w) := by
  obtain ⟨b, h1, h2⟩ := few5_some x.f0 x.f1 x.f2 (k := 20) (by decide)
  exact ⟨b, h2, fun A c w hr hc => towncrierlaw05_Few.calls 20 x.f0 x.f1 A c x.f2 b w hr hc h1⟩
theorem put_told (x : SSchema) (A : Option Addr) (c : Nat) (w : World) (hr : Kd.C kField w A x.f2.length x.f2) (hc : x.f2.length ≤ c) {b : Bool} (hb : mayS x = b) {P : List Int} (hP : (if b then bytesS x else []) = P) :
    Calls Try.prog 31 #[.agg #[.string x.f0, .int .i64 x.f1, .slice A x.f2.length c]] w (rowBoolPost (Kd.int .u8) 5 P b w) := by
  subst hP
  have h := schema_Put.told x.f0 x.f1 A c x.f2 w hr hc
  rw [show mayB x.f0 x.f1 x.f2 = b from hb] at h
  exact h
theorem getYes_told {l : List Int} {x : SSchema} {n : Nat} (hg : getS l = some (x, n)) (w : World) (A : Option Addr) (c : Nat) (hr : Kd.C (Kd.int .u8) w A l.length l) (hc : l.length ≤ c) (hb : byteL l) (hl : l.length < 4611686018427387904) :
    Calls Try.prog 32 #[.slice A l.length c] w (schYes x n w) := by
  have h := schema_Get.told w A c l hr hc hb hl
  rw [hg] at h
  exact h
theorem getNo_told {l : List Int} (hg : getS l = none) (w : World) (A : Option Addr) (c : Nat) (hr : Kd.C (Kd.int .u8) w A l.length l) (hc : l.length ≤ c) (hb : byteL l) (hl : l.length < 4611686018427387904) :
    Calls Try.prog 32 #[.slice A l.length c] w (schNo w) := by
  have h := schema_Get.told w A c l hr hc hb hl
  rw [hg] at h
  exact h
/-- What is got, or nothing, as one struct. -/
def gotS (r : Option (SSchema × Nat)) : SSchema × Nat × Bool := match r with
  | some (x, n) => (x, n, true)
  | none => (⟨⟨#[]⟩, 0, []⟩, 0, false)
def gotPost (r : SSchema × Nat × Bool) (w : World) (e : Ending) (w' : World) : Prop := ∃ A c, (e = .returned (.tuple #[.agg #[.string r.1.f0, .int .i64 r.1.f1, .slice A r.1.f2.length c], .int .i64 (r.2.1 : Int), .bool r.2.2]) ∧ r.1.f2.length ≤ c ∧ Kd.C kField w' A r.1.f2.length r.1.f2) ∧ Below w.heap.size w w'
theorem got_of {l : List Int} {w : World} {e : Ending} {w' : World} (h : getSPost (getS l) w e w') : gotPost (gotS (getS l)) w e w' := by
  cases hg : getS l with
  | none =>
    rw [hg] at h
    exact ⟨none, 0, ⟨h.1, Nat.le_refl _, Kd.C_nil _ _⟩, h.2⟩
  | some p =>
    obtain ⟨x, n⟩ := p
    rw [hg] at h
    obtain ⟨A, c, h1, h2, h3, h4⟩ := h
    exact ⟨A, c, ⟨h1, h2, h3⟩, h4⟩
theorem get_told {l : List Int} {x : SSchema} {n : Nat} {b : Bool} (hg : gotS (getS l) = (x, n, b)) (w : World) (A : Option Addr) (c : Nat) (hr : Kd.C (Kd.int .u8) w A l.length l) (hc : l.length ≤ c) (hb : byteL l) (hl : l.length < 4611686018427387904) :
    Calls Try.prog 32 #[.slice A l.length c] w (gotPost (x, n, b) w) := by
  rw [← hg]
  exact (schema_Get.told w A c l hr hc hb hl).mono fun e w' h => got_of h
theorem refGet_told {l : List Int} {x : SSchema} {n : Nat} {b : Bool} (hg : gotS (getS l) = (x, n, b)) (w : World) (A : Option Addr) (c : Nat) (hr : Kd.C (Kd.int .u8) w A l.length l) (hc : l.length ≤ c) (hb : byteL l) :
    Calls Try.prog 34 #[.slice A l.length c] w (gotPost (x, n, b) w) := by
  rw [← hg]
  exact (towncrierref05_Get.told w A c l hr hc hb).mono fun e w' h => got_of h
/-! ### The document's Put -/
theorem refText_is (s : ByteArray) (h : s.size ≤ 12) : towncrierref05_Text.f s = some (textL s) := by
  unfold towncrierref05_Text.f towncrierref01_Put.f
  rw [u64_small' (by omega), if_pos (by omega), if_pos (by omega), Int.toNat_natCast, Option.bind_some, if_pos (by have := lePut_short (n := s.size) (by omega); omega)]
  rfl
theorem refPutN_is {n : Nat} (h : n < 18446744073709551616) : towncrierref01_Put.f (n : Int) = some (lePut n) := by
  unfold towncrierref01_Put.f
  rw [if_pos (by omega), if_pos (by omega), Int.toNat_natCast]
theorem u8_small {x : Int} (h0 : 0 ≤ x) (h1 : x < 256) : IntKind.wrap .u8 x = x := by rw [show IntKind.wrap .u8 x = x % 256 from rfl]; omega
theorem refPut_loop (x : SSchema) (h : mayS x = true) (P0 : List Int) (hP : P0.length ≤ 40) : ∀ (d i k : Nat), i + d = x.f2.length → d < k → towncrierref05_Put.l0 k (P0 ++ fieldsL (x.f2.take i)) (i : Int) x.f0 x.f1 x.f2 = some (P0 ++ fieldsL x.f2, true) := by
  obtain ⟨_, _, _, h6, hF⟩ := mayS_iff.1 h
  have hlen : ∀ i, i ≤ x.f2.length → (fieldsL (x.f2.take i)).length ≤ 14 * i := by
    intro i
    induction i with
    | zero => intro _; simp [fieldsL]
    | succ i ih =>
      intro hi
      rw [fieldsL_snoc _ _ (by omega), List.length_append, List.length_append, List.length_singleton, textL_small (nameB_size (fieldOK_parts (hF i (by omega))).1).2]
      have := ih (by omega)
      have := (nameB_size (fieldOK_parts (hF i (by omega))).1).2
      omega
  intro d
  induction d with
  | zero =>
    intro i k hi hk
    obtain ⟨k, rfl⟩ := rounds_of hk
    simp only [towncrierref05_Put.l0]
    rw [if_neg (by omega), List.take_of_length_le (by omega)]
  | succ d ih =>
    intro i k hi hk
    obtain ⟨k, rfl⟩ := rounds_of hk
    obtain ⟨hn, h0, h4⟩ := fieldOK_parts (hF i (by omega))
    have hs := (nameB_size hn).2
    have hl := hlen i (by omega)
    have hlt := textL_small hs
    simp only [towncrierref05_Put.l0]
    rw [if_pos (by omega), if_pos (by omega), show rd_TField x.f2 (i : Int) = x.f2.getD i zField from rfl, refText_is _ hs]
    simp only [Option.bind_some]
    rw [if_pos (by rw [List.length_append]; omega), if_pos (by simp only [List.length_append]; omega), wrap_succ (by omega)]
    rw [show (x.f2.getD i zField).f1 % 256 = (x.f2.getD i zField).f1 from by omega]
    have e := fieldsL_snoc x.f2 i (by omega)
    have hih := ih (i + 1) k (by omega) (by omega)
    rw [e] at hih
    rw [← hih]
    congr 1
    simp [List.append_assoc]
theorem refPut_is (x : SSchema) {k : Nat} {S : Nat} (hk0 : x.f0.size ≤ S ∧ ∀ i, i < x.f2.length → (x.f2.getD i zField).f0.size ≤ S) (hS : S < 4611686018427387904) (hk2 : S + 100 < k) : towncrierref05_Put.f k x.f0 x.f1 x.f2 = some (if mayS x then bytesS x else [], mayS x) := by
  unfold towncrierref05_Put.f
  rw [refMay_is x.f0 x.f1 x.f2 hk0.1 hS hk0.2 hk2]
  rw [Option.bind_some]
  rw [show mayB x.f0 x.f1 x.f2 = mayS x from rfl]
  cases hm : mayS x with
  | false => rw [if_neg (by simp), if_neg (by simp)]
  | true =>
    obtain ⟨hn, h1, h2, h6, hF⟩ := mayS_iff.1 hm
    have hs := (nameB_size hn).2
    obtain ⟨vn, hv⟩ := Int.eq_ofNat_of_zero_le (show 0 ≤ x.f1 by omega)
    have hlt := textL_small hs
    have hl1 := lePut_short (n := vn) (by omega)
    have hl2 := lePut_short (n := x.f2.length) (by omega)
    rw [if_pos rfl, refText_is _ hs]
    rw [Option.bind_some]
    rw [show IntKind.wrap .u64 x.f1 = (vn : Int) from by rw [hv, u64_small' (by omega)], refPutN_is (by omega)]
    rw [Option.bind_some]
    rw [if_pos (by omega), Option.bind_some, u64_small' (by omega), refPutN_is (by omega)]
    rw [Option.bind_some]
    rw [if_pos (by rw [List.length_append]; omega)]
    have := refPut_loop x hm (textL x.f0 ++ lePut vn ++ lePut x.f2.length) (by simp only [List.length_append]; omega) x.f2.length 0 k (by omega) (by omega)
    rw [show textL x.f0 ++ lePut vn ++ lePut x.f2.length ++ fieldsL (List.take 0 x.f2) = textL x.f0 ++ lePut vn ++ lePut x.f2.length from by simp [fieldsL]] at this
    have e : bytesS x = textL x.f0 ++ lePut vn ++ lePut x.f2.length ++ fieldsL x.f2 := by unfold bytesS putS; rw [hv, Int.toNat_natCast]
    rw [e]
    exact this
theorem refPut_told (x : SSchema) (A : Option Addr) (c : Nat) (w : World) (hr : Kd.C kField w A x.f2.length x.f2) (hc : x.f2.length ≤ c) (hk : okNames x) {b : Bool} (hb : mayS x = b) {P : List Int} (hP : (if b then bytesS x else []) = P) :
    Calls Try.prog 33 #[.agg #[.string x.f0, .int .i64 x.f1, .slice A x.f2.length c]] w (rowBoolPost (Kd.int .u8) 5 P b w) := by
  subst hP
  exact towncrierref05_Put.calls 140737488361300 x.f0 x.f1 A c x.f2 _ _ w hr hc (by have h := refPut_is x (k := 140737488361300) ⟨hk.1, hk.2.1⟩ (by decide) (by decide); rw [hb] at h; exact h)
theorem bytes_len {x : SSchema} (h : mayS x = true) : (bytesS x).length ≤ 110 := by
  obtain ⟨hn, h1, h2, h6, hF⟩ := mayS_iff.1 h
  obtain ⟨vn, hv⟩ := Int.eq_ofNat_of_zero_le (show 0 ≤ x.f1 by omega)
  have hs := (nameB_size hn).2
  have hlt := textL_small hs
  have hl1 := lePut_short (n := vn) (by omega)
  have hl2 := lePut_short (n := x.f2.length) (by omega)
  have hlen : ∀ i, i ≤ x.f2.length → (fieldsL (x.f2.take i)).length ≤ 14 * i := by
    intro i
    induction i with
    | zero => intro _; simp [fieldsL]
    | succ i ih =>
      intro hi
      rw [fieldsL_snoc _ _ (by omega), List.length_append, List.length_append, List.length_singleton, textL_small (nameB_size (fieldOK_parts (hF i (by omega))).1).2]
      have := ih (by omega)
      have := (nameB_size (fieldOK_parts (hF i (by omega))).1).2
      omega
  have h3 := hlen x.f2.length (Nat.le_refl _)
  rw [List.take_length] at h3
  unfold bytesS putS
  rw [hv, Int.toNat_natCast]
  simp only [List.length_append]
  omega
theorem bytes_byte {x : SSchema} (h : mayS x = true) : byteL (bytesS x) := by
  obtain ⟨hn, h1, h2, h6, hF⟩ := mayS_iff.1 h
  have ht : ∀ s : ByteArray, byteL (textL s) := fun s => byteL_append (lePut_byte _) (bytesOf_byte _)
  refine byteL_append (byteL_append (byteL_append (ht _) (lePut_byte _)) (lePut_byte _)) ?_
  intro c hc
  unfold fieldsL at hc
  obtain ⟨l, hl, hcl⟩ := List.mem_flatten.1 hc
  obtain ⟨f, hf, rfl⟩ := List.mem_map.1 hl
  obtain ⟨i, hi, rfl⟩ := List.mem_iff_getElem.1 hf
  have hk := fieldOK_parts (hF i hi)
  rw [show x.f2.getD i zField = x.f2[i] from by simp [List.getD, hi]] at hk
  rcases List.mem_append.1 hcl with h2 | h2
  · exact ht _ c h2
  · simp at h2; omega
/-! ### The chapter's example -/
def exS : SSchema := ⟨⟨#[97]⟩, 1, []⟩
theorem exS_may : mayS exS = true := by decide +kernel
theorem exS_bytes : bytesS exS = [1, 97, 1, 0] := by
  unfold bytesS putS textL
  rw [show exS.f0.size = 1 from rfl, show exS.f1 = 1 from rfl, show exS.f2 = [] from rfl, lePut_small (by decide), show (1 : Int).toNat = 1 from rfl, show ([] : List SField).length = 0 from rfl, lePut_small (by decide), lePut_small (by decide)]
  decide +kernel
theorem exS_get : getS [1, 97, 1, 0] = some (exS, 4) := by
  have h := getS_put (x := exS) [] exS_may
  rw [List.append_nil, exS_bytes] at h
  exact h
theorem ex_a1 : nameB ⟨#[97, 95, 49]⟩ = true := by decide +kernel
theorem ex_1a : nameB ⟨#[49, 97]⟩ = false := by decide +kernel
set_option maxHeartbeats 1000000 in
set_option maxRecDepth 100000 in
theorem awake5_told (w : World) : Calls Try.prog 29 #[] w (boolPost true w) := by
  have hex0 : exS.f0.toList = [97] := by decide +kernel
  go_enter Try.func29, Try.ntmps29
  go_wp2_with (first
    | (go_at_call 31; refine (put_told exS none 0 _ (Kd.C_nil _ _) (Nat.le_refl _) exS_may ((if_pos rfl).trans exS_bytes)).mono ?_; rintro e w1 ⟨v1, rfl, ho1, hb1⟩; obtain ⟨A1, c1, hv1, hc1, hr1⟩ := Kd.R_reads ho1; subst hv1; have HR1 := Aside0.mk hr1; have HC1 := Aside0.mk hc1; clear ho1 hr1 hc1)
    | (go_at_call 32; refine (getYes_told exS_get _ A1 c1 HR1.out HC1.out (by decide) (by decide)).mono ?_; rintro e w2 ⟨A2, c2, rfl, hc2, hr2, hb2⟩; have HR2 := Aside0.mk (Kd.C_below HR1.out hb2); obtain ⟨ad, e0, hx0⟩ := Kd.at_int (Kd.C_alloc HR2.out (.cells #[.string exS.f0, .int .i64 exS.f1, .slice A2 exS.f2.length c2] 25)) 0 (by decide) (by decide); cases e0; obtain ⟨ad1, e1, hx1⟩ := Kd.at_int (Kd.C_alloc HR2.out (.cells #[.string exS.f0, .int .i64 exS.f1, .slice A2 exS.f2.length c2] 25)) 1 (by decide) (by decide); cases e1; obtain ⟨ad2, e2, hx2⟩ := Kd.at_int (Kd.C_alloc HR2.out (.cells #[.string exS.f0, .int .i64 exS.f1, .slice A2 exS.f2.length c2] 25)) 2 (by decide) (by decide); cases e2; obtain ⟨ad3, e3, hx3⟩ := Kd.at_int (Kd.C_alloc HR2.out (.cells #[.string exS.f0, .int .i64 exS.f1, .slice A2 exS.f2.length c2] 25)) 3 (by decide) (by decide); cases e3; have hx00 : (w2.alloc (.cells #[.string exS.f0, .int .i64 exS.f1, .slice A2 exS.f2.length c2] 25)).cell? ad = some (.int .u8 1) := hx0; have hx10 : (w2.alloc (.cells #[.string exS.f0, .int .i64 exS.f1, .slice A2 exS.f2.length c2] 25)).cell? ⟨ad.block, ad.off + 1, none⟩ = some (.int .u8 97) := hx1; have hx20 : (w2.alloc (.cells #[.string exS.f0, .int .i64 exS.f1, .slice A2 exS.f2.length c2] 25)).cell? ⟨ad.block, ad.off + 2, none⟩ = some (.int .u8 1) := hx2; have hx30 : (w2.alloc (.cells #[.string exS.f0, .int .i64 exS.f1, .slice A2 exS.f2.length c2] 25)).cell? ⟨ad.block, ad.off + 3, none⟩ = some (.int .u8 0) := hx3; clear hx0 hx1 hx2 hx3)
    | (go_at_call_of 30 (Value.string ⟨#[97, 95, 49]⟩); refine (name_told ex_a1 _).mono ?_; rintro e w3 ⟨rfl, hb3⟩)
    | (go_at_call 30; refine (name_told ex_1a _).mono ?_; rintro e w4 ⟨rfl, hb4⟩; have HK4 := Aside0.mk (blk_below (blk_below (blk_new _ _) hb3) hb4); have hd0 : w4.cell? ⟨w2.heap.size, 0, none⟩ = some (.string exS.f0) := blk_cell HK4.out 0; have hd1 : w4.cell? ⟨w2.heap.size, 1, none⟩ = some (.int .i64 exS.f1) := blk_cell HK4.out 1; have hd2 : w4.cell? ⟨w2.heap.size, 2, none⟩ = some (.slice A2 exS.f2.length c2) := blk_cell HK4.out 2; have HM4 := Aside0.mk (Kd.C_below hr2 (below_step (below_step (below_alloc (Below.refl _ _) _) hb3) hb4)))
    | (go_at_call 28; refine (may_told exS A2 c2 _ HM4.out hc2).mono ?_; rw [exS_may]; rintro e w5 ⟨rfl, hb5⟩)
    )
  go_ret
  exact ⟨rfl, below_step (below_step (below_step (below_step (below_alloc (below_step hb1 hb2) _) hb3) hb4) hb5) (Below.refl _ _)⟩
theorem lit_byte {l : List Int} (h : ∀ y ∈ l, (Lit.int .u8 y).wf = true) : byteL l := by
  intro c hc
  have h2 := h c hc
  have e1 : IntKind.min .u8 = 0 := rfl
  have e2 : IntKind.max .u8 = 255 := rfl
  simp only [Lit.wf, Bool.and_eq_true, decide_eq_true_eq, e1, e2] at h2
  omega
theorem getNo_told' {l : List Int} {n : Nat} (hg : getS l = none) (hn : l.length = n) (w : World) (A : Option Addr) (c : Nat) (hr : Kd.C (Kd.int .u8) w A n l) (hc : n ≤ c) (hb : byteL l) (hl : n < 4611686018427387904) :
    Calls Try.prog 32 #[.slice A n c] w (schNo w) := by
  subst hn
  exact getNo_told hg w A c hr hc hb hl
end Go.Proofs.Ytbgdamlidohfhaa.P

namespace Go.Proofs.Ytbgdamlidohfhaa.P
open Go.RowKit Go.Proofs.YtbgdamlidohfhaaW.PrintWords Go.Proofs.YtbgdamlidohfhaaW.PrintLast Go.Proofs.YtbgdamlidohfhaaW.PrintMore
attribute [local go_sem] max2_int min2_int max_two min_two max_three min_three max_four min_four   -- for this text's walks alone
set_option linter.unusedVariables false
set_option linter.unusedSimpArgs false
theorem openArg0_SchemaTwice : Opens Try.prog 25 kSchema wfSchema := openSchema
/-- What the statement's function comes to, at whatever arguments came in. -/
def SchemaTwice.Stmt : Prop := ∀ (W : World) (x0 : SSchema) (cs0 : List Value) (K0 : kSchema.K W x0 cs0) (w0 : wfSchema x0),
    Calls Try.prog 9 #[.agg cs0.toArray] W fun e w' => e = .returned (.bool true) ∧ Below W.heap.size W w'
end Go.Proofs.Ytbgdamlidohfhaa.P

/- SchemaTwice holds of the given program at every input: its walk, out of what each call comes to; no condition. -/
namespace Go.Proofs.Ytbgdamlidohfhaa.P
open Go.RowKit Go.Proofs.YtbgdamlidohfhaaW.PrintWords Go.Proofs.YtbgdamlidohfhaaW.PrintLast Go.Proofs.YtbgdamlidohfhaaW.PrintMore
set_option linter.unusedVariables false
set_option linter.unusedSimpArgs false
theorem C_single {α : Type} {d : Kd α} {W : World} {B T : Nat} {x : α} {cs : List Value} (h : W.heap[B]? = some (.cells cs.toArray T (0, 0))) (hk : d.K W x cs) (hl : cs.length = d.sz) : Kd.C d W (some ⟨B, 0, none⟩) 1 [x] := by
  refine ⟨rfl, by decide, fun _ => ⟨_, rfl, fun j l hj => ?_⟩⟩
  match j with
  | j + 1 => simp at hj
  | 0 =>
    simp at hj
    subst hj
    refine ⟨cs, hl, hk, fun i u hu => ?_⟩
    rw [Nat.zero_mul, add_plain, blk_cell h]
    simpa using hu
theorem blk_newN (w : World) (o : Obj) (n : Nat) (h : w.heap.size = n) : (w.alloc o).drew.heap[n]? = some o := by
  subst h
  exact blk_new w o
theorem mayS_front {x : SSchema} (h : mayS x = true) (n : Nat) : mayS ⟨x.f0, x.f1, x.f2.take n⟩ = true := by
  obtain ⟨h1, h2, h3, h4, h5⟩ := mayS_iff.1 h
  refine mayS_iff.2 ⟨h1, h2, h3, by simp only [List.length_take]; omega, fun i hi => ?_⟩
  simp only [List.length_take] at hi
  have := h5 i (by omega)
  unfold fieldOK at this ⊢
  have e : (x.f2.take n).getD i zField = x.f2.getD i zField := by
    simp only [List.getD_eq_getElem?_getD]
    rw [List.getElem?_take_of_lt (by omega)]
  rw [List.take_take, Nat.min_eq_left (by omega), e]
  exact this
theorem mayS_twice (x : SSchema) (h : x.f2 ≠ []) : mayS ⟨x.f0, x.f1, x.f2 ++ [x.f2.getD 0 zField]⟩ = false := by
  rw [← Bool.not_eq_true]
  intro h2
  have := (mayS_iff.1 h2).2.2.2.2 x.f2.length (by simp)
  unfold fieldOK at this
  rw [List.take_left, show (x.f2 ++ [x.f2.getD 0 zField]).getD x.f2.length zField = x.f2.getD 0 zField from getD_mid _ _ _ _] at this
  cases hx : x.f2 with
  | nil => exact h hx
  | cons y l =>
    rw [hx] at this
    simp at this
set_option maxHeartbeats 40000000 in
set_option maxRecDepth 100000 in
theorem SchemaTwice.walk : SchemaTwice.Stmt := by
  intro W x0 cs0 K0 w0
  obtain ⟨A0, c0, rfl, hc0, hr0⟩ := kSchema_open K0
  have HR0 := Aside0.mk hr0
  have HC0 := Aside0.mk hc0
  have HOK0 := Aside0.mk (wf_okNames w0)
  obtain ⟨p, hp10, hpC⟩ := few5_told x0
  have HPC := Aside0.mk hpC
  have infoF_ := infoField
  clear hr0 hc0 w0 hpC K0
  obtain ⟨m, hm⟩ : ∃ m, mayS x0 = m := ⟨_, rfl⟩
  have HM := Aside0.mk hm
  by_cases hgo : p = true ∧ m = true ∧ 0 < x0.f2.length
  · obtain ⟨rfl, rfl, hlen⟩ := hgo
    obtain ⟨hn, hv1, hv2, h6, hF⟩ := mayS_iff.1 hm
    obtain ⟨FX, hFX⟩ : ∃ F, x0.f2 ++ [x0.f2.getD 0 zField] = F := ⟨_, rfl⟩
    obtain ⟨F0, hF0⟩ : ∃ y, x0.f2.getD 0 zField = y := ⟨_, rfl⟩
    obtain ⟨FT, hFT⟩ : ∃ F, x0.f2.take (x0.f2.length - 1) = F := ⟨_, rfl⟩
    have hTl : FT.length = x0.f2.length - 1 := by rw [← hFT, List.length_take]; omega
    have HMT : Aside0 (mayS ⟨x0.f0, x0.f1, FT⟩ = true) := ⟨by rw [← hFT]; exact mayS_front hm _⟩
    have HMX : Aside0 (mayS ⟨x0.f0, x0.f1, FX⟩ = false) := ⟨by rw [← hFX]; exact mayS_twice x0 (fun h => by rw [h] at hlen; simp at hlen)⟩
    rw [hF0] at hFX
    have HFX := Aside0.mk hFX
    have HF0 : Aside0 (rd_TField x0.f2 0 = F0) := ⟨hF0⟩
    have HFF := Aside0.mk hF
    have hlen0 : (0 : Int) < (x0.f2.length : Int) := by omega
    obtain ⟨ad0, rfl, _⟩ := at_TField HR0.out 0 (by decide) hlen0
    obtain ⟨i0, hi0, _, hsz0, _⟩ := info_parts infoField
    obtain ⟨hcut, hcC⟩ := take_row (P := Try.prog) (d := kField) Try.underlying23 hi0 (some ad0) c0 x0.f2 FT.length ((x0.f2.length : Int) - 1) (by omega) (by omega) HC0.out
    have HCT : Aside0 (∀ w, Kd.C kField w (some ad0) x0.f2.length x0.f2 → Kd.C kField w (some ad0) FT.length FT) := ⟨fun w h => by have := hcC w h; rwa [show x0.f2.take FT.length = FT from by rw [hTl]; exact hFT] at this⟩
    have HTL := Aside0.mk hTl
    have HTC : Aside0 (FT.length ≤ c0) := ⟨by have := HC0.out; omega⟩
    clear hF hFX hF0 hFT hcC hp10 hm hTl hn hi0 hsz0
    go_enter Try.func9, Try.ntmps9
    go_wp2_with fail
    go_at_call 29; refine (awake5_told _).mono ?_; rintro e w1_ ⟨rfl, hb1_⟩; have HB1_ := Aside0.mk (below_step (below_alloc (Below.refl _ _) _) hb1_); have HKx01_ := Aside0.mk (blk_below (blk_new _ _) hb1_); have hcx01_0 : w1_.cell? ⟨W.heap.size, 0, none⟩ = some (.string x0.f0) := blk_cell HKx01_.out 0; have hdx01_0 : ∀ o, (w1_.alloc o).cell? ⟨W.heap.size, 0, none⟩ = some (.string x0.f0) := fun o => cell_later o hcx01_0; have hcx01_1 : w1_.cell? ⟨W.heap.size, 1, none⟩ = some (.int .i64 x0.f1) := blk_cell HKx01_.out 1; have hdx01_1 : ∀ o, (w1_.alloc o).cell? ⟨W.heap.size, 1, none⟩ = some (.int .i64 x0.f1) := fun o => cell_later o hcx01_1; have hcx01_2 : w1_.cell? ⟨W.heap.size, 2, none⟩ = some (.slice (some ad0) x0.f2.length c0) := blk_cell HKx01_.out 2; have hdx01_2 : ∀ o, (w1_.alloc o).cell? ⟨W.heap.size, 2, none⟩ = some (.slice (some ad0) x0.f2.length c0) := fun o => cell_later o hcx01_2; clear hb1_
    go_wp2_with fail
    go_at_call_of 17 (Value.agg #[.string x0.f0, .int .i64 x0.f1, .slice (some ad0) x0.f2.length c0]); refine (HPC.out (some ad0) c0 _ (Kd.C_below HR0.out (HB1_.out)) HC0.out).mono ?_; rintro e w2_ ⟨rfl, hb2_⟩; have HB2_ := Aside0.mk (below_step (HB1_.out) hb2_); have HKx02_ := Aside0.mk (blk_below (HKx01_.out) hb2_); have hcx02_0 : w2_.cell? ⟨W.heap.size, 0, none⟩ = some (.string x0.f0) := blk_cell HKx02_.out 0; have hdx02_0 : ∀ o, (w2_.alloc o).cell? ⟨W.heap.size, 0, none⟩ = some (.string x0.f0) := fun o => cell_later o hcx02_0; have hcx02_1 : w2_.cell? ⟨W.heap.size, 1, none⟩ = some (.int .i64 x0.f1) := blk_cell HKx02_.out 1; have hdx02_1 : ∀ o, (w2_.alloc o).cell? ⟨W.heap.size, 1, none⟩ = some (.int .i64 x0.f1) := fun o => cell_later o hcx02_1; have hcx02_2 : w2_.cell? ⟨W.heap.size, 2, none⟩ = some (.slice (some ad0) x0.f2.length c0) := blk_cell HKx02_.out 2; have hdx02_2 : ∀ o, (w2_.alloc o).cell? ⟨W.heap.size, 2, none⟩ = some (.slice (some ad0) x0.f2.length c0) := fun o => cell_later o hcx02_2; clear hb2_
    go_wp2_with fail
    go_at_call 28; refine (may_told x0 (some ad0) c0 _ (Kd.C_below HR0.out (HB2_.out)) HC0.out).mono ?_; rw [HM.out]; rintro e w3_ ⟨rfl, hb3_⟩; have HB3_ := Aside0.mk (below_step (HB2_.out) hb3_); have HKx03_ := Aside0.mk (blk_below (HKx02_.out) hb3_); have hcx03_0 : w3_.cell? ⟨W.heap.size, 0, none⟩ = some (.string x0.f0) := blk_cell HKx03_.out 0; have hdx03_0 : ∀ o, (w3_.alloc o).cell? ⟨W.heap.size, 0, none⟩ = some (.string x0.f0) := fun o => cell_later o hcx03_0; have hcx03_1 : w3_.cell? ⟨W.heap.size, 1, none⟩ = some (.int .i64 x0.f1) := blk_cell HKx03_.out 1; have hdx03_1 : ∀ o, (w3_.alloc o).cell? ⟨W.heap.size, 1, none⟩ = some (.int .i64 x0.f1) := fun o => cell_later o hcx03_1; have hcx03_2 : w3_.cell? ⟨W.heap.size, 2, none⟩ = some (.slice (some ad0) x0.f2.length c0) := blk_cell HKx03_.out 2; have hdx03_2 : ∀ o, (w3_.alloc o).cell? ⟨W.heap.size, 2, none⟩ = some (.slice (some ad0) x0.f2.length c0) := fun o => cell_later o hcx03_2; clear hb3_
    go_wp2_with fail
    have hlt_x0 := blk_lt (HKx03_.out); have hex0_0 : ∀ o o2 o3, (((w3_.alloc o).alloc o2).alloc o3).cell? ⟨W.heap.size, 0, none⟩ = some (.string x0.f0) := fun o o2 o3 => cell_later o3 (cell_later o2 (cell_later o hcx03_0)); have hex0_1 : ∀ o o2 o3, (((w3_.alloc o).alloc o2).alloc o3).cell? ⟨W.heap.size, 1, none⟩ = some (.int .i64 x0.f1) := fun o o2 o3 => cell_later o3 (cell_later o2 (cell_later o hcx03_1)); have hex0_2 : ∀ o o2 o3, (((w3_.alloc o).alloc o2).alloc o3).cell? ⟨W.heap.size, 2, none⟩ = some (.slice (some ad0) x0.f2.length c0) := fun o o2 o3 => cell_later o3 (cell_later o2 (cell_later o hcx03_2)); obtain ⟨adz, ez, hz0, hz1⟩ := at_TField (Kd.C_below HR0.out (HB3_.out)) 0 (by decide) hlen0; cases ez; rw [HF0.out] at hz0 hz1; have hy0 : w3_.cell? ad0 = some (.string F0.f0) := hz0; have hy1 : w3_.cell? ⟨ad0.block, ad0.off + 1, none⟩ = some (.int .i64 F0.f1) := hz1; clear hz0 hz1; have hyy0 : ∀ o o2, ((w3_.alloc o).alloc o2).cell? ad0 = some (.string F0.f0) := fun o o2 => cell_later o2 (cell_later o hy0); have hyy1 : ∀ o o2, ((w3_.alloc o).alloc o2).cell? ⟨ad0.block, ad0.off + 1, none⟩ = some (.int .i64 F0.f1) := fun o o2 => cell_later o2 (cell_later o hy1)
    go_upto_region 8 with fail
    go_cut [] (fun wx => ∃ A4_ c4_, wx.heap[W.heap.size]? = some (.cells #[.string x0.f0, .int .i64 x0.f1, .slice (some ad0) x0.f2.length c0] 25 (0, 0)) ∧ wx.heap[w3_.heap.size]? = some (.cells #[.string x0.f0, .int .i64 x0.f1, .slice (some ad0) FT.length c0] 25 (0, 0)) ∧ wx.heap[w3_.heap.size + 1]? = some (.cells #[.string x0.f0, .int .i64 x0.f1, Value.slice A4_ FX.length c4_] 25 (0, 0)) ∧ Below W.heap.size W wx ∧ FX.length ≤ c4_ ∧ Kd.C (kField) wx A4_ FX.length FX)
    case first =>
      go_region_law (first | (refine Kd.R_append_rows_step (o := ⟨some 41, _, _, _, _, _⟩) (kField) _ ?hw (.const (.slice none 0 0)) (.tmp 40) 23 39 (.agg #[(.string ⟨#[]⟩), (.int .i64 0)]) 24 rfl Try.underlying23 infoField rfl ?h0 ?h1 (.slice none 0 0) [] x0.f2 (some ad0) x0.f2.length c0 (fun _ => True) (fun _ => False) ?hs ?hx (Kd.R_nil _ _ _ _ _) (Kd.C_below HR0.out (below_drew (below_alloc (below_alloc (HB3_.out) _) _))) ?aK (fun _ h => h.elim) (fun _ _ => trivial) (Below.refl _ _) (Nat.le_refl _) ?aL ?_; (case hw => rfl); (case h0 => decide); (case h1 => decide); (case hs => rfl); (case hx => rfl); (case aK => exact (fun x cs h => by rw [kField_open h]; exact kField_mkM _ _ _ x)); (case aL => simp only [List.length_nil]; omega); intro v4a_ w4a_ ho4a_ hb4A_ hg4a_ hat4a_; simp only [List.nil_append] at ho4a_; have HO4a_ := Aside0.mk ho4a_; clear ho4a_; have hckx0_0 : w4a_.cell? ⟨W.heap.size, 0, none⟩ = some (.string x0.f0) := blk_cell (blk_below (blk_drew (blk_alloc (blk_alloc (HKx03_.out) _) _)) hb4A_) 0; have hckx0_1 : w4a_.cell? ⟨W.heap.size, 1, none⟩ = some (.int .i64 x0.f1) := blk_cell (blk_below (blk_drew (blk_alloc (blk_alloc (HKx03_.out) _) _)) hb4A_) 1; have hckx0_2 : w4a_.cell? ⟨W.heap.size, 2, none⟩ = some (.slice (some ad0) x0.f2.length c0) := blk_cell (blk_below (blk_drew (blk_alloc (blk_alloc (HKx03_.out) _) _)) hb4A_) 2; obtain ⟨adk, ek, hyk0, hyk1⟩ := at_TField (Kd.C_below HR0.out (below_step (below_drew (below_alloc (below_alloc (HB3_.out) _) _)) hb4A_)) 0 (by decide) hlen0; cases ek; rw [HF0.out] at hyk0 hyk1; have hyk0' : w4a_.cell? ad0 = some (.string F0.f0) := hyk0; have hyk1' : w4a_.cell? ⟨ad0.block, ad0.off + 1, none⟩ = some (.int .i64 F0.f1) := hyk1; clear hyk0 hyk1) | (refine Kd.R_append_rows_step (o := ⟨some 41, _, _, _, _, _⟩) (kField) _ ?hw (.const (.slice none 0 0)) (.tmp 40) 23 39 (.agg #[(.string ⟨#[]⟩), (.int .i64 0)]) 24 rfl Try.underlying23 infoField rfl ?h0 ?h1 (.slice none 0 0) [] x0.f2 (some ad0) x0.f2.length c0 (fun _ => True) (fun _ => False) ?hs ?hx (Kd.R_nil _ _ _ _ _) (Kd.C_below HR0.out (below_alloc (below_drew (below_alloc (below_alloc (HB3_.out) _) _)) _)) ?aK (fun _ h => h.elim) (fun _ _ => trivial) (Below.refl _ _) (Nat.le_refl _) ?aL ?_; (case hw => rfl); (case h0 => decide); (case h1 => decide); (case hs => rfl); (case hx => rfl); (case aK => exact (fun x cs h => by rw [kField_open h]; exact kField_mkM _ _ _ x)); (case aL => simp only [List.length_nil]; omega); intro v4a_ w4a_ ho4a_ hb4B_ hg4a_ hat4a_; simp only [List.nil_append] at ho4a_; have HO4a_ := Aside0.mk ho4a_; clear ho4a_; have hckx0_0 : w4a_.cell? ⟨W.heap.size, 0, none⟩ = some (.string x0.f0) := blk_cell (blk_below (blk_drew (blk_alloc (blk_alloc (blk_alloc (HKx03_.out) _) _) _)) hb4B_) 0; have hckx0_1 : w4a_.cell? ⟨W.heap.size, 1, none⟩ = some (.int .i64 x0.f1) := blk_cell (blk_below (blk_drew (blk_alloc (blk_alloc (blk_alloc (HKx03_.out) _) _) _)) hb4B_) 1; have hckx0_2 : w4a_.cell? ⟨W.heap.size, 2, none⟩ = some (.slice (some ad0) x0.f2.length c0) := blk_cell (blk_below (blk_drew (blk_alloc (blk_alloc (blk_alloc (HKx03_.out) _) _) _)) hb4B_) 2; obtain ⟨adk, ek, hyk0, hyk1⟩ := at_TField (Kd.C_below HR0.out (below_step (below_alloc (below_drew (below_alloc (below_alloc (HB3_.out) _) _)) _) hb4B_)) 0 (by decide) hlen0; cases ek; rw [HF0.out] at hyk0 hyk1; have hyk0' : w4a_.cell? ad0 = some (.string F0.f0) := hyk0; have hyk1' : w4a_.cell? ⟨ad0.block, ad0.off + 1, none⟩ = some (.int .i64 F0.f1) := hyk1; clear hyk0 hyk1) | (refine Kd.R_append_rows_step (o := ⟨some 47, _, _, _, _, _⟩) (kField) _ ?hw (.tmp 41) (.tmp 46) 23 39 (.agg #[(.string ⟨#[]⟩), (.int .i64 0)]) 24 rfl Try.underlying23 infoField rfl ?h0 ?h1 v4a_ x0.f2 [F0] _ 1 1 (fun _ => True) (fun _ => False) ?hs ?hx (Kd.R_alloc HO4a_.out _) (C_single (T := 39) (cs := [.string F0.f0, .int .i64 F0.f1]) (blk_new _ _) (kField_mk _ F0) rfl) ?aK (fun _ h => h.elim) (fun _ _ => trivial) (below_alloc hb4A_ _) (below_size (below_alloc hb4A_ _)) ?aL ?_; (case hw => rfl); (case h0 => decide); (case h1 => decide); (case hs => rfl); (case hx => rfl); (case aK => exact (fun x cs h => by rw [kField_open h]; exact kField_mkM _ _ _ x)); (case aL => omega); intro v4_ w4b_ ho4_ hb4_ hg4_ hat4_; rw [HFX.out] at ho4_; obtain ⟨A4_, c4_, hv4_, hq4_, hp4_⟩ := Kd.R_reads ho4_; subst hv4_; have HQ4_ := Aside0.mk hq4_; have HO4_ := Aside0.mk ho4_; clear ho4_ hp4_ hq4_; (first | have HB4b_ := Aside0.mk (below_step (below_drew (below_alloc (below_alloc (HB3_.out) _) _)) hb4_) | have HB4b_ := Aside0.mk (below_step (below_alloc (below_drew (below_alloc (below_alloc (HB3_.out) _) _)) _) hb4_)); have HKx04b_ : Aside0 (w4b_.heap[W.heap.size]? = some (.cells #[.string x0.f0, .int .i64 x0.f1, .slice (some ad0) x0.f2.length c0] 25 (0, 0))) := ⟨by first | exact blk_below (blk_drew (blk_alloc (blk_alloc (HKx03_.out) _) _)) hb4_ | exact blk_below (blk_drew (blk_alloc (blk_alloc (blk_alloc (HKx03_.out) _) _) _)) hb4_⟩; have HKt4b_ : Aside0 (w4b_.heap[w3_.heap.size]? = some (.cells #[.string x0.f0, .int .i64 x0.f1, .slice (some ad0) FT.length c0] 25 (0, 0))) := ⟨by first | exact blk_below (blk_drew (blk_alloc (blk_new _ _) _)) hb4_ | exact blk_below (blk_drew (blk_alloc (blk_alloc (blk_new _ _) _) _)) hb4_⟩; have HKu4b_ : Aside0 (w4b_.heap[w3_.heap.size + 1]? = some (.cells #[.string x0.f0, .int .i64 x0.f1, .slice (some ad0) x0.f2.length c0] 25 (0, 0))) := ⟨by first | exact blk_below (blk_drew (blk_new2 _ _ _)) hb4_ | exact blk_below (blk_drew (blk_alloc (blk_new2 _ _ _) _)) hb4_⟩; have hfz4_ : w4b_.frozen? ⟨w3_.heap.size + 1, 2, none⟩ = false := blk_frozen HKu4b_.out 2; have hcb4_0 : w4b_.cell? ⟨w3_.heap.size + 1, 0, none⟩ = some (.string x0.f0) := blk_cell HKu4b_.out 0; have hcb4_1 : w4b_.cell? ⟨w3_.heap.size + 1, 1, none⟩ = some (.int .i64 x0.f1) := blk_cell HKu4b_.out 1; have hcb4_2 : w4b_.cell? ⟨w3_.heap.size + 1, 2, none⟩ = some (.slice (some ad0) x0.f2.length c0) := blk_cell HKu4b_.out 2) | (refine Kd.R_append_rows_step (o := ⟨some 47, _, _, _, _, _⟩) (kField) _ ?hw (.tmp 41) (.tmp 46) 23 39 (.agg #[(.string ⟨#[]⟩), (.int .i64 0)]) 24 rfl Try.underlying23 infoField rfl ?h0 ?h1 v4a_ x0.f2 [F0] _ 1 1 (fun _ => True) (fun _ => False) ?hs ?hx HO4a_.out (C_single (B := w3_.heap.size + 1 + 1) (T := 39) (cs := [.string F0.f0, .int .i64 F0.f1]) (blk_below (blk_newN _ _ (w3_.heap.size + 1 + 1) (by simp)) hb4B_) (kField_mk _ F0) rfl) ?aK (fun _ h => h.elim) (fun _ _ => trivial) hb4B_ (below_size hb4B_) ?aL ?_; (case hw => rfl); (case h0 => decide); (case h1 => decide); (case hs => rfl); (case hx => rfl); (case aK => exact (fun x cs h => by rw [kField_open h]; exact kField_mkM _ _ _ x)); (case aL => omega); intro v4_ w4b_ ho4_ hb4_ hg4_ hat4_; rw [HFX.out] at ho4_; obtain ⟨A4_, c4_, hv4_, hq4_, hp4_⟩ := Kd.R_reads ho4_; subst hv4_; have HQ4_ := Aside0.mk hq4_; have HO4_ := Aside0.mk ho4_; clear ho4_ hp4_ hq4_; (first | have HB4b_ := Aside0.mk (below_step (below_drew (below_alloc (below_alloc (HB3_.out) _) _)) hb4_) | have HB4b_ := Aside0.mk (below_step (below_alloc (below_drew (below_alloc (below_alloc (HB3_.out) _) _)) _) hb4_)); have HKx04b_ : Aside0 (w4b_.heap[W.heap.size]? = some (.cells #[.string x0.f0, .int .i64 x0.f1, .slice (some ad0) x0.f2.length c0] 25 (0, 0))) := ⟨by first | exact blk_below (blk_drew (blk_alloc (blk_alloc (HKx03_.out) _) _)) hb4_ | exact blk_below (blk_drew (blk_alloc (blk_alloc (blk_alloc (HKx03_.out) _) _) _)) hb4_⟩; have HKt4b_ : Aside0 (w4b_.heap[w3_.heap.size]? = some (.cells #[.string x0.f0, .int .i64 x0.f1, .slice (some ad0) FT.length c0] 25 (0, 0))) := ⟨by first | exact blk_below (blk_drew (blk_alloc (blk_new _ _) _)) hb4_ | exact blk_below (blk_drew (blk_alloc (blk_alloc (blk_new _ _) _) _)) hb4_⟩; have HKu4b_ : Aside0 (w4b_.heap[w3_.heap.size + 1]? = some (.cells #[.string x0.f0, .int .i64 x0.f1, .slice (some ad0) x0.f2.length c0] 25 (0, 0))) := ⟨by first | exact blk_below (blk_drew (blk_new2 _ _ _)) hb4_ | exact blk_below (blk_drew (blk_alloc (blk_new2 _ _ _) _)) hb4_⟩; have hfz4_ : w4b_.frozen? ⟨w3_.heap.size + 1, 2, none⟩ = false := blk_frozen HKu4b_.out 2; have hcb4_0 : w4b_.cell? ⟨w3_.heap.size + 1, 0, none⟩ = some (.string x0.f0) := blk_cell HKu4b_.out 0; have hcb4_1 : w4b_.cell? ⟨w3_.heap.size + 1, 1, none⟩ = some (.int .i64 x0.f1) := blk_cell HKu4b_.out 1; have hcb4_2 : w4b_.cell? ⟨w3_.heap.size + 1, 2, none⟩ = some (.slice (some ad0) x0.f2.length c0) := blk_cell HKu4b_.out 2))
      all_goals
        have HB4_ := Aside0.mk (below_set (v := Value.slice A4_ FX.length c4_) (g := w3_.heap.size + 1) (j := 2) HB4b_.out (by omega))
        have HKx04_ := Aside0.mk (blk_far HKx04b_.out (p := ⟨w3_.heap.size + 1, 2, none⟩) (show W.heap.size ≠ w3_.heap.size + 1 by omega) (Value.slice A4_ FX.length c4_))
        have HKt4_ := Aside0.mk (blk_far HKt4b_.out (p := ⟨w3_.heap.size + 1, 2, none⟩) (show w3_.heap.size ≠ w3_.heap.size + 1 by omega) (Value.slice A4_ FX.length c4_))
        have HKu4_ := Aside0.mk (blk_put (cs' := #[.string x0.f0, .int .i64 x0.f1, Value.slice A4_ FX.length c4_]) HKu4b_.out 2 (Value.slice A4_ FX.length c4_) rfl)
        have HP4'_ := Aside0.mk (Kd.R_reads' (Kd.R_set HO4_.out HKu4b_.out (by decide) 2 (Value.slice A4_ FX.length c4_))).2.2
        go_wp2_with fail
        go_meet
        exact ⟨A4_, c4_, HKx04_.out, HKt4_.out, HKu4_.out, HB4_.out, HQ4_.out, HP4'_.out⟩
    case rest =>
      obtain ⟨A4_, c4_, hkx04_, hkt4_, hku4_, hb4_, hq4_, hp4_⟩ := hcut
      obtain ⟨w4_, rfl⟩ : ∃ w4_, w4_ = wc := ⟨_, rfl⟩
      have HB4_ := Aside0.mk hb4_
      have HQ4_ := Aside0.mk hq4_
      have HP4'_ := Aside0.mk hp4_
      have HKx04_ := Aside0.mk hkx04_
      have HKt4_ := Aside0.mk hkt4_
      have HKu4_ := Aside0.mk hku4_
      have hcx04_0 : w4_.cell? ⟨W.heap.size, 0, none⟩ = some (.string x0.f0) := blk_cell HKx04_.out 0
      have hdx04_0 : ∀ o, (w4_.alloc o).cell? ⟨W.heap.size, 0, none⟩ = some (.string x0.f0) := fun o => cell_later o hcx04_0
      have hcx04_1 : w4_.cell? ⟨W.heap.size, 1, none⟩ = some (.int .i64 x0.f1) := blk_cell HKx04_.out 1
      have hdx04_1 : ∀ o, (w4_.alloc o).cell? ⟨W.heap.size, 1, none⟩ = some (.int .i64 x0.f1) := fun o => cell_later o hcx04_1
      have hcx04_2 : w4_.cell? ⟨W.heap.size, 2, none⟩ = some (.slice (some ad0) x0.f2.length c0) := blk_cell HKx04_.out 2
      have hdx04_2 : ∀ o, (w4_.alloc o).cell? ⟨W.heap.size, 2, none⟩ = some (.slice (some ad0) x0.f2.length c0) := fun o => cell_later o hcx04_2
      have hct4_0 : w4_.cell? ⟨w3_.heap.size, 0, none⟩ = some (.string x0.f0) := blk_cell HKt4_.out 0
      have hdt4_0 : ∀ o, (w4_.alloc o).cell? ⟨w3_.heap.size, 0, none⟩ = some (.string x0.f0) := fun o => cell_later o hct4_0
      have hct4_1 : w4_.cell? ⟨w3_.heap.size, 1, none⟩ = some (.int .i64 x0.f1) := blk_cell HKt4_.out 1
      have hdt4_1 : ∀ o, (w4_.alloc o).cell? ⟨w3_.heap.size, 1, none⟩ = some (.int .i64 x0.f1) := fun o => cell_later o hct4_1
      have hct4_2 : w4_.cell? ⟨w3_.heap.size, 2, none⟩ = some (.slice (some ad0) FT.length c0) := blk_cell HKt4_.out 2
      have hdt4_2 : ∀ o, (w4_.alloc o).cell? ⟨w3_.heap.size, 2, none⟩ = some (.slice (some ad0) FT.length c0) := fun o => cell_later o hct4_2
      have hcu4_0 : w4_.cell? ⟨w3_.heap.size + 1, 0, none⟩ = some (.string x0.f0) := blk_cell HKu4_.out 0
      have hdu4_0 : ∀ o, (w4_.alloc o).cell? ⟨w3_.heap.size + 1, 0, none⟩ = some (.string x0.f0) := fun o => cell_later o hcu4_0
      have hcu4_1 : w4_.cell? ⟨w3_.heap.size + 1, 1, none⟩ = some (.int .i64 x0.f1) := blk_cell HKu4_.out 1
      have hdu4_1 : ∀ o, (w4_.alloc o).cell? ⟨w3_.heap.size + 1, 1, none⟩ = some (.int .i64 x0.f1) := fun o => cell_later o hcu4_1
      have hcu4_2 : w4_.cell? ⟨w3_.heap.size + 1, 2, none⟩ = some (Value.slice A4_ FX.length c4_) := blk_cell HKu4_.out 2
      have hdu4_2 : ∀ o, (w4_.alloc o).cell? ⟨w3_.heap.size + 1, 2, none⟩ = some (Value.slice A4_ FX.length c4_) := fun o => cell_later o hcu4_2
      clear hb4_ hq4_ hp4_ hkx04_ hkt4_ hku4_
      go_wp2_with fail
      go_loopw [7] (fun v7 w' => ∃ k : Nat, v7 = .int .i64 k ∧ k ≤ x0.f2.length ∧ Below W.heap.size W w' ∧ Kd.C kField w' A4_ FX.length FX ∧ w'.heap[W.heap.size]? = some (.cells #[.string x0.f0, .int .i64 x0.f1, .slice (some ad0) x0.f2.length c0] 25 (0, 0)) ∧ w'.heap[w3_.heap.size]? = some (.cells #[.string x0.f0, .int .i64 x0.f1, .slice (some ad0) FT.length c0] 25 (0, 0)) ∧ w'.heap[w3_.heap.size + 1]? = some (.cells #[.string x0.f0, .int .i64 x0.f1, Value.slice A4_ FX.length c4_] 25 (0, 0))) (fun i _ => x0.f2.length - (intOf i).toNat)
      case atStart => exact ⟨0, rfl, by omega, HB4_.out, HP4'_.out, HKx04_.out, HKt4_.out, HKu4_.out⟩
      case round =>
        obtain ⟨k, rfl, hk, hb, hap, hxx0, hxt, hxu⟩ := hrel
        have HB := Aside0.mk hb
        have HAP := Aside0.mk hap
        have HXx0 := Aside0.mk hxx0
        have HXt := Aside0.mk hxt
        have HXu := Aside0.mk hxu
        have hcwx0_0 : wr.cell? ⟨W.heap.size, 0, none⟩ = some (.string x0.f0) := blk_cell hxx0 0
        have hcwx0_1 : wr.cell? ⟨W.heap.size, 1, none⟩ = some (.int .i64 x0.f1) := blk_cell hxx0 1
        have hcwx0_2 : wr.cell? ⟨W.heap.size, 2, none⟩ = some (.slice (some ad0) x0.f2.length c0) := blk_cell hxx0 2
        have hcwt_0 : wr.cell? ⟨w3_.heap.size, 0, none⟩ = some (.string x0.f0) := blk_cell hxt 0
        have hcwt_1 : wr.cell? ⟨w3_.heap.size, 1, none⟩ = some (.int .i64 x0.f1) := blk_cell hxt 1
        have hcwt_2 : wr.cell? ⟨w3_.heap.size, 2, none⟩ = some (.slice (some ad0) FT.length c0) := blk_cell hxt 2
        have hcwu_0 : wr.cell? ⟨w3_.heap.size + 1, 0, none⟩ = some (.string x0.f0) := blk_cell hxu 0
        have hcwu_1 : wr.cell? ⟨w3_.heap.size + 1, 1, none⟩ = some (.int .i64 x0.f1) := blk_cell hxu 1
        have hcwu_2 : wr.cell? ⟨w3_.heap.size + 1, 2, none⟩ = some (Value.slice A4_ FX.length c4_) := blk_cell hxu 2
        clear hb hap hxx0 hxt hxu
        by_cases hlt : k < x0.f2.length
        · obtain ⟨adj, ej, hj0, hj1⟩ := at_TField (Kd.C_below HR0.out HB.out) (k : Int) (by omega) (by omega)
          cases ej
          simp only [Int.toNat_natCast] at hj0 hj1
          rw [show rd_TField x0.f2 (k : Int) = x0.f2.getD k zField from rfl] at hj0 hj1
          obtain ⟨hnm, hk0, hk4⟩ := fieldOK_parts (HFF.out k hlt)
          generalize x0.f2.getD k zField = y at *
          have HNM := Aside0.mk hnm
          clear hnm
          go_wp2_with fail
          go_at_call 30; refine (name_told HNM.out _).mono ?_; rintro e w21_ ⟨rfl, hb21_⟩; have HB21_ := Aside0.mk (below_step (HB.out) hb21_); have HKx021_ := Aside0.mk (blk_below (HXx0.out) hb21_); have hcx021_0 : w21_.cell? ⟨W.heap.size, 0, none⟩ = some (.string x0.f0) := blk_cell HKx021_.out 0; have hdx021_0 : ∀ o, (w21_.alloc o).cell? ⟨W.heap.size, 0, none⟩ = some (.string x0.f0) := fun o => cell_later o hcx021_0; have hcx021_1 : w21_.cell? ⟨W.heap.size, 1, none⟩ = some (.int .i64 x0.f1) := blk_cell HKx021_.out 1; have hdx021_1 : ∀ o, (w21_.alloc o).cell? ⟨W.heap.size, 1, none⟩ = some (.int .i64 x0.f1) := fun o => cell_later o hcx021_1; have hcx021_2 : w21_.cell? ⟨W.heap.size, 2, none⟩ = some (.slice (some ad0) x0.f2.length c0) := blk_cell HKx021_.out 2; have hdx021_2 : ∀ o, (w21_.alloc o).cell? ⟨W.heap.size, 2, none⟩ = some (.slice (some ad0) x0.f2.length c0) := fun o => cell_later o hcx021_2; have HKt21_ := Aside0.mk (blk_below (HXt.out) hb21_); have hct21_0 : w21_.cell? ⟨w3_.heap.size, 0, none⟩ = some (.string x0.f0) := blk_cell HKt21_.out 0; have hdt21_0 : ∀ o, (w21_.alloc o).cell? ⟨w3_.heap.size, 0, none⟩ = some (.string x0.f0) := fun o => cell_later o hct21_0; have hct21_1 : w21_.cell? ⟨w3_.heap.size, 1, none⟩ = some (.int .i64 x0.f1) := blk_cell HKt21_.out 1; have hdt21_1 : ∀ o, (w21_.alloc o).cell? ⟨w3_.heap.size, 1, none⟩ = some (.int .i64 x0.f1) := fun o => cell_later o hct21_1; have hct21_2 : w21_.cell? ⟨w3_.heap.size, 2, none⟩ = some (.slice (some ad0) FT.length c0) := blk_cell HKt21_.out 2; have hdt21_2 : ∀ o, (w21_.alloc o).cell? ⟨w3_.heap.size, 2, none⟩ = some (.slice (some ad0) FT.length c0) := fun o => cell_later o hct21_2; have HKu21_ := Aside0.mk (blk_below (HXu.out) hb21_); have hcu21_0 : w21_.cell? ⟨w3_.heap.size + 1, 0, none⟩ = some (.string x0.f0) := blk_cell HKu21_.out 0; have hdu21_0 : ∀ o, (w21_.alloc o).cell? ⟨w3_.heap.size + 1, 0, none⟩ = some (.string x0.f0) := fun o => cell_later o hcu21_0; have hcu21_1 : w21_.cell? ⟨w3_.heap.size + 1, 1, none⟩ = some (.int .i64 x0.f1) := blk_cell HKu21_.out 1; have hdu21_1 : ∀ o, (w21_.alloc o).cell? ⟨w3_.heap.size + 1, 1, none⟩ = some (.int .i64 x0.f1) := fun o => cell_later o hcu21_1; have hcu21_2 : w21_.cell? ⟨w3_.heap.size + 1, 2, none⟩ = some (Value.slice A4_ FX.length c4_) := blk_cell HKu21_.out 2; have hdu21_2 : ∀ o, (w21_.alloc o).cell? ⟨w3_.heap.size + 1, 2, none⟩ = some (Value.slice A4_ FX.length c4_) := fun o => cell_later o hcu21_2; have HRap21_ := Aside0.mk (Kd.C_below (HAP.out) hb21_); have hj1' := pw_cell_below hb21_ hj1; clear hb21_
          go_wp2_with fail
          go_roundw
          case rel => exact ⟨k + 1, by go_num, by omega, HB21_.out, HRap21_.out, HKx021_.out, HKt21_.out, HKu21_.out⟩
          case measure => simp [intOf]; omega
        · have hk2 : k = x0.f2.length := by omega
          clear hk
          go_wp2_with fail
          go_at_call_of 28 (Value.agg #[.string x0.f0, .int .i64 x0.f1, .slice (some ad0) FT.length c0]); refine (may_told ⟨x0.f0, x0.f1, FT⟩ (some ad0) c0 _ (HCT.out _ (Kd.C_below HR0.out (HB.out))) HTC.out).mono ?_; rw [HMT.out]; rintro e w21_ ⟨rfl, hb21_⟩; have HB21_ := Aside0.mk (below_step (HB.out) hb21_); have HKx021_ := Aside0.mk (blk_below (HXx0.out) hb21_); have hcx021_0 : w21_.cell? ⟨W.heap.size, 0, none⟩ = some (.string x0.f0) := blk_cell HKx021_.out 0; have hdx021_0 : ∀ o, (w21_.alloc o).cell? ⟨W.heap.size, 0, none⟩ = some (.string x0.f0) := fun o => cell_later o hcx021_0; have hcx021_1 : w21_.cell? ⟨W.heap.size, 1, none⟩ = some (.int .i64 x0.f1) := blk_cell HKx021_.out 1; have hdx021_1 : ∀ o, (w21_.alloc o).cell? ⟨W.heap.size, 1, none⟩ = some (.int .i64 x0.f1) := fun o => cell_later o hcx021_1; have hcx021_2 : w21_.cell? ⟨W.heap.size, 2, none⟩ = some (.slice (some ad0) x0.f2.length c0) := blk_cell HKx021_.out 2; have hdx021_2 : ∀ o, (w21_.alloc o).cell? ⟨W.heap.size, 2, none⟩ = some (.slice (some ad0) x0.f2.length c0) := fun o => cell_later o hcx021_2; have HKt21_ := Aside0.mk (blk_below (HXt.out) hb21_); have hct21_0 : w21_.cell? ⟨w3_.heap.size, 0, none⟩ = some (.string x0.f0) := blk_cell HKt21_.out 0; have hdt21_0 : ∀ o, (w21_.alloc o).cell? ⟨w3_.heap.size, 0, none⟩ = some (.string x0.f0) := fun o => cell_later o hct21_0; have hct21_1 : w21_.cell? ⟨w3_.heap.size, 1, none⟩ = some (.int .i64 x0.f1) := blk_cell HKt21_.out 1; have hdt21_1 : ∀ o, (w21_.alloc o).cell? ⟨w3_.heap.size, 1, none⟩ = some (.int .i64 x0.f1) := fun o => cell_later o hct21_1; have hct21_2 : w21_.cell? ⟨w3_.heap.size, 2, none⟩ = some (.slice (some ad0) FT.length c0) := blk_cell HKt21_.out 2; have hdt21_2 : ∀ o, (w21_.alloc o).cell? ⟨w3_.heap.size, 2, none⟩ = some (.slice (some ad0) FT.length c0) := fun o => cell_later o hct21_2; have HKu21_ := Aside0.mk (blk_below (HXu.out) hb21_); have hcu21_0 : w21_.cell? ⟨w3_.heap.size + 1, 0, none⟩ = some (.string x0.f0) := blk_cell HKu21_.out 0; have hdu21_0 : ∀ o, (w21_.alloc o).cell? ⟨w3_.heap.size + 1, 0, none⟩ = some (.string x0.f0) := fun o => cell_later o hcu21_0; have hcu21_1 : w21_.cell? ⟨w3_.heap.size + 1, 1, none⟩ = some (.int .i64 x0.f1) := blk_cell HKu21_.out 1; have hdu21_1 : ∀ o, (w21_.alloc o).cell? ⟨w3_.heap.size + 1, 1, none⟩ = some (.int .i64 x0.f1) := fun o => cell_later o hcu21_1; have hcu21_2 : w21_.cell? ⟨w3_.heap.size + 1, 2, none⟩ = some (Value.slice A4_ FX.length c4_) := blk_cell HKu21_.out 2; have hdu21_2 : ∀ o, (w21_.alloc o).cell? ⟨w3_.heap.size + 1, 2, none⟩ = some (Value.slice A4_ FX.length c4_) := fun o => cell_later o hcu21_2; have HRap21_ := Aside0.mk (Kd.C_below (HAP.out) hb21_); clear hb21_
          go_wp2_with fail
          go_at_call 28; refine (may_told ⟨x0.f0, x0.f1, FX⟩ A4_ c4_ _ (HRap21_.out) HQ4_.out).mono ?_; rw [HMX.out]; rintro e w22_ ⟨rfl, hb22_⟩; have HB22_ := Aside0.mk (below_step (HB21_.out) hb22_); have HKx022_ := Aside0.mk (blk_below (HKx021_.out) hb22_); have hcx022_0 : w22_.cell? ⟨W.heap.size, 0, none⟩ = some (.string x0.f0) := blk_cell HKx022_.out 0; have hdx022_0 : ∀ o, (w22_.alloc o).cell? ⟨W.heap.size, 0, none⟩ = some (.string x0.f0) := fun o => cell_later o hcx022_0; have hcx022_1 : w22_.cell? ⟨W.heap.size, 1, none⟩ = some (.int .i64 x0.f1) := blk_cell HKx022_.out 1; have hdx022_1 : ∀ o, (w22_.alloc o).cell? ⟨W.heap.size, 1, none⟩ = some (.int .i64 x0.f1) := fun o => cell_later o hcx022_1; have hcx022_2 : w22_.cell? ⟨W.heap.size, 2, none⟩ = some (.slice (some ad0) x0.f2.length c0) := blk_cell HKx022_.out 2; have hdx022_2 : ∀ o, (w22_.alloc o).cell? ⟨W.heap.size, 2, none⟩ = some (.slice (some ad0) x0.f2.length c0) := fun o => cell_later o hcx022_2; have HKt22_ := Aside0.mk (blk_below (HKt21_.out) hb22_); have hct22_0 : w22_.cell? ⟨w3_.heap.size, 0, none⟩ = some (.string x0.f0) := blk_cell HKt22_.out 0; have hdt22_0 : ∀ o, (w22_.alloc o).cell? ⟨w3_.heap.size, 0, none⟩ = some (.string x0.f0) := fun o => cell_later o hct22_0; have hct22_1 : w22_.cell? ⟨w3_.heap.size, 1, none⟩ = some (.int .i64 x0.f1) := blk_cell HKt22_.out 1; have hdt22_1 : ∀ o, (w22_.alloc o).cell? ⟨w3_.heap.size, 1, none⟩ = some (.int .i64 x0.f1) := fun o => cell_later o hct22_1; have hct22_2 : w22_.cell? ⟨w3_.heap.size, 2, none⟩ = some (.slice (some ad0) FT.length c0) := blk_cell HKt22_.out 2; have hdt22_2 : ∀ o, (w22_.alloc o).cell? ⟨w3_.heap.size, 2, none⟩ = some (.slice (some ad0) FT.length c0) := fun o => cell_later o hct22_2; have HKu22_ := Aside0.mk (blk_below (HKu21_.out) hb22_); have hcu22_0 : w22_.cell? ⟨w3_.heap.size + 1, 0, none⟩ = some (.string x0.f0) := blk_cell HKu22_.out 0; have hdu22_0 : ∀ o, (w22_.alloc o).cell? ⟨w3_.heap.size + 1, 0, none⟩ = some (.string x0.f0) := fun o => cell_later o hcu22_0; have hcu22_1 : w22_.cell? ⟨w3_.heap.size + 1, 1, none⟩ = some (.int .i64 x0.f1) := blk_cell HKu22_.out 1; have hdu22_1 : ∀ o, (w22_.alloc o).cell? ⟨w3_.heap.size + 1, 1, none⟩ = some (.int .i64 x0.f1) := fun o => cell_later o hcu22_1; have hcu22_2 : w22_.cell? ⟨w3_.heap.size + 1, 2, none⟩ = some (Value.slice A4_ FX.length c4_) := blk_cell HKu22_.out 2; have hdu22_2 : ∀ o, (w22_.alloc o).cell? ⟨w3_.heap.size + 1, 2, none⟩ = some (Value.slice A4_ FX.length c4_) := fun o => cell_later o hcu22_2; have HRap22_ := Aside0.mk (Kd.C_below (HRap21_.out) hb22_); clear hb22_
          go_wp2_with fail
          go_ret
          exact ⟨rfl, HB22_.out⟩
  · have HNO := Aside0.mk hgo
    clear hgo hp10 hm
    cases p
    · go_enter Try.func9, Try.ntmps9
      go_wp2_with fail
      go_at_call 29; refine (awake5_told _).mono ?_; rintro e w1_ ⟨rfl, hb1_⟩; have HB1_ := Aside0.mk (below_step (below_alloc (Below.refl _ _) _) hb1_); have HKx01_ := Aside0.mk (blk_below (blk_new _ _) hb1_); have hcx01_0 : w1_.cell? ⟨W.heap.size, 0, none⟩ = some (.string x0.f0) := blk_cell HKx01_.out 0; have hdx01_0 : ∀ o, (w1_.alloc o).cell? ⟨W.heap.size, 0, none⟩ = some (.string x0.f0) := fun o => cell_later o hcx01_0; have hcx01_1 : w1_.cell? ⟨W.heap.size, 1, none⟩ = some (.int .i64 x0.f1) := blk_cell HKx01_.out 1; have hdx01_1 : ∀ o, (w1_.alloc o).cell? ⟨W.heap.size, 1, none⟩ = some (.int .i64 x0.f1) := fun o => cell_later o hcx01_1; have hcx01_2 : w1_.cell? ⟨W.heap.size, 2, none⟩ = some (.slice A0 x0.f2.length c0) := blk_cell HKx01_.out 2; have hdx01_2 : ∀ o, (w1_.alloc o).cell? ⟨W.heap.size, 2, none⟩ = some (.slice A0 x0.f2.length c0) := fun o => cell_later o hcx01_2; clear hb1_
      go_wp2_with fail
      go_at_call_of 17 (Value.agg #[.string x0.f0, .int .i64 x0.f1, .slice A0 x0.f2.length c0]); refine (HPC.out A0 c0 _ (Kd.C_below HR0.out (HB1_.out)) HC0.out).mono ?_; rintro e w2_ ⟨rfl, hb2_⟩; have HB2_ := Aside0.mk (below_step (HB1_.out) hb2_); have HKx02_ := Aside0.mk (blk_below (HKx01_.out) hb2_); have hcx02_0 : w2_.cell? ⟨W.heap.size, 0, none⟩ = some (.string x0.f0) := blk_cell HKx02_.out 0; have hdx02_0 : ∀ o, (w2_.alloc o).cell? ⟨W.heap.size, 0, none⟩ = some (.string x0.f0) := fun o => cell_later o hcx02_0; have hcx02_1 : w2_.cell? ⟨W.heap.size, 1, none⟩ = some (.int .i64 x0.f1) := blk_cell HKx02_.out 1; have hdx02_1 : ∀ o, (w2_.alloc o).cell? ⟨W.heap.size, 1, none⟩ = some (.int .i64 x0.f1) := fun o => cell_later o hcx02_1; have hcx02_2 : w2_.cell? ⟨W.heap.size, 2, none⟩ = some (.slice A0 x0.f2.length c0) := blk_cell HKx02_.out 2; have hdx02_2 : ∀ o, (w2_.alloc o).cell? ⟨W.heap.size, 2, none⟩ = some (.slice A0 x0.f2.length c0) := fun o => cell_later o hcx02_2; clear hb2_
      go_wp2_with fail
      go_ret
      exact ⟨rfl, HB2_.out⟩
    · cases m
      · go_enter Try.func9, Try.ntmps9
        go_wp2_with fail
        go_at_call 29; refine (awake5_told _).mono ?_; rintro e w1_ ⟨rfl, hb1_⟩; have HB1_ := Aside0.mk (below_step (below_alloc (Below.refl _ _) _) hb1_); have HKx01_ := Aside0.mk (blk_below (blk_new _ _) hb1_); have hcx01_0 : w1_.cell? ⟨W.heap.size, 0, none⟩ = some (.string x0.f0) := blk_cell HKx01_.out 0; have hdx01_0 : ∀ o, (w1_.alloc o).cell? ⟨W.heap.size, 0, none⟩ = some (.string x0.f0) := fun o => cell_later o hcx01_0; have hcx01_1 : w1_.cell? ⟨W.heap.size, 1, none⟩ = some (.int .i64 x0.f1) := blk_cell HKx01_.out 1; have hdx01_1 : ∀ o, (w1_.alloc o).cell? ⟨W.heap.size, 1, none⟩ = some (.int .i64 x0.f1) := fun o => cell_later o hcx01_1; have hcx01_2 : w1_.cell? ⟨W.heap.size, 2, none⟩ = some (.slice A0 x0.f2.length c0) := blk_cell HKx01_.out 2; have hdx01_2 : ∀ o, (w1_.alloc o).cell? ⟨W.heap.size, 2, none⟩ = some (.slice A0 x0.f2.length c0) := fun o => cell_later o hcx01_2; clear hb1_
        go_wp2_with fail
        go_at_call_of 17 (Value.agg #[.string x0.f0, .int .i64 x0.f1, .slice A0 x0.f2.length c0]); refine (HPC.out A0 c0 _ (Kd.C_below HR0.out (HB1_.out)) HC0.out).mono ?_; rintro e w2_ ⟨rfl, hb2_⟩; have HB2_ := Aside0.mk (below_step (HB1_.out) hb2_); have HKx02_ := Aside0.mk (blk_below (HKx01_.out) hb2_); have hcx02_0 : w2_.cell? ⟨W.heap.size, 0, none⟩ = some (.string x0.f0) := blk_cell HKx02_.out 0; have hdx02_0 : ∀ o, (w2_.alloc o).cell? ⟨W.heap.size, 0, none⟩ = some (.string x0.f0) := fun o => cell_later o hcx02_0; have hcx02_1 : w2_.cell? ⟨W.heap.size, 1, none⟩ = some (.int .i64 x0.f1) := blk_cell HKx02_.out 1; have hdx02_1 : ∀ o, (w2_.alloc o).cell? ⟨W.heap.size, 1, none⟩ = some (.int .i64 x0.f1) := fun o => cell_later o hcx02_1; have hcx02_2 : w2_.cell? ⟨W.heap.size, 2, none⟩ = some (.slice A0 x0.f2.length c0) := blk_cell HKx02_.out 2; have hdx02_2 : ∀ o, (w2_.alloc o).cell? ⟨W.heap.size, 2, none⟩ = some (.slice A0 x0.f2.length c0) := fun o => cell_later o hcx02_2; clear hb2_
        go_wp2_with fail
        go_at_call 28; refine (may_told x0 A0 c0 _ (Kd.C_below HR0.out (HB2_.out)) HC0.out).mono ?_; rw [HM.out]; rintro e w3_ ⟨rfl, hb3_⟩; have HB3_ := Aside0.mk (below_step (HB2_.out) hb3_); have HKx03_ := Aside0.mk (blk_below (HKx02_.out) hb3_); have hcx03_0 : w3_.cell? ⟨W.heap.size, 0, none⟩ = some (.string x0.f0) := blk_cell HKx03_.out 0; have hdx03_0 : ∀ o, (w3_.alloc o).cell? ⟨W.heap.size, 0, none⟩ = some (.string x0.f0) := fun o => cell_later o hcx03_0; have hcx03_1 : w3_.cell? ⟨W.heap.size, 1, none⟩ = some (.int .i64 x0.f1) := blk_cell HKx03_.out 1; have hdx03_1 : ∀ o, (w3_.alloc o).cell? ⟨W.heap.size, 1, none⟩ = some (.int .i64 x0.f1) := fun o => cell_later o hcx03_1; have hcx03_2 : w3_.cell? ⟨W.heap.size, 2, none⟩ = some (.slice A0 x0.f2.length c0) := blk_cell HKx03_.out 2; have hdx03_2 : ∀ o, (w3_.alloc o).cell? ⟨W.heap.size, 2, none⟩ = some (.slice A0 x0.f2.length c0) := fun o => cell_later o hcx03_2; clear hb3_
        go_wp2_with fail
        go_ret
        exact ⟨rfl, HB3_.out⟩
      · have hz : x0.f2.length = 0 := by
          have := HNO.out
          simp only [true_and] at this
          omega
        have hz2 : ((x0.f2.length : Int) == 0) = true := by rw [hz]; rfl
        clear hz
        go_enter Try.func9, Try.ntmps9
        go_wp2_with fail
        go_at_call 29; refine (awake5_told _).mono ?_; rintro e w1_ ⟨rfl, hb1_⟩; have HB1_ := Aside0.mk (below_step (below_alloc (Below.refl _ _) _) hb1_); have HKx01_ := Aside0.mk (blk_below (blk_new _ _) hb1_); have hcx01_0 : w1_.cell? ⟨W.heap.size, 0, none⟩ = some (.string x0.f0) := blk_cell HKx01_.out 0; have hdx01_0 : ∀ o, (w1_.alloc o).cell? ⟨W.heap.size, 0, none⟩ = some (.string x0.f0) := fun o => cell_later o hcx01_0; have hcx01_1 : w1_.cell? ⟨W.heap.size, 1, none⟩ = some (.int .i64 x0.f1) := blk_cell HKx01_.out 1; have hdx01_1 : ∀ o, (w1_.alloc o).cell? ⟨W.heap.size, 1, none⟩ = some (.int .i64 x0.f1) := fun o => cell_later o hcx01_1; have hcx01_2 : w1_.cell? ⟨W.heap.size, 2, none⟩ = some (.slice A0 x0.f2.length c0) := blk_cell HKx01_.out 2; have hdx01_2 : ∀ o, (w1_.alloc o).cell? ⟨W.heap.size, 2, none⟩ = some (.slice A0 x0.f2.length c0) := fun o => cell_later o hcx01_2; clear hb1_
        go_wp2_with fail
        go_at_call_of 17 (Value.agg #[.string x0.f0, .int .i64 x0.f1, .slice A0 x0.f2.length c0]); refine (HPC.out A0 c0 _ (Kd.C_below HR0.out (HB1_.out)) HC0.out).mono ?_; rintro e w2_ ⟨rfl, hb2_⟩; have HB2_ := Aside0.mk (below_step (HB1_.out) hb2_); have HKx02_ := Aside0.mk (blk_below (HKx01_.out) hb2_); have hcx02_0 : w2_.cell? ⟨W.heap.size, 0, none⟩ = some (.string x0.f0) := blk_cell HKx02_.out 0; have hdx02_0 : ∀ o, (w2_.alloc o).cell? ⟨W.heap.size, 0, none⟩ = some (.string x0.f0) := fun o => cell_later o hcx02_0; have hcx02_1 : w2_.cell? ⟨W.heap.size, 1, none⟩ = some (.int .i64 x0.f1) := blk_cell HKx02_.out 1; have hdx02_1 : ∀ o, (w2_.alloc o).cell? ⟨W.heap.size, 1, none⟩ = some (.int .i64 x0.f1) := fun o => cell_later o hcx02_1; have hcx02_2 : w2_.cell? ⟨W.heap.size, 2, none⟩ = some (.slice A0 x0.f2.length c0) := blk_cell HKx02_.out 2; have hdx02_2 : ∀ o, (w2_.alloc o).cell? ⟨W.heap.size, 2, none⟩ = some (.slice A0 x0.f2.length c0) := fun o => cell_later o hcx02_2; clear hb2_
        go_wp2_with fail
        go_at_call 28; refine (may_told x0 A0 c0 _ (Kd.C_below HR0.out (HB2_.out)) HC0.out).mono ?_; rw [HM.out]; rintro e w3_ ⟨rfl, hb3_⟩; have HB3_ := Aside0.mk (below_step (HB2_.out) hb3_); have HKx03_ := Aside0.mk (blk_below (HKx02_.out) hb3_); have hcx03_0 : w3_.cell? ⟨W.heap.size, 0, none⟩ = some (.string x0.f0) := blk_cell HKx03_.out 0; have hdx03_0 : ∀ o, (w3_.alloc o).cell? ⟨W.heap.size, 0, none⟩ = some (.string x0.f0) := fun o => cell_later o hcx03_0; have hcx03_1 : w3_.cell? ⟨W.heap.size, 1, none⟩ = some (.int .i64 x0.f1) := blk_cell HKx03_.out 1; have hdx03_1 : ∀ o, (w3_.alloc o).cell? ⟨W.heap.size, 1, none⟩ = some (.int .i64 x0.f1) := fun o => cell_later o hcx03_1; have hcx03_2 : w3_.cell? ⟨W.heap.size, 2, none⟩ = some (.slice A0 x0.f2.length c0) := blk_cell HKx03_.out 2; have hdx03_2 : ∀ o, (w3_.alloc o).cell? ⟨W.heap.size, 2, none⟩ = some (.slice A0 x0.f2.length c0) := fun o => cell_later o hcx03_2; clear hb3_
        go_wp2_with fail
        go_ret
        exact ⟨rfl, HB3_.out⟩
end Go.Proofs.Ytbgdamlidohfhaa.P
