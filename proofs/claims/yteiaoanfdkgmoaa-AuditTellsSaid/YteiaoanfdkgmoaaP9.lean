/- The functions that the laws of this seat reach, as plain Lean functions, and for each the contract of its call: no condition but those that each theorem names. -/
import Derived.Test.YteiaoanfdkgmoaaP0
import Derived.Test.YteiaoanfdkgmoaaP8
namespace Go.Proofs.Yteiaoanfdkgmoaa.P
open Go.RowKit Go.Proofs.YteiaoanfdkgmoaaW.PrintWords Go.Proofs.YteiaoanfdkgmoaaW.PrintLast Go.Proofs.YteiaoanfdkgmoaaW.PrintMore
attribute [local go_sem] max2_int min2_int max_two min_two max_three min_three max_four min_four   -- for this text's walks alone
set_option linter.unusedVariables false
set_option linter.unusedSimpArgs false

/-! ### audit_Shift: function 15 -/
def audit_Shift.l0 : Nat → Int → List (SMatch) → Int → Int → Option ((List (SMatch)))
  | 0, _, _, _, _ => none
  | k + 1, x1, x5, x10, x11 => if x11 < x10 then (if 0 ≤ x11 then (if x11 < (x5.length : Int) then ((some (x5.set (x11 : Int).toNat (⟨wrap64 (((rd_TMatch x5 x11).f0) + x1), (rd_TMatch x5 x11).f1, (rd_TMatch x5 x11).f2, (rd_TMatch x5 x11).f3⟩ : SMatch) : List (SMatch))).bind fun y105 => (audit_Shift.l0 k x1 (y105.set (x11 : Int).toNat (⟨(rd_TMatch y105 x11).f0, wrap64 (((rd_TMatch y105 x11).f1) + x1), (rd_TMatch y105 x11).f2, (rd_TMatch y105 x11).f3⟩ : SMatch)) x10 (wrap64 (x11 + 1)))) else (none)) else (none)) else (some x5)
def audit_Shift.f (k : Nat) (l0 : List (SMatch)) (a1 : Int) : Option ((List (SMatch))) := (slices_Clone_api_Match.f l0).bind fun t101 => (audit_Shift.l0 k a1 t101 (t101.length : Int) 0)
theorem audit_Shift.mono_l : ∀ k, (∀ y0 y1 y2 y3, LeO (audit_Shift.l0 k y0 y1 y2 y3) (audit_Shift.l0 (k + 1) y0 y1 y2 y3))
  | 0 => fun _ _ _ _ r h => by simp [audit_Shift.l0] at h
  | k + 1 => by
    have ih0 := audit_Shift.mono_l k
    · intro y0 y1 y2 y3
      unfold audit_Shift.l0
      repeat' first
      | (with_reducible exact ih0 _ _ _ _)
      | (with_reducible exact LeO.refl _)
      | (with_reducible exact LeO.none _)
      | (with_reducible refine LeO.ite ?_ ?_)
      | (with_reducible refine LeO.bind ?_ (fun _ => ?_))
      | exact ih0 _ _ _ _
      | exact LeO.none _
      | refine LeO.ite ?_ ?_
      | refine LeO.bind ?_ (fun _ => ?_)
theorem audit_Shift.mono : ∀ a0 a1 k, LeO (audit_Shift.f k a0 a1) (audit_Shift.f (k + 1) a0 a1) := by
  intro a0 a1 k
  have ih0 := audit_Shift.mono_l k
  unfold audit_Shift.f
  repeat' first
      | (with_reducible exact ih0 _ _ _ _)
      | (with_reducible exact LeO.refl _)
      | (with_reducible exact LeO.none _)
      | (with_reducible refine LeO.ite ?_ ?_)
      | (with_reducible refine LeO.bind ?_ (fun _ => ?_))
      | exact ih0 _ _ _ _
      | exact LeO.none _
      | refine LeO.ite ?_ ?_
      | refine LeO.bind ?_ (fun _ => ?_)
set_option maxHeartbeats 8000000 in
set_option maxRecDepth 100000 in
theorem audit_Shift.calls (k : Nat) (A0 : Option Addr) (c0 : Nat) (l0 : List (SMatch)) (a1 : Int) (r : List (SMatch)) (w : World) (hr0 : Kd.C kMatch w A0 l0.length l0) (hc0 : l0.length ≤ c0) (h : audit_Shift.f k l0 a1 = some r) :
    Calls Try.prog 15 #[.slice A0 l0.length c0, .int .i64 a1] w fun e w' => ∃ v0_ : Value, e = .returned (v0_) ∧ Kd.R kMatch 25 w' w.heap.size (fun _ => True) v0_ r ∧ Below w.heap.size w w' := by
  have HR0 := Aside0.mk hr0
  have HC0 := Aside0.mk hc0
  clear hr0 hc0
  have HB := Aside0.mk (Below.refl w.heap.size w)
  have H : ((slices_Clone_api_Match.f l0).bind fun t101 => (audit_Shift.l0 k a1 t101 (t101.length : Int) 0)) = some r := h
  clear h
  replace H := Option.bind_eq_some_iff.mp H
  obtain ⟨t101, A30, H⟩ := H
  replace H : (audit_Shift.l0 k a1 t101 (t101.length : Int) 0) = some r := H
  have A3 := Aside0.mk A30
  clear A30
  have H' := Aside0.mk H
  clear H
  go_enter Try.func15, Try.ntmps15
  go_wp2_with (first | ((with_reducible refine gate_callee (f := 29) rfl ?_); refine goesL_ (some 8) rfl rfl Try.func29 (by kernel_rfl) rfl #[.slice A0 l0.length c0] rfl (by (try simp only [List.map_toArray, List.map_cons, List.map_nil]); first | done | rfl | (simp only [List.length_drop, List.length_take]; rfl)) ?_; (with_reducible refine (slices_Clone_api_Match.calls _ _ l0 t101 _ ?side1 ?side2 A3.out).mono ?_); (case side1 => repeat (first | exact HR0.out | (with_reducible refine Kd.C_alloc ?_ _) | (with_reducible refine Kd.C_drewN ?_ _) | (with_reducible refine Kd.C_drew ?_))); (case side2 => exact HC0.out); rintro e w4 ⟨v102, rfl, ho0, hb⟩; refine ⟨_, rfl, ?_⟩; have n0_ := Aside0.mk (Kd.R_lower ho0 (below_size (by repeat (first | (with_reducible first | exact HB.out | apply below_alloc | apply pw_below_drewN | apply below_drew1) | exact HB.out)))); have n1_ := Aside0.mk (below_step (by repeat (first | (with_reducible first | exact HB.out | apply below_alloc | apply pw_below_drewN | apply below_drew1) | exact HB.out)) hb); clear HB; have HO103 := n0_; have HB := n1_; clear n0_ n1_; (try clear hb); (try clear hb2); (try clear hk); (try clear hi); (try clear ho0); obtain ⟨Ao5, co5, eo5⟩ := Kd.R_slice HO103.out; subst eo5))
  go_loopg [11] k (fun kq v11 w' => ∃ (x5_1 : List (SMatch)) (x11_1 : Int), v11 = .int .i64 x11_1 ∧ Aside0 (audit_Shift.l0 kq a1 x5_1 (t101.length : Int) x11_1 = some r) ∧ Aside0 (kq ≤ k) ∧ Aside0 (Kd.R kMatch 25 w' w.heap.size (fun _ => True) (.slice Ao5 t101.length co5) x5_1) ∧ Aside0 (Below w.heap.size w w'))
  case atStart => exact ⟨(t101), (0), (by first | rfl | (simp; done) | (simp [*]; done)), H', ⟨Nat.le_refl _⟩, ⟨by (with_reducible repeat (first | apply Kd.R_alloc | apply Kd.R_drewN | apply Kd.R_drew)); exact HO103.out⟩, ⟨by repeat (first | (with_reducible first | exact HB.out | apply below_alloc | apply pw_below_drewN | apply below_drew1) | exact HB.out)⟩⟩
  case round =>
    clear H'
    try clear c1
    try clear c2
    try clear p2
    obtain ⟨x5_1, x11_1, rfl, HA, HK1, HO_5, HB⟩ := hrel
    have hl5_1 := (Kd.R_reads' HO_5.out).1
    rw [hl5_1] at HO_5
    (try simp only [hl5_1])
    cases gk with
    | zero => exact absurd HA.out (by simp [audit_Shift.l0])
    | succ k1 =>
      have H := HA.out
      clear HA
      simp only [audit_Shift.l0] at H
      by_cases c6 : x11_1 < (t101.length : Int)
      · rw [if_pos c6] at H
        have c6b0 : decide (x11_1 < (t101.length : Int)) = true := decide_eq_true c6
        (try (have c6b0hl5_1 := c6b0; rw [hl5_1] at c6b0hl5_1))
        clear c6
        by_cases c7 : 0 ≤ x11_1
        · rw [if_pos c7] at H
          have c7b0 : decide (0 ≤ x11_1) = true := decide_eq_true c7
          clear c7
          by_cases c8 : x11_1 < (x5_1.length : Int)
          · rw [if_pos c8] at H
            have c8b0 : decide (x11_1 < (x5_1.length : Int)) = true := decide_eq_true c8
            (try (have c8b0hl5_1 := c8b0; rw [hl5_1] at c8b0hl5_1))
            clear c8
            obtain ⟨y105, hy105⟩ : ∃ y_ : List (SMatch), y_ = (x5_1.set (x11_1 : Int).toNat (⟨wrap64 (((rd_TMatch x5_1 x11_1).f0) + a1), (rd_TMatch x5_1 x11_1).f1, (rd_TMatch x5_1 x11_1).f2, (rd_TMatch x5_1 x11_1).f3⟩ : SMatch)) := ⟨_, rfl⟩
            replace H : (audit_Shift.l0 k1 a1 (y105.set (x11_1 : Int).toNat (⟨(rd_TMatch y105 x11_1).f0, wrap64 (((rd_TMatch y105 x11_1).f1) + a1), (rd_TMatch y105 x11_1).f2, (rd_TMatch y105 x11_1).f3⟩ : SMatch)) (t101.length : Int) (wrap64 (x11_1 + 1))) = some r := by first | (rw [hy105]; with_reducible exact H) | (have H2_ := (Option.bind_some _ _).symm.trans H; rw [hy105]; with_reducible exact H2_) | (have H2_ := (Option.bind_some _ _).symm.trans H; with_reducible exact H2_) | with_reducible exact H | (rw [hy105]; exact H) | exact H
            have Ny105 := Aside0.mk hy105
            clear hy105
            obtain ⟨y107, hy107⟩ : ∃ y_ : List (SMatch), y_ = (y105.set (x11_1 : Int).toNat (⟨(rd_TMatch y105 x11_1).f0, wrap64 (((rd_TMatch y105 x11_1).f1) + a1), (rd_TMatch y105 x11_1).f2, (rd_TMatch y105 x11_1).f3⟩ : SMatch)) := ⟨_, rfl⟩
            replace H : (audit_Shift.l0 k1 a1 y107 (t101.length : Int) (wrap64 (x11_1 + 1))) = some r := by first | (rw [hy107]; with_reducible exact H) | (have H2_ := (Option.bind_some _ _).symm.trans H; rw [hy107]; with_reducible exact H2_) | (have H2_ := (Option.bind_some _ _).symm.trans H; with_reducible exact H2_) | with_reducible exact H | (rw [hy107]; exact H) | exact H
            have Ny107 := Aside0.mk hy107
            clear hy107
            have H' := Aside0.mk H
            clear H
            have p104 : 0 ≤ (x11_1 : Int) := of_decide_eq_true (by first | (with_reducible assumption) | assumption)
            have q104 : x11_1 < (x5_1.length : Int) := of_decide_eq_true (by first | (with_reducible assumption) | assumption)
            obtain ⟨ad104, e104, hx104_0, hx104_1, hx104_2, hx104_3⟩ := at_TMatch (Kd.R_reads' HO_5.out).2.2 x11_1 p104 q104
            cases e104
            replace p104 := eq_true p104
            replace q104 := eq_true q104
            have p9 : 0 ≤ (x11_1 : Int) := of_decide_eq_true (by first | (with_reducible assumption) | assumption)
            have q9 : (x11_1 : Int) < ((x5_1.length : Int) : Int) := of_decide_eq_true (by first | (with_reducible assumption) | assumption)
            obtain ⟨go9, co9, eo9, gb9, gl9, cl9, HG9⟩ := Kd.R_form HO_5.out (by omega)
            (first | cases eo9 | (injection eo9 with ea_ en_ ec_; (first | subst ea_ | (injection ea_ with ea_; subst ea_)); subst ec_; clear en_))
            have GB9 := Aside0.mk gb9
            have GG9 := Aside0.mk HG9
            clear gb9 gl9 HG9
            (first | simp only [add_plain] at hx104_0 | skip)
            (first | simp only [add_plain] at hx104_1 | skip)
            (first | simp only [add_plain] at hx104_2 | skip)
            (first | simp only [add_plain] at hx104_3 | skip)
            obtain ⟨ce9, hcl9, hM9, hcc9, hfr9⟩ := Kd.R_elem HO_5.out zMatch (x11_1 : Int) p9 q9
            obtain rfl := kMatch_openM hM9
            have hx9_0 : wr.cell? ⟨go9, (x11_1 : Int).toNat * 4, none⟩ = some (.int .i64 ((rd_TMatch x5_1 x11_1).f0)) := hcc9 0 _ rfl
            have hx9_1 : wr.cell? ⟨go9, (x11_1 : Int).toNat * 4 + 1, none⟩ = some (.int .i64 ((rd_TMatch x5_1 x11_1).f1)) := hcc9 1 _ rfl
            have hx9_2 : wr.cell? ⟨go9, (x11_1 : Int).toNat * 4 + 2, none⟩ = some (.int .i64 ((rd_TMatch x5_1 x11_1).f2)) := hcc9 2 _ rfl
            have hx9_3 : wr.cell? ⟨go9, (x11_1 : Int).toNat * 4 + 3, none⟩ = some (.bool ((rd_TMatch x5_1 x11_1).f3)) := hcc9 3 _ rfl
            have hf9_0 : wr.frozen? ⟨go9, (x11_1 : Int).toNat * 4, none⟩ = false := hfr9 0
            have hf9_1 : wr.frozen? ⟨go9, (x11_1 : Int).toNat * 4 + 1, none⟩ = false := hfr9 1
            have hf9_2 : wr.frozen? ⟨go9, (x11_1 : Int).toNat * 4 + 2, none⟩ = false := hfr9 2
            have hf9_3 : wr.frozen? ⟨go9, (x11_1 : Int).toNat * 4 + 3, none⟩ = false := hfr9 3
            clear hcl9 hcc9 hfr9 hM9
            replace p9 := eq_true p9
            replace q9 := eq_true q9
            have HX11 := Aside0.mk (show Kd.R kMatch 25 wr w.heap.size (fun _ => True) (.slice (some ⟨go9, 0, none⟩) x5_1.length co5) x5_1 from (by (with_reducible repeat (first | apply Kd.R_alloc | apply Kd.R_drewN | apply Kd.R_drew)); exact HO_5.out))
            obtain ⟨ce11, hcl11, hM11, hcc11, hfr11⟩ := Kd.R_elem HX11.out zMatch (x11_1 : Int) (of_decide_eq_true (by first | (with_reducible assumption) | assumption)) (by have h_ : (x11_1 : Int) < ((x5_1.length : Int) : Int) := of_decide_eq_true (by first | (with_reducible assumption) | assumption); first | exact h_ | (have e_ := (Kd.R_reads' HO_5.out).1; omega) | simpa using h_)
            obtain rfl := kMatch_openM hM11
            have HP11 := Kd.R_seg HX11.out (x11_1 : Int) (of_decide_eq_true (by first | (with_reducible assumption) | assumption)) (by have h_ : (x11_1 : Int) < ((x5_1.length : Int) : Int) := of_decide_eq_true (by first | (with_reducible assumption) | assumption); first | exact h_ | (have e_ := (Kd.R_reads' HO_5.out).1; omega) | simpa using h_) (seg := [.int .i64 (wrap64 (((rd_TMatch x5_1 x11_1).f0) + a1))]) (j := 0) hcl11 hcc11 (show 1 ≤ 4 from by decide) (x' := (⟨wrap64 (((rd_TMatch x5_1 x11_1).f0) + a1), (rd_TMatch x5_1 x11_1).f1, (rd_TMatch x5_1 x11_1).f2, (rd_TMatch x5_1 x11_1).f3⟩ : SMatch)) (kMatch_mkM _ _ _ (⟨wrap64 (((rd_TMatch x5_1 x11_1).f0) + a1), (rd_TMatch x5_1 x11_1).f1, (rd_TMatch x5_1 x11_1).f2, (rd_TMatch x5_1 x11_1).f3⟩ : SMatch) ) (fun _ hk => hk)
            have hx11_0 := hcc11 0 _ rfl
            (try simp only [show (kMatch).sz = 4 from rfl, Nat.mul_one, Nat.add_zero] at hx11_0)
            have hf11_0 := hfr11 0
            (try simp only [show (kMatch).sz = 4 from rfl, Nat.mul_one, Nat.add_zero] at hf11_0)
            clear hcl11 hcc11 hfr11 hM11
            go_wp2_with (first | ((with_reducible refine gate_store (t := 3) (p := 22) rfl ?_); refine store_event (t := 3) (p := 22) (v := ?vo_w12) (w1 := (wr.setCell ⟨go9, (x11_1 : Int).toNat * 4, none⟩ (.int .i64 (wrap64 (((rd_TMatch x5_1 x11_1).f0) + a1))))) ?hg ?ho ?hn ?hr ?_; (case ho => rfl); (case hg => rfl); (case hn => rfl); (case hr => first | (go_simp; done) | (go_simp; rfl)); intro w12 hw; have hg : wr.grownBy w12 (some go9) := (by rw [hw]; exact HP11.2); have hp_ : Kd.R kMatch 25 w12 w.heap.size (fun _ => True) (.slice (some ⟨go9, 0, none⟩) x5_1.length co5) y105 := (by rw [hw, Ny105.out]; exact HP11.1); clear HP11; have n0_ := Aside0.mk (hp_); have n1_ := Aside0.mk ((by rw [hw]; exact below_set (HB.out) GB9.out : Below w.heap.size w w12)); clear HO_5; clear HB; have HO_5 := n0_; have HB := n1_; clear n0_ n1_; clear hg hw hp_; have p106 : 0 ≤ (x11_1 : Int) := of_decide_eq_true (by first | (with_reducible assumption) | assumption); have q106 : x11_1 < (y105.length : Int) := (by have h_ : (x11_1 : Int) < ((x5_1.length : Int) : Int) := of_decide_eq_true (by first | (with_reducible assumption) | assumption); first | (have e_ := (Kd.R_reads' HO_5.out).1; omega) | simpa only [Ny105.out, List.length_set] using h_); have ql106 : ((x11_1 : Int) < ((x5_1.length : Int) : Int)) = True := eq_true (of_decide_eq_true (by first | (with_reducible assumption) | assumption)); obtain ⟨ad106, e106, hx106_0, hx106_1, hx106_2, hx106_3⟩ := at_TMatch (Kd.R_reads' HO_5.out).2.2 x11_1 p106 q106; obtain rfl : (⟨go9, 0, none⟩ : Addr) = ad106 := (by injection e106); (first | simp only [add_plain] at hx106_0 | simp only [add_at] at hx106_0 | simp only [Addr.add, Nat.zero_add] at hx106_0 | skip); (first | simp only [add_plain] at hx106_1 | simp only [add_at] at hx106_1 | simp only [Addr.add, Nat.zero_add] at hx106_1 | skip); (first | simp only [add_plain] at hx106_2 | simp only [add_at] at hx106_2 | simp only [Addr.add, Nat.zero_add] at hx106_2 | skip); (first | simp only [add_plain] at hx106_3 | simp only [add_at] at hx106_3 | simp only [Addr.add, Nat.zero_add] at hx106_3 | skip); replace p106 := eq_true p106; replace q106 := eq_true q106; have p10 : 0 ≤ (x11_1 : Int) := of_decide_eq_true (by first | (with_reducible assumption) | assumption); have q10 : (x11_1 : Int) < ((x5_1.length : Int) : Int) := of_decide_eq_true (by first | (with_reducible assumption) | assumption); obtain ⟨ce10, hcl10, hM10, hcc10, hfr10⟩ := Kd.R_elem HO_5.out zMatch (x11_1 : Int) p10 q10; obtain rfl := kMatch_openM hM10; have hx10_0 : w12.cell? ⟨go9, (x11_1 : Int).toNat * 4, none⟩ = some (.int .i64 ((rd_TMatch y105 x11_1).f0)) := hcc10 0 _ rfl; have hx10_1 : w12.cell? ⟨go9, (x11_1 : Int).toNat * 4 + 1, none⟩ = some (.int .i64 ((rd_TMatch y105 x11_1).f1)) := hcc10 1 _ rfl; have hx10_2 : w12.cell? ⟨go9, (x11_1 : Int).toNat * 4 + 2, none⟩ = some (.int .i64 ((rd_TMatch y105 x11_1).f2)) := hcc10 2 _ rfl; have hx10_3 : w12.cell? ⟨go9, (x11_1 : Int).toNat * 4 + 3, none⟩ = some (.bool ((rd_TMatch y105 x11_1).f3)) := hcc10 3 _ rfl; have hf10_0 : w12.frozen? ⟨go9, (x11_1 : Int).toNat * 4, none⟩ = false := hfr10 0; have hf10_1 : w12.frozen? ⟨go9, (x11_1 : Int).toNat * 4 + 1, none⟩ = false := hfr10 1; have hf10_2 : w12.frozen? ⟨go9, (x11_1 : Int).toNat * 4 + 2, none⟩ = false := hfr10 2; have hf10_3 : w12.frozen? ⟨go9, (x11_1 : Int).toNat * 4 + 3, none⟩ = false := hfr10 3; clear hcl10 hcc10 hfr10 hM10; replace p10 := eq_true p10; replace q10 := eq_true q10; have HX13 := Aside0.mk (show Kd.R kMatch 25 w12 w.heap.size (fun _ => True) (.slice (some ⟨go9, 0, none⟩) x5_1.length co5) y105 from (by (with_reducible repeat (first | apply Kd.R_alloc | apply Kd.R_drewN | apply Kd.R_drew)); exact HO_5.out)); obtain ⟨ce13, hcl13, hM13, hcc13, hfr13⟩ := Kd.R_elem HX13.out zMatch (x11_1 : Int) (of_decide_eq_true (by first | (with_reducible assumption) | assumption)) (by have h_ : (x11_1 : Int) < ((x5_1.length : Int) : Int) := of_decide_eq_true (by first | (with_reducible assumption) | assumption); first | exact h_ | (have e_ := (Kd.R_reads' HO_5.out).1; omega) | simpa using h_); obtain rfl := kMatch_openM hM13; have HP13 := Kd.R_seg HX13.out (x11_1 : Int) (of_decide_eq_true (by first | (with_reducible assumption) | assumption)) (by have h_ : (x11_1 : Int) < ((x5_1.length : Int) : Int) := of_decide_eq_true (by first | (with_reducible assumption) | assumption); first | exact h_ | (have e_ := (Kd.R_reads' HO_5.out).1; omega) | simpa using h_) (seg := [.int .i64 (wrap64 (((rd_TMatch y105 x11_1).f1) + a1))]) (j := 1) hcl13 hcc13 (show 2 ≤ 4 from by decide) (x' := (⟨(rd_TMatch y105 x11_1).f0, wrap64 (((rd_TMatch y105 x11_1).f1) + a1), (rd_TMatch y105 x11_1).f2, (rd_TMatch y105 x11_1).f3⟩ : SMatch)) (kMatch_mkM _ _ _ (⟨(rd_TMatch y105 x11_1).f0, wrap64 (((rd_TMatch y105 x11_1).f1) + a1), (rd_TMatch y105 x11_1).f2, (rd_TMatch y105 x11_1).f3⟩ : SMatch) ) (fun _ hk => hk); have hx13_1 := hcc13 1 _ rfl; (try simp only [show (kMatch).sz = 4 from rfl, Nat.mul_one, Nat.add_zero] at hx13_1); have hf13_1 := hfr13 1; (try simp only [show (kMatch).sz = 4 from rfl, Nat.mul_one, Nat.add_zero] at hf13_1); clear hcl13 hcc13 hfr13 hM13) | ((with_reducible refine gate_store (t := 3) (p := 31) rfl ?_); refine store_event (t := 3) (p := 31) (v := ?vo_w14) (w1 := (w12.setCell ⟨go9, (x11_1 : Int).toNat * 4 + 1, none⟩ (.int .i64 (wrap64 (((rd_TMatch y105 x11_1).f1) + a1))))) ?hg ?ho ?hn ?hr ?_; (case ho => rfl); (case hg => rfl); (case hn => rfl); (case hr => first | (go_simp; done) | (go_simp; rfl)); intro w14 hw; have hg : w12.grownBy w14 (some go9) := (by rw [hw]; exact HP13.2); have hp_ : Kd.R kMatch 25 w14 w.heap.size (fun _ => True) (.slice (some ⟨go9, 0, none⟩) x5_1.length co5) y107 := (by rw [hw, Ny107.out]; exact HP13.1); clear HP13; have n0_ := Aside0.mk (hp_); have n1_ := Aside0.mk ((by rw [hw]; exact below_set (HB.out) GB9.out : Below w.heap.size w w14)); clear HO_5; clear HB; have HO_5 := n0_; have HB := n1_; clear n0_ n1_; clear hg hw hp_))
            (try simp only [← hl5_1])
            go_roundg k1
            case measure => have := HK1.out; omega
            case rel => exact ⟨(y107), (wrap64 (x11_1 + 1)), (by first | rfl | (simp; done) | (simp [*]; done)), H', ⟨by have := HK1.out; omega⟩, ⟨by (try simp only [hl5_1]); (with_reducible repeat (first | apply Kd.R_alloc | apply Kd.R_drewN | apply Kd.R_drew)); exact HO_5.out⟩, ⟨by repeat (first | (with_reducible first | exact HB.out | apply below_alloc | apply pw_below_drewN | apply below_drew1) | exact HB.out)⟩⟩
          · rw [if_neg c8] at H
            exact absurd H (by simp)
        · rw [if_neg c7] at H
          exact absurd H (by simp)
      · rw [if_neg c6] at H
        have c6b0 : decide (x11_1 < (t101.length : Int)) = false := decide_eq_false c6
        (try (have c6b0hl5_1 := c6b0; rw [hl5_1] at c6b0hl5_1))
        clear c6
        obtain rfl := Option.some.inj H
        go_wp2
        go_ret
        exact ⟨_, by first | rfl | (simp [errW_none, errW_some] <;> rfl) | (simp [*, errW_none, errW_some] <;> rfl), by (with_reducible repeat (first | apply Kd.R_alloc | apply Kd.R_drewN | apply Kd.R_drew)); exact HO_5.out, by repeat (first | (with_reducible first | exact HB.out | apply below_alloc | apply pw_below_drewN | apply below_drew1) | exact HB.out)⟩

end Go.Proofs.Yteiaoanfdkgmoaa.P
