/- What EventTells's row stands on: words, contracts of the functions that it reaches, plain facts, its walk (part 3): no condition but those that each theorem names. -/
import Derived.Test.YtandlemjjlamoaaZEventTells2
set_option linter.unusedVariables false
set_option linter.unusedSimpArgs false
namespace Go.Proofs.Ytandlemjjlamoaa.P
open Go.RowKit Go.Proofs.YtandlemjjlamoaaW.PrintWords Go.Proofs.YtandlemjjlamoaaW.PrintLast Go.Proofs.YtandlemjjlamoaaW.PrintMore
attribute [local go_sem] max2_int min2_int max_two min_two max_three min_three max_four min_four   -- for this text's walks alone
set_option linter.unusedVariables false
set_option linter.unusedSimpArgs false
def valsL (l : List SValue) : List Int := (l.map bytesV).flatten
def bytesE (x : SEvent) : List Int := textL x.f0 ++ lePut x.f1.toNat ++ lePut x.f2.length ++ valsL x.f2
theorem valsL_snoc (l : List SValue) (k : Nat) (h : k < l.length) : valsL (l.take (k + 1)) = valsL (l.take k) ++ bytesV (l.getD k zValue) := by
  unfold valsL
  rw [take_snoc zValue l k h, List.map_append, List.flatten_append]
  simp
theorem bytesV_len {x : SValue} (hb : i64V x) (h : mayV x = true) : (bytesV x).length ≤ 51 := by
  have h1 := lePut_len (numV_lt hb h)
  have h2 : x.f2.size ≤ 40 := by
    have h3 := mayV_iff.1 h
    rcases h3 with ⟨_, hs⟩ | ⟨_, hs, _⟩ | ⟨_, _, hs⟩ | ⟨_, hs, _⟩
    · rw [toList_nil hs]; decide
    · rw [toList_nil hs]; decide
    · exact hs
    · rw [toList_nil hs]; decide
  unfold bytesV
  simp only [List.length_cons, List.length_append, bytesOf_length]
  omega
def putERel (P0 : List Int) (l : List SValue) (w : World) (k : Nat) (v : Value) (w' : World) : Prop := k ≤ l.length ∧ Own8 5 w.heap.size w' v (P0 ++ valsL (l.take k)) ∧ Below w.heap.size w w' ∧ (P0 ++ valsL (l.take k)).length ≤ 40 + 51 * k
set_option maxHeartbeats 4000000 in
set_option maxRecDepth 100000 in
theorem event_Put.told (x : SEvent) (A : Option Addr) (c : Nat) (w : World) (hr : Kd.C kValue w A x.f2.length x.f2) (hc : x.f2.length ≤ c) (hwf : ∀ v ∈ x.f2, i64V v) {b : Bool} (hm : mayE x = b) {P : List Int} (hP : (if b then bytesE x else []) = P) :
    Calls Try.prog 11 #[.agg #[.string x.f0, .int .i64 x.f1, .slice A x.f2.length c]] w (bytesPost 5 P b w) := by
  have HR := Aside0.mk hr
  have HC := Aside0.mk hc
  have HWF := Aside0.mk hwf
  have HM := Aside0.mk hm
  clear hr hc hwf
  cases b with
  | false =>
    subst hP
    clear hm
    go_enter Try.func11, Try.ntmps11
    go_wp2_with (go_at_call 15; refine (event_May.told x A c _ (Kd.C_alloc HR.out _) HC.out HWF.out HM.out).mono ?_; rintro e w1 ⟨rfl, hb1⟩)
    go_ret2
    exact ⟨_, rfl, Kd.R_nil _ _ _ _ _, below_step (below_alloc (Below.refl _ _) _) hb1⟩
  | true =>
    obtain ⟨hn, h1, h2, h3, h4⟩ := mayE_iff.1 hm
    have hns := (nameB_size hn).2
    obtain ⟨nm, tm, F⟩ := x
    replace h1 : 0 ≤ tm := h1
    replace h2 : tm ≤ 1125899906842624 := h2
    replace h3 : F.length ≤ 6 := h3
    replace hns : nm.size ≤ 12 := hns
    replace HWF : Aside0 (∀ v ∈ F, i64V v) := HWF
    replace HR : Aside0 (Kd.C kValue w A F.length F) := HR
    replace HC : Aside0 (F.length ≤ c) := HC
    have H4 : Aside0 (∀ v ∈ F, mayV v = true) := ⟨h4⟩
    obtain ⟨vn, rfl⟩ := Int.eq_ofNat_of_zero_le h1
    have HP : Aside0 (textL nm ++ lePut vn ++ lePut F.length ++ valsL F = P) := ⟨hP⟩
    show Calls _ _ #[.agg #[.string nm, .int .i64 (vn : Int), .slice A F.length c]] w _
    have HMF := Aside0.mk (fun (W : World) (h : Below w.heap.size w W) => event_May.told ⟨nm, (vn : Int), F⟩ A c W (Kd.C_below HR.out h) HC.out HWF.out HM.out)
    obtain ⟨ln, hln⟩ : ∃ ln, F.length = ln := ⟨_, rfl⟩
    have HLN := Aside0.mk hln
    replace HMF : Aside0 (∀ W : World, Below w.heap.size w W → Calls Try.prog 15 #[.agg #[.string nm, .int .i64 (vn : Int), .slice A F.length c]] W (boolPost true W)) := HMF
    rw [hln] at h3 HMF ⊢
    clear hm h4 hn hP hln h1
    have hw0 := u64_small' (n := nm.size) (by omega)
    have hw1 := u64_small' (n := vn) (by omega)
    have hw2 := u64_small' (n := ln) (by omega)
    go_enter Try.func11, Try.ntmps11
    go_wp2_with (go_at_call 15; refine (HMF.out _ (below_alloc (Below.refl _ _) _)).mono ?_; rintro e w1 ⟨rfl, hb1⟩; have HB1 := Aside0.mk (below_step (below_alloc (Below.refl _ _) _) hb1); have HK1 := Aside0.mk (blk_below (blk_new w (.cells #[.string nm, .int .i64 (vn : Int), .slice A ln c] 24)) hb1); obtain ⟨k1, _, _, _⟩ := know HK1.out; have hd0 := k1 0; clear hb1)
    go_region_held3 (fun w' => w'.cell? ⟨w.heap.size, 0, none⟩ = some (.string nm))
      (first | go_keep | exact hc30 | (apply pw_cell_below; (first | exact hb2); assumption))
      (first
        | (go_at_call 24; refine (le_Put.told nm.size _ (by omega)).mono ?_; rintro e w2 ⟨v2, rfl, ho2, hb2⟩; have HB2 := Aside0.mk (below_step (below_drew HB1.out) hb2); have HK2 := Aside0.mk (blk_below (blk_drew HK1.out) hb2); have HO2 := Aside0.mk (show Own8 _ _ _ _ _ from ho2); have HN2 := Aside0.mk (Own8.far HO2.out (blk_lt HK1.out)); clear ho2)
        | (refine app8s_step (o := ⟨some 19, _, _, _, _, _⟩) (w0 := w) w.heap.size ?hw (.tmp 16) (.tmp 18) 27 9 5 rfl Try.underlying27 Try.underlying9 info5 v2 (lePut nm.size) nm ?hs ?hx ?HO ?HB ?hZ ?hL ?_; (case hw => rfl); (case hs => rfl); (case hx => rfl); (case hL => have := lePut_short (n := nm.size) (by omega); omega); (case HO => exact Own8.lower HO2.out (below_size (below_drew HB1.out))); (case HB => exact HB2.out); (case hZ => exact below_size HB2.out); intro v3 w3 ho3 hb3 hg3; have HO3 := Aside0.mk (show Own8 _ _ _ _ (textL nm) from ho3); have HB3 := Aside0.mk hb3; have HK3 := Aside0.mk (blk_grown HK2.out hg3 HN2.out); have hc30 := cells_of HK3.out 0; clear ho3 hb3 hg3))
    obtain ⟨A3, c3, rfl, hc3, hr3⟩ := Own8.reads HO3.out
    have HR3 := Aside0.mk (And.intro hc3 hr3)
    have htl : (textL nm).length ≤ 13 := by rw [textL_small hns]; omega
    have hl1 := lePut_len (n := vn) (by omega)
    have hl2 := lePut_short (n := ln) (by omega)
    have HTL := Aside0.mk (And.intro htl (And.intro hl1 hl2))
    obtain ⟨j1, _, _, _⟩ := know HK3.out
    have hd1 := j1 1
    have hd2 := j1 2
    clear k1 hd0 hc30 hb2 hc3 hr3 HO2 HN2 HK2 HK1 j1 htl hl1 hl2
    go_wp2
    go_region_held3 (fun w' => w'.cell? ⟨w.heap.size, 1, none⟩ = some (.int .i64 (vn : Int)) ∧ w'.cell? ⟨w.heap.size, 2, none⟩ = some (.slice A ln c))
      (first | go_keep | (go_split_ands; refine ⟨?_, ?_⟩ <;> (apply pw_cell_below; (first | exact hb6 | exact hb5 | exact hb4); assumption)))
      (first
        | (go_at_call_of 24 (Value.int .u64 (vn : Int)); refine (le_Put.told vn _ (by omega)).mono ?_; rintro e w4 ⟨v4, rfl, ho4, hb4⟩; obtain ⟨A4, c4, hv4, hc4, hr4⟩ := Kd.R_reads ho4; subst hv4; have HO4 := Aside0.mk (And.intro hc4 hr4); clear ho4 hc4 hr4)
        | (go_at_call_of 24 (Value.int .u64 (ln : Int)); refine (le_Put.told ln _ (by omega)).mono ?_; rintro e w5 ⟨v5, rfl, ho5, hb5⟩; obtain ⟨A5, c5, hv5, hc5, hr5⟩ := Kd.R_reads ho5; subst hv5; have HO5 := Aside0.mk (And.intro hc5 hr5); clear ho5 hc5 hr5)
        | (go_at_call 25; refine (slices_Concat_byte.told (some ⟨w5.heap.size, 0, none⟩) 3 [textL nm, lePut vn, lePut ln] _ (C_three (blk_new _ _) (CC_below (below_alloc (below_step (below_drew (Below.refl _ _)) (below_step hb4 hb5)) _) HR3.out) (CC_below (below_alloc hb5 _) HO4.out) (CC_below (below_alloc (Below.refl _ _) _) HO5.out)) (Nat.le_refl _) ?hl).mono ?_; (case hl => simp only [List.flatten_cons, List.flatten_nil, List.length_append, List.length_nil]; have := HTL.out; omega); rintro e w6 ⟨v6, rfl, ho6, hb6⟩; have HO6 := Aside0.mk (show Own8 _ _ _ _ _ from ho6); clear ho6))
    have hB5 := below_alloc (below_step (below_drew HB3.out) (below_step hb4 hb5)) (.cells #[.slice A3 (textL nm).length c3, .slice A4 (lePut vn).length c4, .slice A5 (lePut ln).length c5] 27)
    have hB6 := below_step hB5 hb6
    have hO6 := Own8.lower HO6.out (below_size hB5)
    have hP0 : textL nm ++ lePut vn ++ lePut F.length = [textL nm, lePut vn, lePut ln].flatten := by simp [HLN.out]
    have hPl : [textL nm, lePut vn, lePut ln].flatten.length ≤ 40 := by simp only [List.flatten_cons, List.flatten_nil, List.length_append, List.length_nil]; have := HTL.out; omega
    have HP2 : Aside0 ([textL nm, lePut vn, lePut ln].flatten ++ valsL F = P) := ⟨by rw [← hP0]; exact HP.out⟩
    clear hP0 HTL
    generalize [textL nm, lePut vn, lePut ln].flatten = P0 at *
    have HOL := Aside0.mk hO6
    have HBL := Aside0.mk hB6
    clear hB5 hB6 hO6 hb4 hb5 hb6 HO4 HO5 HO6 HR3 HO3 HK3 HB3 HB1 HB2 HMF HM hw0 hw1 hw2 hd1 hd2 HP
    go_wp2
    go_loopw [4, 6, 7, 8, 35] (fun v4 _ _ _ v35 w' => ∃ k : Nat, v35 = .int .i64 k ∧ putERel P0 F w k v4 w') (fun _ _ _ _ i _ => ln - (intOf i).toNat)
    case atStart => exact ⟨0, rfl, Nat.zero_le _, by rw [show P0 ++ valsL (F.take 0) = P0 from by simp [valsL]]; exact HOL.out, HBL.out, by rw [show P0 ++ valsL (F.take 0) = P0 from by simp [valsL]]; omega⟩
    case round =>
      obtain ⟨k, rfl, hk, ho, hb, hlen⟩ := hrel
      have HO := Aside0.mk ho
      have HB := Aside0.mk hb
      have hFl := HLN.out
      clear ho hb HOL HBL
      by_cases hlt : k < ln
      · obtain ⟨ad, e, hx0, hx1, hx2⟩ := at_TValue (Kd.C_below HR.out HB.out) (k : Int) (by omega) (by omega)
        cases e
        simp only [Int.toNat_natCast] at hx0 hx1 hx2
        rw [show rd_TValue F (k : Int) = F.getD k zValue from rfl] at hx0 hx1 hx2
        have HY := Aside0.mk (H4.out _ (getD_in zValue (by omega : k < F.length)))
        have HYW := Aside0.mk (HWF.out _ (getD_in zValue (by omega : k < F.length)))
        have HSN := Aside0.mk (valsL_snoc F k (by omega))
        have hyl := bytesV_len HYW.out HY.out
        generalize F.getD k zValue = y at *
        obtain ⟨pre, hpre⟩ : ∃ pre, P0 ++ valsL (F.take k) = pre := ⟨_, rfl⟩
        rw [hpre] at HO hlen
        have HPRE := Aside0.mk hpre
        clear hpre hFl
        go_wp2_with (first
          | (go_at_call 26; refine (value_Put.told y _ HYW.out HY.out (if_pos rfl)).mono ?_; rintro e w2 ⟨v7, rfl, ho7, hb7⟩; obtain ⟨A7, c7, rfl, hc7, hr7⟩ := Own8.reads ho7; have HR7 := Aside0.mk hr7; have hbw := below_alloc (Below.refl wr.heap.size wr) (.cells #[.int .i64 y.f0, .int .i64 y.f1, .string y.f2] 37); have HO7 := Aside0.mk (HO.out.below (below_step hbw hb7)); have HB7 := Aside0.mk (below_step HB.out (below_step hbw hb7)); clear ho7 hr7 hb7 hbw)
          | ((with_reducible refine gate_builtin (b := .append) (xs := #[.tmp 44, .tmp 45]) rfl ?_); at_builtin; refine app8 (w0 := w) w.heap.size rfl _ _ 27 5 rfl Try.underlying27 info5 u4 pre (bytesV y) A7 _ c7 rfl rfl HO7.out HR7.out HB7.out (below_size HB7.out) (by omega) ?_; intro v8 w8 ho8 hb8 hg8; have HO8 := Aside0.mk ho8; have HB8 := Aside0.mk hb8; clear ho8 hb8 hg8))
        have HPN : Aside0 (P0 ++ valsL (F.take (k + 1)) = pre ++ bytesV y) := ⟨by rw [HSN.out, ← List.append_assoc, HPRE.out]⟩
        have hk1 : k + 1 ≤ F.length := by have := HLN.out; omega
        go_roundw
        case rel => exact ⟨k + 1, by go_num, hk1, by rw [HPN.out]; exact HO8.out, HB8.out, by rw [HPN.out, List.length_append]; omega⟩
        case measure => simp [intOf]; omega
      · have hk3 : k = F.length := by omega
        have hfin := HO.out
        rw [hk3, List.take_length, HP2.out] at hfin
        have HFIN := Aside0.mk hfin
        clear hfin hk3 hFl
        go_wp2
        go_ret2
        exact ⟨_, rfl, HFIN.out, HB.out⟩
end Go.Proofs.Ytandlemjjlamoaa.P

namespace Go.Proofs.Ytandlemjjlamoaa.P
open Go.RowKit Go.Proofs.YtandlemjjlamoaaW.PrintWords Go.Proofs.YtandlemjjlamoaaW.PrintLast Go.Proofs.YtandlemjjlamoaaW.PrintMore
attribute [local go_sem] max2_int min2_int max_two min_two max_three min_three max_four min_four   -- for this text's walks alone
set_option linter.unusedVariables false
set_option linter.unusedSimpArgs false
def le_Get.l0 : Nat → List Int → Int → Int → Int → Option (Int × Int × Bool)
  | 0, _, _, _, _ => none
  | k + 1, x0, x5, x10, x11 => if x11 < x10 then (if 0 ≤ x11 then (if x11 < (x0.length : Int) then (if 0 ≤ (wrap64 (7 * x11)) then (if (IntKind.u64.wrap (rd x0 x11)) ≥ 128 then (le_Get.l0 k x0 (Go.bits .or .u64 x5 (shl .u64 (Go.bits .andNot .u64 (IntKind.u64.wrap (rd x0 x11)) 128) (wrap64 (7 * x11)))) x10 (wrap64 (x11 + 1))) else (if x11 > 0 then (if (IntKind.u64.wrap (rd x0 x11)) = 0 then (some (0, 0, false)) else (if x11 = 9 then (if (IntKind.u64.wrap (rd x0 x11)) > 1 then (some (0, 0, false)) else (some (Go.bits .or .u64 x5 (shl .u64 (Go.bits .andNot .u64 (IntKind.u64.wrap (rd x0 x11)) 128) (wrap64 (7 * x11))), wrap64 (x11 + 1), true))) else (some (Go.bits .or .u64 x5 (shl .u64 (Go.bits .andNot .u64 (IntKind.u64.wrap (rd x0 x11)) 128) (wrap64 (7 * x11))), wrap64 (x11 + 1), true)))) else (if x11 = 9 then (if (IntKind.u64.wrap (rd x0 x11)) > 1 then (some (0, 0, false)) else (some (Go.bits .or .u64 x5 (shl .u64 (Go.bits .andNot .u64 (IntKind.u64.wrap (rd x0 x11)) 128) (wrap64 (7 * x11))), wrap64 (x11 + 1), true))) else (some (Go.bits .or .u64 x5 (shl .u64 (Go.bits .andNot .u64 (IntKind.u64.wrap (rd x0 x11)) 128) (wrap64 (7 * x11))), wrap64 (x11 + 1), true))))) else (none)) else (none)) else (none)) else (some (0, 0, false))
def le_Get.f (k : Nat) (l0 : List Int) : Option (Int × Int × Bool) := le_Get.l0 k l0 0 (mn (l0.length : Int) 10) 0
set_option maxHeartbeats 8000000 in
set_option maxRecDepth 100000 in
theorem le_Get.calls (k : Nat) (A0 : Option Addr) (c0 : Nat) (l0 : List Int) (r1 : Int) (r2 : Int) (r3 : Bool) (w : World) (hr0 : Kd.C (Kd.int .u8) w A0 l0.length l0) (hc0 : l0.length ≤ c0) (h : le_Get.f k l0 = some (r1, r2, r3)) :
    Calls Try.prog 28 #[.slice A0 l0.length c0] w fun e w' => e = .returned (.tuple #[.int .u64 r1, .int .i64 r2, .bool r3]) ∧ Below w.heap.size w w' := by
  have HR0 := Aside0.mk hr0
  have HC0 := Aside0.mk hc0
  clear hr0 hc0
  have HB := Aside0.mk (Below.refl w.heap.size w)
  have H : (le_Get.l0 k l0 0 (mn (l0.length : Int) 10) 0) = some (r1, r2, r3) := h
  clear h
  obtain ⟨ji2, hji2⟩ : ∃ j_ : Int, (mn (l0.length : Int) 10) = j_ := ⟨_, rfl⟩
  replace H : (le_Get.l0 k l0 0 ji2 0) = some (r1, r2, r3) := by first | (rw [hji2] at H; exact H) | (simp only [hji2] at H ⊢; exact H)
  (try (have hji2h : ji2 ≤ 10 := by (rw [← hji2]; unfold mn; (repeat' split) <;> omega)))
  (try (have hji2g : ji2 ≤ 64 := by omega))
  (try (have hji2l : 0 ≤ ji2 := by (rw [← hji2]; unfold mn; (repeat' split) <;> omega)))
  (try (have hji2m : 0 ≤ ji2 := by omega))
  have hji2_ : (if 10 < (l0.length : Int) then 10 else (l0.length : Int)) = ji2 := hji2
  have H' := Aside0.mk H
  clear H
  go_enter Try.func28, Try.ntmps28
  go_wp2
  go_loopg [5, 11] k (fun kq v5 v11 w' => ∃ (x5_1 : Int) (x11_1 : Int), v5 = .int .u64 x5_1 ∧ v11 = .int .i64 x11_1 ∧ Aside0 (le_Get.l0 kq l0 x5_1 ji2 x11_1 = some (r1, r2, r3)) ∧ Aside0 (kq ≤ k) ∧ Aside0 (Below w.heap.size w w'))
  case atStart => exact ⟨(0), (0), (by first | rfl | (simp; done) | (simp [*]; done)), (by first | rfl | (simp; done) | (simp [*]; done)), H', ⟨Nat.le_refl _⟩, ⟨by repeat (first | (with_reducible first | exact HB.out | apply below_alloc | apply pw_below_drewN | apply below_drew1) | exact HB.out)⟩⟩
  case round =>
    clear H'
    try clear c2
    try clear p2
    obtain ⟨x5_1, x11_1, rfl, rfl, HA, HK1, HB⟩ := hrel
    cases gk with
    | zero => exact absurd HA.out (by simp [le_Get.l0])
    | succ k1 =>
      have H := HA.out
      clear HA
      simp only [le_Get.l0] at H
      by_cases c3 : x11_1 < ji2
      · rw [if_pos c3] at H
        have c3b0 : decide (x11_1 < ji2) = true := decide_eq_true c3
        clear c3
        by_cases c4 : 0 ≤ x11_1
        · rw [if_pos c4] at H
          have c4b0 : decide (0 ≤ x11_1) = true := decide_eq_true c4
          clear c4
          by_cases c5 : x11_1 < (l0.length : Int)
          · rw [if_pos c5] at H
            have c5b0 : decide (x11_1 < (l0.length : Int)) = true := decide_eq_true c5
            clear c5
            obtain ⟨ji6, hji6⟩ : ∃ j_ : Int, (wrap64 (7 * x11_1)) = j_ := ⟨_, rfl⟩
            replace H : (if 0 ≤ (ji6) then (if (IntKind.u64.wrap (rd l0 x11_1)) ≥ 128 then (le_Get.l0 k1 l0 (Go.bits .or .u64 x5_1 (shl .u64 (Go.bits .andNot .u64 (IntKind.u64.wrap (rd l0 x11_1)) 128) (ji6))) ji2 (wrap64 (x11_1 + 1))) else (if x11_1 > 0 then (if (IntKind.u64.wrap (rd l0 x11_1)) = 0 then (some (0, 0, false)) else (if x11_1 = 9 then (if (IntKind.u64.wrap (rd l0 x11_1)) > 1 then (some (0, 0, false)) else (some (Go.bits .or .u64 x5_1 (shl .u64 (Go.bits .andNot .u64 (IntKind.u64.wrap (rd l0 x11_1)) 128) (ji6)), wrap64 (x11_1 + 1), true))) else (some (Go.bits .or .u64 x5_1 (shl .u64 (Go.bits .andNot .u64 (IntKind.u64.wrap (rd l0 x11_1)) 128) (ji6)), wrap64 (x11_1 + 1), true)))) else (if x11_1 = 9 then (if (IntKind.u64.wrap (rd l0 x11_1)) > 1 then (some (0, 0, false)) else (some (Go.bits .or .u64 x5_1 (shl .u64 (Go.bits .andNot .u64 (IntKind.u64.wrap (rd l0 x11_1)) 128) (ji6)), wrap64 (x11_1 + 1), true))) else (some (Go.bits .or .u64 x5_1 (shl .u64 (Go.bits .andNot .u64 (IntKind.u64.wrap (rd l0 x11_1)) 128) (ji6)), wrap64 (x11_1 + 1), true))))) else (none)) = some (r1, r2, r3) := by first | (rw [hji6] at H; exact H) | (simp only [hji6] at H ⊢; exact H)
            have hji6w : (IntKind.i64.wrap (7 * x11_1)) = ji6 := (i64_w _).trans hji6
            by_cases c7 : 0 ≤ (ji6)
            · rw [if_pos c7] at H
              have c7b0 := eq_true c7
              have c7b1 : decide (0 ≤ (ji6)) = true := decide_eq_true c7
              clear c7
              obtain ⟨ji8, hji8⟩ : ∃ j_ : Int, (shl .u64 (Go.bits .andNot .u64 (IntKind.u64.wrap (rd l0 x11_1)) 128) (ji6)) = j_ := ⟨_, rfl⟩
              replace H : (if (IntKind.u64.wrap (rd l0 x11_1)) ≥ 128 then (le_Get.l0 k1 l0 (Go.bits .or .u64 x5_1 (ji8)) ji2 (wrap64 (x11_1 + 1))) else (if x11_1 > 0 then (if (IntKind.u64.wrap (rd l0 x11_1)) = 0 then (some (0, 0, false)) else (if x11_1 = 9 then (if (IntKind.u64.wrap (rd l0 x11_1)) > 1 then (some (0, 0, false)) else (some (Go.bits .or .u64 x5_1 (ji8), wrap64 (x11_1 + 1), true))) else (some (Go.bits .or .u64 x5_1 (ji8), wrap64 (x11_1 + 1), true)))) else (if x11_1 = 9 then (if (IntKind.u64.wrap (rd l0 x11_1)) > 1 then (some (0, 0, false)) else (some (Go.bits .or .u64 x5_1 (ji8), wrap64 (x11_1 + 1), true))) else (some (Go.bits .or .u64 x5_1 (ji8), wrap64 (x11_1 + 1), true))))) = some (r1, r2, r3) := by first | (rw [hji8] at H; exact H) | (simp only [hji8] at H ⊢; exact H)
              have hji8_ : (IntKind.u64.wrap ((Go.bits .andNot .u64 (IntKind.u64.wrap (rd l0 x11_1)) 128) * 2 ^ min (ji6).toNat 64)) = ji8 := hji8
              have hji8z : (ji6) ≤ 64 → (IntKind.u64.wrap ((Go.bits .andNot .u64 (IntKind.u64.wrap (rd l0 x11_1)) 128) * 2 ^ (ji6).toNat)) = ji8 := shl_small hji8
              by_cases c9 : (IntKind.u64.wrap (rd l0 x11_1)) ≥ 128
              · rw [if_pos c9] at H
                have c9b0 : decide (128 ≤ (IntKind.u64.wrap (rd l0 x11_1))) = true := decide_eq_true c9
                clear c9
                have H' := Aside0.mk H
                clear H
                have p101 : 0 ≤ (x11_1 : Int) := of_decide_eq_true (by first | (with_reducible assumption) | assumption)
                have q101 : x11_1 < (l0.length : Int) := of_decide_eq_true (by first | (with_reducible assumption) | assumption)
                obtain ⟨ad101, e101, hx101_0⟩ := Kd.at_int HR0.out x11_1 p101 q101
                cases e101
                replace hx101_0 := (HB.out.cell (World.block_lt_of_cell? w _ hx101_0)).trans hx101_0
                replace p101 := eq_true p101
                replace q101 := eq_true q101
                go_wp2
                go_roundg k1
                case measure => have := HK1.out; omega
                case rel => exact ⟨(Go.bits .or .u64 x5_1 (ji8)), (wrap64 (x11_1 + 1)), (by first | rfl | (simp; done) | (simp only [← hji8] <;> (first | rfl | simp)) | (simp [*]; done)), (by first | rfl | (simp; done) | (simp [*]; done)), H', ⟨by have := HK1.out; omega⟩, ⟨by repeat (first | (with_reducible first | exact HB.out | apply below_alloc | apply pw_below_drewN | apply below_drew1) | exact HB.out)⟩⟩
              · rw [if_neg c9] at H
                have c9b0 : decide (128 ≤ (IntKind.u64.wrap (rd l0 x11_1))) = false := decide_eq_false c9
                clear c9
                by_cases c10 : x11_1 > 0
                · rw [if_pos c10] at H
                  have c10b0 : decide (0 < x11_1) = true := decide_eq_true c10
                  clear c10
                  by_cases c11 : (IntKind.u64.wrap (rd l0 x11_1)) = 0
                  · rw [if_pos c11] at H
                    have c11b0 : ((IntKind.u64.wrap (rd l0 x11_1)) == 0) = true := beq_iff_eq.mpr c11
                    have c11b1 : ((IntKind.u64.wrap (rd l0 x11_1)) != 0) = false := bne_eq_false_iff_eq.mpr c11
                    clear c11
                    simp only [Option.some.injEq, Prod.mk.injEq] at H
                    obtain ⟨rfl, rfl, rfl⟩ := H
                    have p101 : 0 ≤ (x11_1 : Int) := of_decide_eq_true (by first | (with_reducible assumption) | assumption)
                    have q101 : x11_1 < (l0.length : Int) := of_decide_eq_true (by first | (with_reducible assumption) | assumption)
                    obtain ⟨ad101, e101, hx101_0⟩ := Kd.at_int HR0.out x11_1 p101 q101
                    cases e101
                    replace hx101_0 := (HB.out.cell (World.block_lt_of_cell? w _ hx101_0)).trans hx101_0
                    replace p101 := eq_true p101
                    replace q101 := eq_true q101
                    go_wp2
                    go_ret3
                    exact ⟨by first | rfl | (simp [errW_none, errW_some] <;> rfl) | (simp only [← hji2, ← hji6, ← hji8]; first | rfl | (simp [errW_none, errW_some] <;> rfl)) | (simp [*, errW_none, errW_some] <;> rfl), by repeat (first | (with_reducible first | exact HB.out | apply below_alloc | apply pw_below_drewN | apply below_drew1) | exact HB.out)⟩
                  · rw [if_neg c11] at H
                    have c11b0 : ((IntKind.u64.wrap (rd l0 x11_1)) == 0) = false := beq_eq_false_iff_ne.mpr c11
                    have c11b1 : ((IntKind.u64.wrap (rd l0 x11_1)) != 0) = true := bne_iff_ne.mpr c11
                    by_cases c12 : x11_1 = 9
                    · rw [if_pos c12] at H
                      have c12b0 : (x11_1 == 9) = true := beq_iff_eq.mpr c12
                      have c12b1 : (x11_1 != 9) = false := bne_eq_false_iff_eq.mpr c12
                      clear c12
                      by_cases c13 : (IntKind.u64.wrap (rd l0 x11_1)) > 1
                      · rw [if_pos c13] at H
                        have c13b0 : decide (1 < (IntKind.u64.wrap (rd l0 x11_1))) = true := decide_eq_true c13
                        clear c13
                        simp only [Option.some.injEq, Prod.mk.injEq] at H
                        obtain ⟨rfl, rfl, rfl⟩ := H
                        have p101 : 0 ≤ (x11_1 : Int) := of_decide_eq_true (by first | (with_reducible assumption) | assumption)
                        have q101 : x11_1 < (l0.length : Int) := of_decide_eq_true (by first | (with_reducible assumption) | assumption)
                        obtain ⟨ad101, e101, hx101_0⟩ := Kd.at_int HR0.out x11_1 p101 q101
                        cases e101
                        replace hx101_0 := (HB.out.cell (World.block_lt_of_cell? w _ hx101_0)).trans hx101_0
                        replace p101 := eq_true p101
                        replace q101 := eq_true q101
                        go_wp2
                        go_ret3
                        exact ⟨by first | rfl | (simp [errW_none, errW_some] <;> rfl) | (simp only [← hji2, ← hji6, ← hji8]; first | rfl | (simp [errW_none, errW_some] <;> rfl)) | (simp [*, errW_none, errW_some] <;> rfl), by repeat (first | (with_reducible first | exact HB.out | apply below_alloc | apply pw_below_drewN | apply below_drew1) | exact HB.out)⟩
                      · rw [if_neg c13] at H
                        have c13b0 : decide (1 < (IntKind.u64.wrap (rd l0 x11_1))) = false := decide_eq_false c13
                        clear c13
                        simp only [Option.some.injEq, Prod.mk.injEq] at H
                        obtain ⟨rfl, rfl, rfl⟩ := H
                        have p101 : 0 ≤ (x11_1 : Int) := of_decide_eq_true (by first | (with_reducible assumption) | assumption)
                        have q101 : x11_1 < (l0.length : Int) := of_decide_eq_true (by first | (with_reducible assumption) | assumption)
                        obtain ⟨ad101, e101, hx101_0⟩ := Kd.at_int HR0.out x11_1 p101 q101
                        cases e101
                        replace hx101_0 := (HB.out.cell (World.block_lt_of_cell? w _ hx101_0)).trans hx101_0
                        replace p101 := eq_true p101
                        replace q101 := eq_true q101
                        go_wp2
                        go_ret3
                        exact ⟨by first | rfl | (simp [errW_none, errW_some] <;> rfl) | (simp only [← hji2, ← hji6, ← hji8]; first | rfl | (simp [errW_none, errW_some] <;> rfl)) | (simp [*, errW_none, errW_some] <;> rfl), by repeat (first | (with_reducible first | exact HB.out | apply below_alloc | apply pw_below_drewN | apply below_drew1) | exact HB.out)⟩
                    · rw [if_neg c12] at H
                      have c12b0 : (x11_1 == 9) = false := beq_eq_false_iff_ne.mpr c12
                      have c12b1 : (x11_1 != 9) = true := bne_iff_ne.mpr c12
                      simp only [Option.some.injEq, Prod.mk.injEq] at H
                      obtain ⟨rfl, rfl, rfl⟩ := H
                      have p101 : 0 ≤ (x11_1 : Int) := of_decide_eq_true (by first | (with_reducible assumption) | assumption)
                      have q101 : x11_1 < (l0.length : Int) := of_decide_eq_true (by first | (with_reducible assumption) | assumption)
                      obtain ⟨ad101, e101, hx101_0⟩ := Kd.at_int HR0.out x11_1 p101 q101
                      cases e101
                      replace hx101_0 := (HB.out.cell (World.block_lt_of_cell? w _ hx101_0)).trans hx101_0
                      replace p101 := eq_true p101
                      replace q101 := eq_true q101
                      go_wp2
                      go_ret3
                      exact ⟨by first | rfl | (simp [errW_none, errW_some] <;> rfl) | (simp only [← hji2, ← hji6, ← hji8]; first | rfl | (simp [errW_none, errW_some] <;> rfl)) | (simp [*, errW_none, errW_some] <;> rfl), by repeat (first | (with_reducible first | exact HB.out | apply below_alloc | apply pw_below_drewN | apply below_drew1) | exact HB.out)⟩
                · rw [if_neg c10] at H
                  have c10b0 : decide (0 < x11_1) = false := decide_eq_false c10
                  clear c10
                  by_cases c14 : x11_1 = 9
                  · rw [if_pos c14] at H
                    have c14b0 : (x11_1 == 9) = true := beq_iff_eq.mpr c14
                    have c14b1 : (x11_1 != 9) = false := bne_eq_false_iff_eq.mpr c14
                    clear c14
                    by_cases c15 : (IntKind.u64.wrap (rd l0 x11_1)) > 1
                    · rw [if_pos c15] at H
                      have c15b0 : decide (1 < (IntKind.u64.wrap (rd l0 x11_1))) = true := decide_eq_true c15
                      clear c15
                      simp only [Option.some.injEq, Prod.mk.injEq] at H
                      obtain ⟨rfl, rfl, rfl⟩ := H
                      have p101 : 0 ≤ (x11_1 : Int) := of_decide_eq_true (by first | (with_reducible assumption) | assumption)
                      have q101 : x11_1 < (l0.length : Int) := of_decide_eq_true (by first | (with_reducible assumption) | assumption)
                      obtain ⟨ad101, e101, hx101_0⟩ := Kd.at_int HR0.out x11_1 p101 q101
                      cases e101
                      replace hx101_0 := (HB.out.cell (World.block_lt_of_cell? w _ hx101_0)).trans hx101_0
                      replace p101 := eq_true p101
                      replace q101 := eq_true q101
                      go_wp2
                      go_ret3
                      exact ⟨by first | rfl | (simp [errW_none, errW_some] <;> rfl) | (simp only [← hji2, ← hji6, ← hji8]; first | rfl | (simp [errW_none, errW_some] <;> rfl)) | (simp [*, errW_none, errW_some] <;> rfl), by repeat (first | (with_reducible first | exact HB.out | apply below_alloc | apply pw_below_drewN | apply below_drew1) | exact HB.out)⟩
                    · rw [if_neg c15] at H
                      have c15b0 : decide (1 < (IntKind.u64.wrap (rd l0 x11_1))) = false := decide_eq_false c15
                      clear c15
                      simp only [Option.some.injEq, Prod.mk.injEq] at H
                      obtain ⟨rfl, rfl, rfl⟩ := H
                      have p101 : 0 ≤ (x11_1 : Int) := of_decide_eq_true (by first | (with_reducible assumption) | assumption)
                      have q101 : x11_1 < (l0.length : Int) := of_decide_eq_true (by first | (with_reducible assumption) | assumption)
                      obtain ⟨ad101, e101, hx101_0⟩ := Kd.at_int HR0.out x11_1 p101 q101
                      cases e101
                      replace hx101_0 := (HB.out.cell (World.block_lt_of_cell? w _ hx101_0)).trans hx101_0
                      replace p101 := eq_true p101
                      replace q101 := eq_true q101
                      go_wp2
                      go_ret3
                      exact ⟨by first | rfl | (simp [errW_none, errW_some] <;> rfl) | (simp only [← hji2, ← hji6, ← hji8]; first | rfl | (simp [errW_none, errW_some] <;> rfl)) | (simp [*, errW_none, errW_some] <;> rfl), by repeat (first | (with_reducible first | exact HB.out | apply below_alloc | apply pw_below_drewN | apply below_drew1) | exact HB.out)⟩
                  · rw [if_neg c14] at H
                    have c14b0 : (x11_1 == 9) = false := beq_eq_false_iff_ne.mpr c14
                    have c14b1 : (x11_1 != 9) = true := bne_iff_ne.mpr c14
                    simp only [Option.some.injEq, Prod.mk.injEq] at H
                    obtain ⟨rfl, rfl, rfl⟩ := H
                    have p101 : 0 ≤ (x11_1 : Int) := of_decide_eq_true (by first | (with_reducible assumption) | assumption)
                    have q101 : x11_1 < (l0.length : Int) := of_decide_eq_true (by first | (with_reducible assumption) | assumption)
                    obtain ⟨ad101, e101, hx101_0⟩ := Kd.at_int HR0.out x11_1 p101 q101
                    cases e101
                    replace hx101_0 := (HB.out.cell (World.block_lt_of_cell? w _ hx101_0)).trans hx101_0
                    replace p101 := eq_true p101
                    replace q101 := eq_true q101
                    go_wp2
                    go_ret3
                    exact ⟨by first | rfl | (simp [errW_none, errW_some] <;> rfl) | (simp only [← hji2, ← hji6, ← hji8]; first | rfl | (simp [errW_none, errW_some] <;> rfl)) | (simp [*, errW_none, errW_some] <;> rfl), by repeat (first | (with_reducible first | exact HB.out | apply below_alloc | apply pw_below_drewN | apply below_drew1) | exact HB.out)⟩
            · rw [if_neg c7] at H
              exact absurd H (by simp)
          · rw [if_neg c5] at H
            exact absurd H (by simp)
        · rw [if_neg c4] at H
          exact absurd H (by simp)
      · rw [if_neg c3] at H
        have c3b0 : decide (x11_1 < ji2) = false := decide_eq_false c3
        clear c3
        simp only [Option.some.injEq, Prod.mk.injEq] at H
        obtain ⟨rfl, rfl, rfl⟩ := H
        go_wp2
        go_ret3
        exact ⟨by first | rfl | (simp [errW_none, errW_some] <;> rfl) | (simp only [← hji2]; first | rfl | (simp [errW_none, errW_some] <;> rfl)) | (simp [*, errW_none, errW_some] <;> rfl), by repeat (first | (with_reducible first | exact HB.out | apply below_alloc | apply pw_below_drewN | apply below_drew1) | exact HB.out)⟩
theorem u64_small {n : Nat} (h : n < 18446744073709551616) : IntKind.wrap .u64 (n : Int) = (n : Int) := by simp [IntKind.wrap, IntKind.bits, IntKind.signed]; omega
theorem or_nat {a b : Nat} (ha : a < 18446744073709551616) (hb : b < 18446744073709551616) : Go.bits .or .u64 (a : Int) (b : Int) = ((a ||| b : Nat) : Int) := by
  have e1 : (BitVec.ofInt 64 (a : Int)).toNat = a := by rw [BitVec.ofInt_natCast, BitVec.toNat_ofNat, Nat.mod_eq_of_lt ha]
  have e2 : (BitVec.ofInt 64 (b : Int)).toNat = b := by rw [BitVec.ofInt_natCast, BitVec.toNat_ofNat, Nat.mod_eq_of_lt hb]
  show IntKind.wrap .u64 (((BitVec.ofInt 64 (a : Int) ||| BitVec.ofInt 64 (b : Int)).toNat : Nat) : Int) = _
  rw [BitVec.toNat_or, e1, e2]
  exact u64_small (Nat.or_lt_two_pow (n := 64) ha hb)
theorem or_sum {a x s : Nat} (ha : a < 2 ^ s) (hx : x * 2 ^ s < 18446744073709551616) (hs : s < 64) : Go.bits .or .u64 (a : Int) ((x * 2 ^ s : Nat) : Int) = ((a + x * 2 ^ s : Nat) : Int) := by
  have h64 : 2 ^ s < 2 ^ 64 := Nat.pow_lt_pow_right (by decide) hs
  rw [or_nat (by have : (2:Nat) ^ 64 = 18446744073709551616 := by decide
                 omega) hx]
  congr 1
  rw [Nat.or_comm, ← Nat.shiftLeft_eq, ← Nat.shiftLeft_add_eq_or_of_lt ha, Nat.add_comm]
theorem low_seven {c : Nat} (h : c < 256) : Go.bits .andNot .u64 (IntKind.wrap .u64 (c : Int)) 128 = ((c % 128 : Nat) : Int) := by
  have h0 : ∀ b : Fin 256, Go.bits .andNot .u64 (IntKind.wrap .u64 ((b.val : Nat) : Int)) 128 = ((b.val % 128 : Nat) : Int) := by decide +kernel
  exact h0 ⟨c, h⟩
theorem shl_nat {x s : Nat} (hs : s < 64) (h : x * 2 ^ s < 18446744073709551616) : shl .u64 (x : Int) (s : Int) = ((x * 2 ^ s : Nat) : Int) := by
  unfold shl
  rw [Int.toNat_natCast, Nat.min_eq_left (show s ≤ IntKind.bits .u64 from by show s ≤ 64; omega)]
  rw [show (x : Int) * 2 ^ s = ((x * 2 ^ s : Nat) : Int) from by push_cast; rfl]
  exact u64_small h
theorem le_Get_loop (l : List Int) (hl : ∀ c ∈ l, 0 ≤ c ∧ c < 256) (hlen : l.length < 4611686018427387904) : ∀ (d i k : Nat) (acc : Int) (a : Nat), i + d = 10 → d < k → i ≤ l.length → (i ≤ 9 → acc = (a : Int) ∧ a < 128 ^ i) →
    le_Get.l0 k l acc (mn (l.length : Int) 10) (i : Int) = some (tellN (getNAux i a (l.drop i))) := by
  have hmn : mn (l.length : Int) 10 = ((min l.length 10 : Nat) : Int) := by unfold mn; split <;> omega
  rw [hmn]
  intro d
  induction d with
  | zero =>
    intro i k acc a hi hk hil _
    obtain ⟨k, rfl⟩ := rounds_of hk
    simp only [le_Get.l0]
    rw [if_neg (by omega), getNAux_late _ _ (by omega)]
    rfl
  | succ d ih =>
    intro i k acc a hi hk hil hA
    obtain ⟨k, rfl⟩ := rounds_of hk
    obtain ⟨rfl, ha⟩ := hA (by omega)
    simp only [le_Get.l0]
    by_cases h : i < l.length
    · have hc := hl (l.getD i 0) (by simp [List.getD, h])
      have hd : l.drop i = l.getD i 0 :: l.drop (i + 1) := by rw [List.drop_eq_getElem_cons h]; simp [List.getD, h]
      rw [if_pos (by omega), if_pos (by omega), if_pos (by omega), show rd l (i : Int) = l.getD i 0 from by simp [rd], hd]
      have ew : wrap64 (7 * (i : Int)) = ((7 * i : Nat) : Int) := by unfold wrap64; omega
      rw [ew, if_pos (by omega), wrap_succ (by omega)]
      obtain ⟨c, hce⟩ := Int.eq_ofNat_of_zero_le hc.1
      rw [hce] at hc ⊢
      have hc2 : c < 256 := by omega
      rw [low_seven hc2, u64_small (show c < 18446744073709551616 from by omega)]
      have hp : (2 : Nat) ^ (7 * i) = 128 ^ i := by rw [Nat.pow_mul]
      have hG : getNAux i a (((c : Nat) : Int) :: l.drop (i + 1)) = if 128 ≤ ((c : Nat) : Int) then getNAux (i + 1) (a + ((c : Nat) : Int).toNat % 128 * 128 ^ i) (l.drop (i + 1)) else if (0 < i ∧ ((c : Nat) : Int) = 0) ∨ (i = 9 ∧ 1 < ((c : Nat) : Int)) then none else some (a + ((c : Nat) : Int).toNat * 128 ^ i, i + 1) := by
        rw [getNAux, if_neg (by omega)]
      rw [hG]
      have hpl : 128 ^ i ≤ 128 ^ 9 := Nat.pow_le_pow_right (by decide) (by omega)
      have h9 : (128 : Nat) ^ 9 = 9223372036854775808 := by decide
      have hsum : ∀ x : Nat, x * 128 ^ i < 18446744073709551616 → Go.bits .or .u64 (a : Int) (shl .u64 (x : Int) ((7 * i : Nat) : Int)) = ((a + x * 128 ^ i : Nat) : Int) := by
        intro x hx
        rw [shl_nat (by omega) (by rw [hp]; exact hx), or_sum (by rw [hp]; exact ha) (by rw [hp]; exact hx) (by omega), hp]
      by_cases h128 : (c : Int) ≥ 128
      · rw [if_pos h128, if_pos (show (128 : Int) ≤ ((c : Nat) : Int) from h128)]
        refine ih (i + 1) k _ (a + ((c : Nat) : Int).toNat % 128 * 128 ^ i) (by omega) (by omega) (by omega) (fun h8 => ?_)
        have hpl8 : 128 ^ i ≤ 128 ^ 8 := Nat.pow_le_pow_right (by decide) (by omega)
        have h88 : (128 : Nat) ^ 8 = 72057594037927936 := by decide
        have hx : c % 128 * 128 ^ i ≤ 127 * 128 ^ i := Nat.mul_le_mul_right _ (by omega)
        rw [hsum _ (by omega)]
        refine ⟨rfl, ?_⟩
        show a + c % 128 * 128 ^ i < 128 ^ (i + 1)
        rw [Nat.pow_succ]
        omega
      · have hcm : c % 128 = c := Nat.mod_eq_of_lt (by omega)
        rw [if_neg h128, if_neg (show ¬ (128 : Int) ≤ ((c : Nat) : Int) from h128), hcm]
        have hlow : ∀ (hx : c * 128 ^ i < 18446744073709551616), some (Go.bits .or .u64 (a : Int) (shl .u64 (c : Int) ((7 * i : Nat) : Int)), ((i + 1 : Nat) : Int), true) = some (tellN (some (a + ((c : Nat) : Int).toNat * 128 ^ i, i + 1))) := by
          intro hx
          rw [hsum _ hx]
          rfl
        have hsmall : i ≠ 9 → c * 128 ^ i < 18446744073709551616 := by
          intro h8
          have hpl8 : 128 ^ i ≤ 128 ^ 8 := Nat.pow_le_pow_right (by decide) (by omega)
          have h88 : (128 : Nat) ^ 8 = 72057594037927936 := by decide
          have hx : c * 128 ^ i ≤ 127 * 128 ^ i := Nat.mul_le_mul_right _ (by omega)
          omega
        have hone : c ≤ 1 → c * 128 ^ i < 18446744073709551616 := by
          intro h1
          have hx : c * 128 ^ i ≤ 1 * 128 ^ i := Nat.mul_le_mul_right _ h1
          omega
        by_cases h0 : (i : Int) > 0
        · rw [if_pos h0]
          by_cases hc0 : (c : Int) = 0
          · rw [if_pos hc0, if_pos (.inl ⟨by omega, hc0⟩)]
            rfl
          · rw [if_neg hc0]
            by_cases hi9 : (i : Int) = 9
            · rw [if_pos hi9]
              by_cases hc1 : (c : Int) > 1
              · rw [if_pos hc1, if_pos (.inr ⟨by omega, hc1⟩)]
                rfl
              · rw [if_neg hc1, if_neg (by omega)]
                exact hlow (hone (by omega))
            · rw [if_neg hi9, if_neg (by omega)]
              exact hlow (hsmall (by omega))
        · rw [if_neg h0, if_neg (by omega), if_neg (by omega)]
          exact hlow (hsmall (by omega))
    · rw [if_neg (by omega), List.drop_of_length_le (by omega)]
      rfl
theorem le_Get_is (l : List Int) (hl : ∀ c ∈ l, 0 ≤ c ∧ c < 256) (hlen : l.length < 4611686018427387904) {k : Nat} (hk : 10 < k) : le_Get.f k l = some (tellN (getN l)) :=
  le_Get_loop l hl hlen 10 0 k 0 0 (by omega) (by omega) (by omega) (fun _ => ⟨rfl, by decide⟩)
theorem le_Get.told (A0 : Option Addr) (c0 : Nat) (l0 : List Int) (w : World) (hb : byteL l0) (hlen : l0.length < 4611686018427387904) (hr0 : Kd.C (Kd.int .u8) w A0 l0.length l0) (hc0 : l0.length ≤ c0) :
    Calls Try.prog 28 #[.slice A0 l0.length c0] w (getPost l0 w) := by
  have h := le_Get_is l0 hb hlen (k := 11) (by decide)
  cases hg : tellN (getN l0) with
  | mk n p =>
    obtain ⟨u, b⟩ := p
    rw [hg] at h
    refine (le_Get.calls 11 A0 c0 l0 n u b w hr0 hc0 h).mono ?_
    rintro e w' ⟨rfl, h3⟩
    unfold getPost
    rw [hg]
    exact ⟨rfl, h3⟩
theorem le_Get.yes (A0 : Option Addr) (c0 : Nat) (l0 : List Int) (w : World) {n u : Nat} (hg : getN l0 = some (n, u)) (hb : byteL l0) (hlen : l0.length < 4611686018427387904) (hr0 : Kd.C (Kd.int .u8) w A0 l0.length l0) (hc0 : l0.length ≤ c0) : Calls Try.prog 28 #[.slice A0 l0.length c0] w (numYes n u w) :=
  (le_Get.told A0 c0 l0 w hb hlen hr0 hc0).mono fun e w' h => by unfold getPost at h; rw [hg] at h; exact h
theorem le_Get.no (A0 : Option Addr) (c0 : Nat) (l0 : List Int) (w : World) (hg : getN l0 = none) (hb : byteL l0) (hlen : l0.length < 4611686018427387904) (hr0 : Kd.C (Kd.int .u8) w A0 l0.length l0) (hc0 : l0.length ≤ c0) : Calls Try.prog 28 #[.slice A0 l0.length c0] w (numNo w) :=
  (le_Get.told A0 c0 l0 w hb hlen hr0 hc0).mono fun e w' h => by unfold getPost at h; rw [hg] at h; exact h
end Go.Proofs.Ytandlemjjlamoaa.P

namespace Go.Proofs.Ytandlemjjlamoaa.P
open Go.RowKit Go.Proofs.YtandlemjjlamoaaW.PrintWords Go.Proofs.YtandlemjjlamoaaW.PrintLast Go.Proofs.YtandlemjjlamoaaW.PrintMore
attribute [local go_sem] max2_int min2_int max_two min_two max_three min_three max_four min_four   -- for this text's walks alone
set_option linter.unusedVariables false
set_option linter.unusedSimpArgs false
def le_Zag.f (a0 : Int) : Option (Int) := some (Go.bits .xor .i64 (wrap64 (a0 / 2)) (wrap64 (-(wrap64 (Go.bits .and .u64 a0 1)))))
set_option maxHeartbeats 8000000 in
set_option maxRecDepth 100000 in
theorem le_Zag.calls (a0 : Int) (r : Int) (w : World) (h : le_Zag.f a0 = some r) :
    Calls Try.prog 51 #[.int .u64 a0] w fun e w' => e = .returned (.int .i64 r) ∧ Drawn0 w w' := by
  have H : (some (Go.bits .xor .i64 (wrap64 (a0 / 2)) (wrap64 (-(wrap64 (Go.bits .and .u64 a0 1)))))) = some r := h
  clear h
  obtain rfl := Option.some.inj H
  go_enter Try.func51, Try.ntmps51
  go_wp2
  go_ret
  exact ⟨by first | rfl | (simp; done) | (simp [*]; done), by repeat (first | exact Drawn0.refl _ | apply Drawn0.step)⟩
theorem zag_is {m : Nat} (h : m < 18446744073709551616) : le_Zag.f (m : Int) = some (zagN m) := by
  unfold le_Zag.f zagN
  have hand : Go.bits .and .u64 (m : Int) 1 = ((m % 2 : Nat) : Int) := by
    show IntKind.wrap .u64 (((BitVec.ofInt 64 (m : Int) &&& BitVec.ofInt 64 1).toNat : Nat) : Int) = _
    rw [BitVec.toNat_and, ofInt_u64 (by omega) (by omega), show (BitVec.ofInt 64 1).toNat = 1 from by decide, Int.toNat_natCast, Nat.and_one_is_mod, wrap_u64]
    omega
  rw [hand]
  have e1 : wrap64 ((m : Int) / 2) = ((m / 2 : Nat) : Int) := by unfold wrap64; omega
  rw [e1]
  by_cases h2 : m % 2 = 0
  · rw [if_pos h2, h2, show wrap64 (-wrap64 ((0 : Nat) : Int)) = 0 from by unfold wrap64; decide]
    rw [xor_zeroI _ (by rw [ofInt_u64 (by omega) (by omega), wrap_i64]; unfold wrap64; omega)]
  · rw [if_neg h2, show m % 2 = 1 from by omega, show wrap64 (-wrap64 ((1 : Nat) : Int)) = -1 from by unfold wrap64; decide]
    show some (IntKind.wrap .i64 (((BitVec.ofInt 64 ((m / 2 : Nat) : Int) ^^^ BitVec.ofInt 64 (-1)).toNat : Nat) : Int)) = _
    rw [show BitVec.ofInt 64 (-1) = BitVec.allOnes 64 from by decide, not64, ofInt_u64 (by omega) (by omega), wrap_i64]
    congr 1
    unfold wrap64
    omega
end Go.Proofs.Ytandlemjjlamoaa.P

namespace Go.Proofs.Ytandlemjjlamoaa.P
open Go.RowKit Go.Proofs.YtandlemjjlamoaaW.PrintWords Go.Proofs.YtandlemjjlamoaaW.PrintLast Go.Proofs.YtandlemjjlamoaaW.PrintMore
attribute [local go_sem] max2_int min2_int max_two min_two max_three min_three max_four min_four   -- for this text's walks alone
set_option linter.unusedVariables false
set_option linter.unusedSimpArgs false
set_option maxHeartbeats 4000000 in
set_option maxRecDepth 100000 in
theorem value_Get.told (w : World) (A : Option Addr) (c : Nat) (l : List Int) (hr0 : Kd.C (Kd.int .u8) w A l.length l) (hc0 : l.length ≤ c) (hb : byteL l) (hl : l.length < 4611686018427387904) {x : SValue} {m : Nat} {b : Bool} (hq : gotV (getV l) = (x, m, b)) :
    Calls Try.prog 29 #[.slice A l.length c] w (valPost3 x m b w) := by
  have HR := Aside0.mk hr0
  have HC := Aside0.mk hc0
  clear hr0
  cases l with
  | nil =>
    obtain ⟨rfl, rfl, rfl⟩ : x = ⟨0, 0, ⟨#[]⟩⟩ ∧ m = 0 ∧ b = false := by
      have h : ((⟨0, 0, ⟨#[]⟩⟩ : SValue), 0, false) = (x, m, b) := hq
      simp only [Prod.mk.injEq] at h
      exact ⟨h.1.symm, h.2.1.symm, h.2.2.symm⟩
    clear hq hl
    show Calls _ _ #[.slice A 0 c] w _
    have HKr := Aside0.mk (blk_alloc (blk_new w (.cells #[.int .i64 0, .int .i64 0, .string ⟨#[]⟩] 37)) (.cells #[.int .i64 0, .int .i64 0, .string ⟨#[]⟩] 37))
    have HB := Aside0.mk (show Below w.heap.size w ((w.alloc (.cells #[.int .i64 0, .int .i64 0, .string ⟨#[]⟩] 37)).alloc (.cells #[.int .i64 0, .int .i64 0, .string ⟨#[]⟩] 37)) from below_alloc (below_alloc (Below.refl _ _) _) _)
    go_enter Try.func29, Try.ntmps29
    go_wp2
    exact bodyPost_ret (v := .tuple #[.agg #[.int .i64 0, .int .i64 0, .string ⟨#[]⟩], .int .i64 0, .bool false]) (by simp [results, Try.results29, go_sem]) rfl ⟨rfl, HB.out⟩
  | cons k r =>
    have hk := hb k (by simp)
    obtain ⟨hk0, hk1⟩ := hk
    have HBR := Aside0.mk (show byteL r from fun c hc => hb c (by simp [hc]))
    clear hb
    obtain ⟨i0, hi0, _, hsz0, _⟩ := info_parts info5
    obtain ⟨A1, hcut1, hD1, hlc1⟩ := drop_row (P := Try.prog) (d := Kd.int .u8) Try.underlying27 hi0 hsz0 A c (k :: r) 1 1 rfl (by simp) HC.out
    rw [List.drop_succ_cons, List.drop_zero] at hD1 hlc1
    simp only [List.drop_succ_cons, List.drop_zero] at hcut1
    have HD1 := Aside0.mk (hD1 w HR.out)
    have HL1 := Aside0.mk hlc1
    obtain ⟨ad, had, hx⟩ := Kd.at_int HR.out 0 (by omega) (by simp)
    subst had
    replace hx : w.cell? ad = some (.int .u8 k) := hx
    have HX := Aside0.mk hx
    have hlr : r.length + 1 < 4611686018427387904 := by simpa using hl
    have hln : (k :: r).length = r.length + 1 := rfl
    rw [hln] at hcut1 hc0 ⊢
    have HLN := Aside0.mk hln
    clear hD1 hlc1 hx hl hln
    have hw0 : IntKind.wrap .i64 k = k := IntWalk.i64_in _ (by omega)
    cases hg : getN r with
    | none =>
      obtain ⟨rfl, rfl, rfl⟩ : x = ⟨0, 0, ⟨#[]⟩⟩ ∧ m = 0 ∧ b = false := by
        have h : gotV (getV (k :: r)) = ((⟨0, 0, ⟨#[]⟩⟩ : SValue), 0, false) := by unfold getV; simp only [hg]; rfl
        rw [h] at hq
        simp only [Prod.mk.injEq] at hq
        exact ⟨hq.1.symm, hq.2.1.symm, hq.2.2.symm⟩
      have HG := Aside0.mk hg
      clear hg hq hw0
      go_enter Try.func29, Try.ntmps29
      go_wp2_with (go_at_call 28; refine (le_Get.no A1 _ r _ HG.out HBR.out (by omega) (Kd.C_below HD1.out (below_alloc (below_alloc (Below.refl _ _) _) _)) HL1.out).mono ?_; rintro e w1 ⟨rfl, hb1⟩; have HB1 := Aside0.mk (below_step (below_alloc (below_alloc (Below.refl _ _) _) _) hb1); have HKr1 := Aside0.mk (blk_below (blk_alloc (blk_new w (.cells #[.int .i64 0, .int .i64 0, .string ⟨#[]⟩] 37)) (.cells #[.int .i64 0, .int .i64 0, .string ⟨#[]⟩] 37)) hb1); obtain ⟨kr1, kr2, kr3, kr4⟩ := know HKr1.out; have HKn1 := Aside0.mk (blk_below (blk_new2 w (.cells #[.int .i64 0, .int .i64 0, .string ⟨#[]⟩] 37) (.cells #[.int .i64 0, .int .i64 0, .string ⟨#[]⟩] 37)) hb1); obtain ⟨kn1, kn2, kn3, kn4⟩ := know HKn1.out; clear hb1)
      have hz := blk_put3 HKr1.out (.int .i64 0) (.int .i64 0) (.string ⟨#[]⟩)
      have hbz := below_put3 HB1.out (Nat.le_refl _) (.int .i64 0) (.int .i64 0) (.string ⟨#[]⟩)
      generalize World.setCell (World.setCell (World.setCell _ _ _) _ _) _ _ = W3 at hz hbz ⊢
      have hz0 : W3.cell? ⟨w.heap.size, 0, none⟩ = some (.int .i64 0) := blk_cell hz 0
      have hz1 : W3.cell? ⟨w.heap.size, 1, none⟩ = some (.int .i64 0) := blk_cell hz 1
      have hz2 : W3.cell? ⟨w.heap.size, 2, none⟩ = some (.string ⟨#[]⟩) := blk_cell hz 2
      exact bodyPost_ret (v := .tuple #[.agg #[.int .i64 0, .int .i64 0, .string ⟨#[]⟩], .int .i64 0, .bool false]) (by simp [results, Try.results29, go_sem, hz0, hz1, hz2]) rfl ⟨rfl, hbz⟩
    | some p =>
      obtain ⟨n, u⟩ := p
      have hu := (getN_used hg).2
      have hnb : n < 18446744073709551616 := (getN_some HBR.out hg).1
      have HG := Aside0.mk hg
      by_cases hk3 : k = 0
      · subst hk3
        obtain ⟨rfl, rfl, rfl⟩ : x = ⟨0, zagN n, ⟨#[]⟩⟩ ∧ m = u + 1 ∧ b = true := by
          have h : gotV (getV (0 :: r)) = ((⟨0, zagN n, ⟨#[]⟩⟩ : SValue), u + 1, true) := by unfold getV; simp only [hg]; rfl
          rw [h] at hq
          simp only [Prod.mk.injEq] at hq
          exact ⟨hq.1.symm, hq.2.1.symm, hq.2.2.symm⟩
        have HZ := Aside0.mk (zag_is hnb)
        have HZB := Aside0.mk (zag_in hnb)
        have HM := Aside0.mk (show mayV ⟨0, zagN n, ⟨#[]⟩⟩ = true from mayV_iff.2 (.inl ⟨rfl, (by decide +kernel : (⟨#[]⟩ : ByteArray).toList = [])⟩))
        generalize zagN n = z at *
        clear hg hq hw0
        go_enter Try.func29, Try.ntmps29
        go_wp2_with (first
          | (go_at_call 28; refine (le_Get.yes A1 _ r _ HG.out HBR.out (by omega) (Kd.C_below HD1.out (below_alloc (below_alloc (Below.refl _ _) _) _)) HL1.out).mono ?_; rintro e w1 ⟨rfl, hb1⟩; have HB1 := Aside0.mk (below_step (below_alloc (below_alloc (Below.refl _ _) _) _) hb1); have HKr1 := Aside0.mk (blk_below (blk_alloc (blk_new w (.cells #[.int .i64 0, .int .i64 0, .string ⟨#[]⟩] 37)) (.cells #[.int .i64 0, .int .i64 0, .string ⟨#[]⟩] 37)) hb1); obtain ⟨kr1, kr2, kr3, kr4⟩ := know HKr1.out; have HKn1 := Aside0.mk (blk_below (blk_new2 w (.cells #[.int .i64 0, .int .i64 0, .string ⟨#[]⟩] 37) (.cells #[.int .i64 0, .int .i64 0, .string ⟨#[]⟩] 37)) hb1); obtain ⟨kn1, kn2, kn3, kn4⟩ := know HKn1.out; have hx1 := pw_cell_below HB1.out HX.out; clear hb1)
          | (go_at_call 51; refine (le_Zag.calls (n : Int) _ _ HZ.out).mono ?_; rintro e w2 ⟨rfl, hd2⟩; have hb2 := hd2.below; have HB2 := Aside0.mk (below_step (below_alloc HB1.out _) hb2); have HKr2 := Aside0.mk (blk_below (blk_alloc HKr1.out _) hb2); have HKv2 := Aside0.mk (blk_below (blk_new w1 (.cells #[.int .i64 0, .int .i64 0, .string ⟨#[]⟩] 37)) hb2); have hcv2 := cells_of HKv2.out; have hfv2 := frozen_of HKv2.out; clear hb2 hd2)
          | (go_at_call 35; refine (mayV_told ⟨0, z, ⟨#[]⟩⟩ _ HZB.out HM.out).mono ?_; rintro e w3 ⟨rfl, hb3⟩; have HB3 := Aside0.mk (below_step (below_set (j := 1) (v := Value.int .i64 z) (g := w1.heap.size) HB2.out (below_size HB1.out)) hb3); have HKr3 := Aside0.mk (blk_below (blk_far HKr2.out (p := ⟨w1.heap.size, 1, none⟩) (Nat.ne_of_lt (blk_lt HKr1.out)) (Value.int .i64 z)) hb3); have HKv3 := Aside0.mk (blk_below (blk_set HKv2.out 1 (Value.int .i64 z)) hb3); have hcr3 := cells_of HKr3.out; have hfr3 := frozen_of HKr3.out; have hcv3 := cells_of HKv3.out; clear hb3))
        have hz := blk_put3 HKr3.out (.int .i64 0) (.int .i64 z) (.string ⟨#[]⟩)
        have hbz := below_put3 HB3.out (Nat.le_refl _) (.int .i64 0) (.int .i64 z) (.string ⟨#[]⟩)
        generalize World.setCell (World.setCell (World.setCell _ _ _) _ _) _ _ = W3 at hz hbz ⊢
        have hz0 : W3.cell? ⟨w.heap.size, 0, none⟩ = some (.int .i64 0) := blk_cell hz 0
        have hz1 : W3.cell? ⟨w.heap.size, 1, none⟩ = some (.int .i64 z) := blk_cell hz 1
        have hz2 : W3.cell? ⟨w.heap.size, 2, none⟩ = some (.string ⟨#[]⟩) := blk_cell hz 2
        exact bodyPost_ret (v := .tuple #[.agg #[.int .i64 0, .int .i64 z, .string ⟨#[]⟩], .int .i64 ((u + 1 : Nat) : Int), .bool true]) (by simp [results, Try.results29, go_sem, hz0, hz1, hz2]) rfl ⟨rfl, hbz⟩
      · by_cases hk4 : k = 2
        · subst hk4
          have hq2 : gotV (getV (2 :: r)) = if n ≤ 40 ∧ n ≤ r.length - u then (⟨2, 0, strOfNums ((r.drop u).take n)⟩, u + 1 + n, true) else (⟨0, 0, ⟨#[]⟩⟩, 0, false) := by
            have h : getV (2 :: r) = if n ≤ 40 ∧ n ≤ r.length - u then some (⟨2, 0, strOfNums ((r.drop u).take n)⟩, u + 1 + n) else none := by
              unfold getV
              simp only [hg]
              rfl
            rw [h]
            split <;> rfl
          rw [hq2] at hq
          clear hq2 hk3
          have hwe : IntKind.wrap .u64 ((r.length : Int) + 1 - ((u : Int) + 1)) = (r.length : Int) + 1 - ((u : Int) + 1) := by rw [wrap_u64]; omega
          by_cases hfit : n ≤ r.length - u
          · have hwn : IntKind.wrap .i64 (n : Int) = (n : Int) := IntWalk.i64_in _ (by omega)
            obtain ⟨A2, hcut2, hD2, hln2⟩ := mid_row (P := Try.prog) (d := Kd.int .u8) Try.underlying27 hi0 hsz0 (some ad) c (2 :: r) (u + 1) n ((u : Int) + 1) (((u : Int) + 1) + (n : Int)) (by omega) (by omega) (by rw [HLN.out]; omega) HC.out
            rw [List.drop_succ_cons] at hD2 hln2
            rw [HLN.out] at hcut2
            have HD2 := Aside0.mk (hD2 w (by rw [HLN.out]; exact HR.out))
            have hstr := fun (W : World) (h : Below w.heap.size w W) => Kd.C_string (P := Try.prog) (c := c - (u + 1)) Try.underlying27 Try.underlying5 Try.underlying9 (Kd.C_below HD2.out h)
            have hsz : (strOfNums ((r.drop u).take n)).size = n := by rw [strOfNums_size]; exact hln2
            have HSTR := Aside0.mk hstr
            have HSZ := Aside0.mk hsz
            have hf1 : (n : Int) ≤ (r.length : Int) + 1 - ((u : Int) + 1) := by omega
            clear hD2 hln2 hstr hsz
            by_cases h40 : n ≤ 40
            · skip
              obtain ⟨rfl, rfl, rfl⟩ : x = ⟨2, 0, strOfNums ((r.drop u).take n)⟩ ∧ m = u + 1 + n ∧ b = true := by
                rw [if_pos ⟨h40, hfit⟩] at hq
                simp only [Prod.mk.injEq] at hq
                exact ⟨hq.1.symm, hq.2.1.symm, hq.2.2.symm⟩
              have HM := Aside0.mk (show mayV ⟨2, 0, strOfNums ((r.drop u).take n)⟩ = true from by exact mayV_iff.2 (.inr (.inr (.inl ⟨rfl, rfl, by rw [HSZ.out]; omega⟩))))
              generalize strOfNums ((r.drop u).take n) = t at *
              clear hg hq hi0 hsz0
              go_enter Try.func29, Try.ntmps29
              go_wp2_with (first
                | (go_at_call 28; refine (le_Get.yes A1 _ r _ HG.out HBR.out (by omega) (Kd.C_below HD1.out (below_alloc (below_alloc (Below.refl _ _) _) _)) HL1.out).mono ?_; rintro e w1 ⟨rfl, hb1⟩; have HB1 := Aside0.mk (below_step (below_alloc (below_alloc (Below.refl _ _) _) _) hb1); have HKr1 := Aside0.mk (blk_below (blk_alloc (blk_new w (.cells #[.int .i64 0, .int .i64 0, .string ⟨#[]⟩] 37)) (.cells #[.int .i64 0, .int .i64 0, .string ⟨#[]⟩] 37)) hb1); obtain ⟨kr1, kr2, kr3, kr4⟩ := know HKr1.out; have HKn1 := Aside0.mk (blk_below (blk_new2 w (.cells #[.int .i64 0, .int .i64 0, .string ⟨#[]⟩] 37) (.cells #[.int .i64 0, .int .i64 0, .string ⟨#[]⟩] 37)) hb1); obtain ⟨kn1, kn2, kn3, kn4⟩ := know HKn1.out; have hx1 := pw_cell_below HB1.out HX.out; have hstr1 := HSTR.out _ (below_alloc HB1.out (.cells #[.int .i64 2, .int .i64 0, .string ⟨#[]⟩] 37)); clear hb1)
                | (go_at_call 35; refine (mayV_told ⟨2, 0, t⟩ _ zero_i64 HM.out).mono ?_; rintro e w3 ⟨rfl, hb3⟩; have HB3 := Aside0.mk (below_step (below_alloc HB1.out _) hb3); have HKr3 := Aside0.mk (blk_below (blk_alloc HKr1.out _) hb3); have HKv3 := Aside0.mk (blk_below (blk_new w1 (.cells #[.int .i64 2, .int .i64 0, .string t] 37)) hb3); have hcr3 := cells_of HKr3.out; have hfr3 := frozen_of HKr3.out; have hcv3 := cells_of HKv3.out; have HKn3 := Aside0.mk (blk_below (blk_alloc HKn1.out _) hb3); have hcn3 := cells_of HKn3.out; clear hb3))
              have hz := blk_put3 HKr3.out (.int .i64 2) (.int .i64 0) (.string t)
              have hbz := below_put3 HB3.out (Nat.le_refl _) (.int .i64 2) (.int .i64 0) (.string t)
              generalize World.setCell (World.setCell (World.setCell _ _ _) _ _) _ _ = W3 at hz hbz ⊢
              have hz0 : W3.cell? ⟨w.heap.size, 0, none⟩ = some (.int .i64 2) := blk_cell hz 0
              have hz1 : W3.cell? ⟨w.heap.size, 1, none⟩ = some (.int .i64 0) := blk_cell hz 1
              have hz2 : W3.cell? ⟨w.heap.size, 2, none⟩ = some (.string t) := blk_cell hz 2
              exact bodyPost_ret (v := .tuple #[.agg #[.int .i64 2, .int .i64 0, .string t], .int .i64 ((u + 1 + n : Nat) : Int), .bool true]) (by simp [results, Try.results29, go_sem, hz0, hz1, hz2]) rfl ⟨rfl, hbz⟩
            skip
            · skip
              obtain ⟨rfl, rfl, rfl⟩ : x = ⟨0, 0, ⟨#[]⟩⟩ ∧ m = 0 ∧ b = false := by
                rw [if_neg (by omega)] at hq
                simp only [Prod.mk.injEq] at hq
                exact ⟨hq.1.symm, hq.2.1.symm, hq.2.2.symm⟩
              have HM := Aside0.mk (show mayV ⟨2, 0, strOfNums ((r.drop u).take n)⟩ = false from by rw [← Bool.not_eq_true, mayV_iff]; simp only [HSZ.out]; omega)
              generalize strOfNums ((r.drop u).take n) = t at *
              clear hg hq hi0 hsz0
              go_enter Try.func29, Try.ntmps29
              go_wp2_with (first
                | (go_at_call 28; refine (le_Get.yes A1 _ r _ HG.out HBR.out (by omega) (Kd.C_below HD1.out (below_alloc (below_alloc (Below.refl _ _) _) _)) HL1.out).mono ?_; rintro e w1 ⟨rfl, hb1⟩; have HB1 := Aside0.mk (below_step (below_alloc (below_alloc (Below.refl _ _) _) _) hb1); have HKr1 := Aside0.mk (blk_below (blk_alloc (blk_new w (.cells #[.int .i64 0, .int .i64 0, .string ⟨#[]⟩] 37)) (.cells #[.int .i64 0, .int .i64 0, .string ⟨#[]⟩] 37)) hb1); obtain ⟨kr1, kr2, kr3, kr4⟩ := know HKr1.out; have HKn1 := Aside0.mk (blk_below (blk_new2 w (.cells #[.int .i64 0, .int .i64 0, .string ⟨#[]⟩] 37) (.cells #[.int .i64 0, .int .i64 0, .string ⟨#[]⟩] 37)) hb1); obtain ⟨kn1, kn2, kn3, kn4⟩ := know HKn1.out; have hx1 := pw_cell_below HB1.out HX.out; have hstr1 := HSTR.out _ (below_alloc HB1.out (.cells #[.int .i64 2, .int .i64 0, .string ⟨#[]⟩] 37)); clear hb1)
                | (go_at_call 35; refine (mayV_told ⟨2, 0, t⟩ _ zero_i64 HM.out).mono ?_; rintro e w3 ⟨rfl, hb3⟩; have HB3 := Aside0.mk (below_step (below_alloc HB1.out _) hb3); have HKr3 := Aside0.mk (blk_below (blk_alloc HKr1.out _) hb3); have HKv3 := Aside0.mk (blk_below (blk_new w1 (.cells #[.int .i64 2, .int .i64 0, .string t] 37)) hb3); have hcr3 := cells_of HKr3.out; have hfr3 := frozen_of HKr3.out; have hcv3 := cells_of HKv3.out; have HKn3 := Aside0.mk (blk_below (blk_alloc HKn1.out _) hb3); have hcn3 := cells_of HKn3.out; clear hb3))
              have hz := blk_put3 HKr3.out (.int .i64 0) (.int .i64 0) (.string ⟨#[]⟩)
              have hbz := below_put3 HB3.out (Nat.le_refl _) (.int .i64 0) (.int .i64 0) (.string ⟨#[]⟩)
              generalize World.setCell (World.setCell (World.setCell _ _ _) _ _) _ _ = W3 at hz hbz ⊢
              have hz0 : W3.cell? ⟨w.heap.size, 0, none⟩ = some (.int .i64 0) := blk_cell hz 0
              have hz1 : W3.cell? ⟨w.heap.size, 1, none⟩ = some (.int .i64 0) := blk_cell hz 1
              have hz2 : W3.cell? ⟨w.heap.size, 2, none⟩ = some (.string ⟨#[]⟩) := blk_cell hz 2
              exact bodyPost_ret (v := .tuple #[.agg #[.int .i64 0, .int .i64 0, .string ⟨#[]⟩], .int .i64 0, .bool false]) (by simp [results, Try.results29, go_sem, hz0, hz1, hz2]) rfl ⟨rfl, hbz⟩
          · obtain ⟨rfl, rfl, rfl⟩ : x = ⟨0, 0, ⟨#[]⟩⟩ ∧ m = 0 ∧ b = false := by
              rw [if_neg (by omega)] at hq
              simp only [Prod.mk.injEq] at hq
              exact ⟨hq.1.symm, hq.2.1.symm, hq.2.2.symm⟩
            have hf1 : (r.length : Int) + 1 - ((u : Int) + 1) < (n : Int) := by omega
            clear hg hq hi0 hsz0
            go_enter Try.func29, Try.ntmps29
            go_wp2_with (go_at_call 28; refine (le_Get.yes A1 _ r _ HG.out HBR.out (by omega) (Kd.C_below HD1.out (below_alloc (below_alloc (Below.refl _ _) _) _)) HL1.out).mono ?_; rintro e w1 ⟨rfl, hb1⟩; have HB1 := Aside0.mk (below_step (below_alloc (below_alloc (Below.refl _ _) _) _) hb1); have HKr1 := Aside0.mk (blk_below (blk_alloc (blk_new w (.cells #[.int .i64 0, .int .i64 0, .string ⟨#[]⟩] 37)) (.cells #[.int .i64 0, .int .i64 0, .string ⟨#[]⟩] 37)) hb1); obtain ⟨kr1, kr2, kr3, kr4⟩ := know HKr1.out; have HKn1 := Aside0.mk (blk_below (blk_new2 w (.cells #[.int .i64 0, .int .i64 0, .string ⟨#[]⟩] 37) (.cells #[.int .i64 0, .int .i64 0, .string ⟨#[]⟩] 37)) hb1); obtain ⟨kn1, kn2, kn3, kn4⟩ := know HKn1.out; have hx1 := pw_cell_below HB1.out HX.out; clear hb1)
            have hz := blk_put3 (blk_alloc HKr1.out (.cells #[.int .i64 2, .int .i64 0, .string ⟨#[]⟩] 37)) (.int .i64 0) (.int .i64 0) (.string ⟨#[]⟩)
            have hbz := below_put3 (below_alloc HB1.out (.cells #[.int .i64 2, .int .i64 0, .string ⟨#[]⟩] 37)) (Nat.le_refl _) (.int .i64 0) (.int .i64 0) (.string ⟨#[]⟩)
            generalize World.setCell (World.setCell (World.setCell _ _ _) _ _) _ _ = W3 at hz hbz ⊢
            have hz0 : W3.cell? ⟨w.heap.size, 0, none⟩ = some (.int .i64 0) := blk_cell hz 0
            have hz1 : W3.cell? ⟨w.heap.size, 1, none⟩ = some (.int .i64 0) := blk_cell hz 1
            have hz2 : W3.cell? ⟨w.heap.size, 2, none⟩ = some (.string ⟨#[]⟩) := blk_cell hz 2
            exact bodyPost_ret (v := .tuple #[.agg #[.int .i64 0, .int .i64 0, .string ⟨#[]⟩], .int .i64 0, .bool false]) (by simp [results, Try.results29, go_sem, hz0, hz1, hz2]) rfl ⟨rfl, hbz⟩
        · have hq2 := getV_rest hg hk3 hk4 hnb
          rw [hq] at hq2
          clear hq
          have hqb : -9223372036854775808 ≤ IntKind.wrap .i64 (n : Int) ∧ IntKind.wrap .i64 (n : Int) ≤ 9223372036854775807 := by rw [wrap_i64]; unfold wrap64; omega
          obtain ⟨q, hwn⟩ : ∃ q, IntKind.wrap .i64 (n : Int) = q := ⟨_, rfl⟩
          rw [hwn] at hq2 hqb
          have HQB := Aside0.mk hqb
          have e0 : (k == 0) = false := by simpa using hk3
          have e2 : (k == 2) = false := by simpa using hk4
          clear hqb hg hi0 hsz0 hk3 hk4
          cases hm : mayV ⟨k, q, ⟨#[]⟩⟩ with
          | false =>
            rw [hm] at hq2
            obtain ⟨rfl, rfl, rfl⟩ : x = ⟨0, 0, ⟨#[]⟩⟩ ∧ m = 0 ∧ b = false := by
              have h : (x, m, b) = ((⟨0, 0, ⟨#[]⟩⟩ : SValue), 0, false) := hq2
              simp only [Prod.mk.injEq] at h
              exact h
            have HM := Aside0.mk hm
            clear hm hq2
            go_enter Try.func29, Try.ntmps29
            go_wp2_with (first
              | (go_at_call 28; refine (le_Get.yes A1 _ r _ HG.out HBR.out (by omega) (Kd.C_below HD1.out (below_alloc (below_alloc (Below.refl _ _) _) _)) HL1.out).mono ?_; rintro e w1 ⟨rfl, hb1⟩; have HB1 := Aside0.mk (below_step (below_alloc (below_alloc (Below.refl _ _) _) _) hb1); have HKr1 := Aside0.mk (blk_below (blk_alloc (blk_new w (.cells #[.int .i64 0, .int .i64 0, .string ⟨#[]⟩] 37)) (.cells #[.int .i64 0, .int .i64 0, .string ⟨#[]⟩] 37)) hb1); obtain ⟨kr1, kr2, kr3, kr4⟩ := know HKr1.out; have HKn1 := Aside0.mk (blk_below (blk_new2 w (.cells #[.int .i64 0, .int .i64 0, .string ⟨#[]⟩] 37) (.cells #[.int .i64 0, .int .i64 0, .string ⟨#[]⟩] 37)) hb1); obtain ⟨kn1, kn2, kn3, kn4⟩ := know HKn1.out; have hx1 := pw_cell_below HB1.out HX.out; clear hb1)
              | (go_at_call 35; refine (mayV_told ⟨k, q, ⟨#[]⟩⟩ _ HQB.out HM.out).mono ?_; rintro e w3 ⟨rfl, hb3⟩; have HB3 := Aside0.mk (below_step (below_alloc HB1.out _) hb3); have HKr3 := Aside0.mk (blk_below (blk_alloc HKr1.out _) hb3); have HKv3 := Aside0.mk (blk_below (blk_new w1 (.cells #[.int .i64 k, .int .i64 q, .string ⟨#[]⟩] 37)) hb3); have hcr3 := cells_of HKr3.out; have hfr3 := frozen_of HKr3.out; have hcv3 := cells_of HKv3.out; have HKn3 := Aside0.mk (blk_below (blk_alloc HKn1.out _) hb3); have hcn3 := cells_of HKn3.out; clear hb3))
            have hz := blk_put3 HKr3.out (.int .i64 0) (.int .i64 0) (.string ⟨#[]⟩)
            have hbz := below_put3 HB3.out (Nat.le_refl _) (.int .i64 0) (.int .i64 0) (.string ⟨#[]⟩)
            generalize World.setCell (World.setCell (World.setCell _ _ _) _ _) _ _ = W3 at hz hbz ⊢
            have hz0 : W3.cell? ⟨w.heap.size, 0, none⟩ = some (.int .i64 0) := blk_cell hz 0
            have hz1 : W3.cell? ⟨w.heap.size, 1, none⟩ = some (.int .i64 0) := blk_cell hz 1
            have hz2 : W3.cell? ⟨w.heap.size, 2, none⟩ = some (.string ⟨#[]⟩) := blk_cell hz 2
            exact bodyPost_ret (v := .tuple #[.agg #[.int .i64 0, .int .i64 0, .string ⟨#[]⟩], .int .i64 0, .bool false]) (by simp [results, Try.results29, go_sem, hz0, hz1, hz2]) rfl ⟨rfl, hbz⟩
          | true =>
            rw [hm] at hq2
            obtain ⟨rfl, rfl, rfl⟩ : x = ⟨k, q, ⟨#[]⟩⟩ ∧ m = u + 1 ∧ b = true := by
              have h : (x, m, b) = ((⟨k, q, ⟨#[]⟩⟩ : SValue), u + 1, true) := hq2
              simp only [Prod.mk.injEq] at h
              exact h
            have HM := Aside0.mk hm
            clear hm hq2
            go_enter Try.func29, Try.ntmps29
            go_wp2_with (first
              | (go_at_call 28; refine (le_Get.yes A1 _ r _ HG.out HBR.out (by omega) (Kd.C_below HD1.out (below_alloc (below_alloc (Below.refl _ _) _) _)) HL1.out).mono ?_; rintro e w1 ⟨rfl, hb1⟩; have HB1 := Aside0.mk (below_step (below_alloc (below_alloc (Below.refl _ _) _) _) hb1); have HKr1 := Aside0.mk (blk_below (blk_alloc (blk_new w (.cells #[.int .i64 0, .int .i64 0, .string ⟨#[]⟩] 37)) (.cells #[.int .i64 0, .int .i64 0, .string ⟨#[]⟩] 37)) hb1); obtain ⟨kr1, kr2, kr3, kr4⟩ := know HKr1.out; have HKn1 := Aside0.mk (blk_below (blk_new2 w (.cells #[.int .i64 0, .int .i64 0, .string ⟨#[]⟩] 37) (.cells #[.int .i64 0, .int .i64 0, .string ⟨#[]⟩] 37)) hb1); obtain ⟨kn1, kn2, kn3, kn4⟩ := know HKn1.out; have hx1 := pw_cell_below HB1.out HX.out; clear hb1)
              | (go_at_call 35; refine (mayV_told ⟨k, q, ⟨#[]⟩⟩ _ HQB.out HM.out).mono ?_; rintro e w3 ⟨rfl, hb3⟩; have HB3 := Aside0.mk (below_step (below_alloc HB1.out _) hb3); have HKr3 := Aside0.mk (blk_below (blk_alloc HKr1.out _) hb3); have HKv3 := Aside0.mk (blk_below (blk_new w1 (.cells #[.int .i64 k, .int .i64 q, .string ⟨#[]⟩] 37)) hb3); have hcr3 := cells_of HKr3.out; have hfr3 := frozen_of HKr3.out; have hcv3 := cells_of HKv3.out; have HKn3 := Aside0.mk (blk_below (blk_alloc HKn1.out _) hb3); have hcn3 := cells_of HKn3.out; clear hb3))
            have hz := blk_put3 HKr3.out (.int .i64 k) (.int .i64 q) (.string ⟨#[]⟩)
            have hbz := below_put3 HB3.out (Nat.le_refl _) (.int .i64 k) (.int .i64 q) (.string ⟨#[]⟩)
            generalize World.setCell (World.setCell (World.setCell _ _ _) _ _) _ _ = W3 at hz hbz ⊢
            have hz0 : W3.cell? ⟨w.heap.size, 0, none⟩ = some (.int .i64 k) := blk_cell hz 0
            have hz1 : W3.cell? ⟨w.heap.size, 1, none⟩ = some (.int .i64 q) := blk_cell hz 1
            have hz2 : W3.cell? ⟨w.heap.size, 2, none⟩ = some (.string ⟨#[]⟩) := blk_cell hz 2
            exact bodyPost_ret (v := .tuple #[.agg #[.int .i64 k, .int .i64 q, .string ⟨#[]⟩], .int .i64 ((u + 1 : Nat) : Int), .bool true]) (by simp [results, Try.results29, go_sem, hz0, hz1, hz2]) rfl ⟨rfl, hbz⟩
end Go.Proofs.Ytandlemjjlamoaa.P

namespace Go.Proofs.Ytandlemjjlamoaa.P
open Go.RowKit Go.Proofs.YtandlemjjlamoaaW.PrintWords Go.Proofs.YtandlemjjlamoaaW.PrintLast Go.Proofs.YtandlemjjlamoaaW.PrintMore
attribute [local go_sem] max2_int min2_int max_two min_two max_three min_three max_four min_four   -- for this text's walks alone
set_option linter.unusedVariables false
set_option linter.unusedSimpArgs false
def evNum (l : List Int) (a : Nat) (d : Bool) (most : Nat) : Nat × Nat × Bool := if d then (0, a, true) else match getM (l.drop a) most with
  | some (n, u) => (n, a + u, false)
  | none => (0, a, true)
theorem evNum_bad {l : List Int} {a most : Nat} : evNum l a true most = (0, a, true) := rfl
theorem evNum_none {l : List Int} {a most : Nat} (h : getM (l.drop a) most = none) : evNum l a false most = (0, a, true) := by unfold evNum; simp [h]
theorem evNum_some {l : List Int} {a most n u : Nat} (h : getM (l.drop a) most = some (n, u)) : evNum l a false most = (n, a + u, false) := by unfold evNum; simp [h]
theorem evNum_at {l : List Int} {a most : Nat} {d : Bool} (h : a ≤ l.length) : (evNum l a d most).2.1 ≤ l.length ∧ (evNum l a d most).1 ≤ most := by
  cases d with
  | true => exact ⟨h, Nat.zero_le _⟩
  | false =>
    cases hg : getM (l.drop a) most with
    | none => rw [evNum_none hg]; exact ⟨h, Nat.zero_le _⟩
    | some p =>
      obtain ⟨n, u⟩ := p
      rw [evNum_some hg]
      have h2 := getM_used hg
      rw [List.length_drop] at h2
      exact ⟨by show a + u ≤ _; omega, h2.2.1⟩
def bBlk (A : Option Addr) (n c : Nat) : Obj := .cells #[.slice A n c] 27 (0, 0)
def aBlk (a : Nat) : Obj := .cells #[.int .i64 (a : Int)] 3 (0, 0)
def dBlk (d : Bool) : Obj := .cells #[.bool d] 4 (0, 0)
def numEv (Ba Bd : Nat) (r : Nat × Nat × Bool) (w : World) (e : Ending) (w' : World) : Prop := e = .returned (.int .i64 (r.1 : Int)) ∧ w'.heap[Ba]? = some (aBlk r.2.1) ∧ w'.heap[Bd]? = some (dBlk r.2.2) ∧ Spares (fun i => i = Ba ∨ i = Bd) w w'
set_option maxHeartbeats 4000000 in
set_option maxRecDepth 100000 in
theorem evNum_told (w : World) (Bb Ba Bd : Nat) (A : Option Addr) (c : Nat) (l : List Int) (a : Nat) (d : Bool) (most : Nat) (hr : Kd.C (Kd.int .u8) w A l.length l) (hc : l.length ≤ c) (hb : byteL l) (hl : l.length < 4611686018427387904) (hkb : w.heap[Bb]? = some (bBlk A l.length c)) (hka : w.heap[Ba]? = some (aBlk a)) (hkd : w.heap[Bd]? = some (dBlk d)) (hat : a ≤ l.length) (hmost : most ≤ 1125899906842624) :
    Calls Try.prog 27 #[.int .u64 (most : Int), .pointer (some ⟨Bb, 0, none⟩), .pointer (some ⟨Ba, 0, none⟩), .pointer (some ⟨Bd, 0, none⟩)] w (numEv Ba Bd (evNum l a d most) w) := by
  obtain ⟨i0, hi0, _, hsz0, _⟩ := info_parts info5
  obtain ⟨A', hcut, hC', hlc⟩ := drop_row (P := Try.prog) (d := Kd.int .u8) Try.underlying27 hi0 hsz0 A c l a (a : Int) rfl hat hc
  have HCUT := Aside0.mk (hC' _ hr)
  have HLC := Aside0.mk hlc
  have hne : Ba ≠ Bd := blk_ne hka hkd (by decide)
  have HBY := Aside0.mk (byteL_drop hb a)
  obtain ⟨kb, _, _, _⟩ := know hkb
  obtain ⟨ka, _, _, _⟩ := know hka
  obtain ⟨kd, _, _, _⟩ := know hkd
  have HKA := Aside0.mk hka
  have HKD := Aside0.mk hkd
  have hln : (l.drop a).length < 4611686018427387904 := by rw [List.length_drop]; omega
  have hal : a + (l.drop a).length = l.length := by rw [List.length_drop]; omega
  have hup : ∀ n u, getN (l.drop a) = some (n, u) → n < 18446744073709551616 := fun n u h => (getN_some HBY.out h).1
  obtain ⟨r, hq⟩ : ∃ r, evNum l a d most = r := ⟨_, rfl⟩
  rw [hq]
  clear hC' hlc hi0 hsz0 hr hc hb hkb hka hkd
  cases d with
  | true =>
    rw [evNum_bad] at hq
    subst hq
    obtain ⟨n0, u0, b0, hg0⟩ : ∃ n0 u0 b0, tellN (getN (l.drop a)) = (n0, u0, b0) := ⟨_, _, _, rfl⟩
    have HT := Aside0.mk (fun (W : World) (h : Below w.heap.size w W) => le_Get.told A' (c - a) (l.drop a) W HBY.out hln (Kd.C_below HCUT.out h) HLC.out)
    unfold getPost at HT
    rw [hg0] at HT
    clear hg0 hup
    generalize l.drop a = ld at *
    go_enter Try.func27, Try.ntmps27
    go_wp2_with (go_at_call 28; refine (HT.out _ (Below.refl _ _)).mono ?_; rintro e w1 ⟨rfl, hb1⟩; have HB1 := Aside0.mk hb1; have HKA1 := Aside0.mk (blk_below HKA.out hb1); have HKD1 := Aside0.mk (blk_below HKD.out hb1); obtain ⟨a1, _, a3, _⟩ := know HKA1.out; obtain ⟨d1, _, d3, _⟩ := know HKD1.out; obtain ⟨f1, f2⟩ := know_far HKA1.out hne; clear hb1)
    go_ret
    exact ⟨rfl, blk_far HKA1.out (p := ⟨Bd, 0, none⟩) hne _, blk_put HKD1.out 0 (.bool true) rfl, ((Spares.of_below (S := fun i => i = Ba ∨ i = Bd) HB1.out).set 0 (.inl (.inr rfl)) _)⟩
  | false =>
    cases hg : getN (l.drop a) with
    | none =>
      rw [evNum_none (getM_none hg)] at hq
      subst hq
      have HG := Aside0.mk hg
      clear hg hup
      generalize l.drop a = ld at *
      go_enter Try.func27, Try.ntmps27
      go_wp2_with (go_at_call 28; refine (le_Get.no A' _ ld _ HG.out HBY.out hln HCUT.out HLC.out).mono ?_; rintro e w1 ⟨rfl, hb1⟩; have HB1 := Aside0.mk hb1; have HKA1 := Aside0.mk (blk_below HKA.out hb1); have HKD1 := Aside0.mk (blk_below HKD.out hb1); obtain ⟨a1, _, a3, _⟩ := know HKA1.out; obtain ⟨d1, _, d3, _⟩ := know HKD1.out; obtain ⟨f1, f2⟩ := know_far HKA1.out hne; clear hb1)
      go_ret
      exact ⟨rfl, blk_far HKA1.out (p := ⟨Bd, 0, none⟩) hne _, blk_put HKD1.out 0 (.bool true) rfl, ((Spares.of_below (S := fun i => i = Ba ∨ i = Bd) HB1.out).set 0 (.inl (.inr rfl)) _)⟩
    | some p =>
      obtain ⟨n, u⟩ := p
      have hn := hup n u hg
      have hu := (getN_used hg).2.1
      have HG := Aside0.mk hg
      have hgm := getM_some (m := most) hg
      by_cases hle : n ≤ most
      · rw [if_pos hle] at hgm
        rw [evNum_some hgm] at hq
        subst hq
        have hle2 : (n : Int) ≤ (most : Int) := by omega
        have hw : IntKind.wrap .i64 (n : Int) = (n : Int) := IntWalk.i64_in _ (by omega)
        clear hg hup hgm hle
        generalize l.drop a = ld at *
        go_enter Try.func27, Try.ntmps27
        go_wp2_with (go_at_call 28; refine (le_Get.yes A' _ ld _ HG.out HBY.out hln HCUT.out HLC.out).mono ?_; rintro e w1 ⟨rfl, hb1⟩; have HB1 := Aside0.mk hb1; have HKA1 := Aside0.mk (blk_below HKA.out hb1); have HKD1 := Aside0.mk (blk_below HKD.out hb1); obtain ⟨a1, _, a3, _⟩ := know HKA1.out; obtain ⟨d1, _, d3, _⟩ := know HKD1.out; obtain ⟨f1, f2⟩ := know_far HKA1.out hne; clear hb1)
        go_ret
        exact ⟨rfl, blk_put (blk_far HKA1.out (p := ⟨Bd, 0, none⟩) hne _) 0 _ (by simp), blk_far (blk_put HKD1.out 0 (.bool false) rfl) (p := ⟨Ba, 0, none⟩) (Ne.symm hne) _, Spares.set ((Spares.of_below (S := fun i => i = Ba ∨ i = Bd) HB1.out).set 0 (.inl (.inr rfl)) _) 0 (.inl (.inl rfl)) _⟩
      · rw [if_neg hle] at hgm
        rw [evNum_none hgm] at hq
        subst hq
        have hle2 : ¬ (n : Int) ≤ (most : Int) := by omega
        clear hg hup hgm hle
        generalize l.drop a = ld at *
        go_enter Try.func27, Try.ntmps27
        go_wp2_with (go_at_call 28; refine (le_Get.yes A' _ ld _ HG.out HBY.out hln HCUT.out HLC.out).mono ?_; rintro e w1 ⟨rfl, hb1⟩; have HB1 := Aside0.mk hb1; have HKA1 := Aside0.mk (blk_below HKA.out hb1); have HKD1 := Aside0.mk (blk_below HKD.out hb1); obtain ⟨a1, _, a3, _⟩ := know HKA1.out; obtain ⟨d1, _, d3, _⟩ := know HKD1.out; obtain ⟨f1, f2⟩ := know_far HKA1.out hne; clear hb1)
        go_ret
        exact ⟨rfl, blk_far HKA1.out (p := ⟨Bd, 0, none⟩) hne _, blk_put HKD1.out 0 (.bool true) rfl, ((Spares.of_below (S := fun i => i = Ba ∨ i = Bd) HB1.out).set 0 (.inl (.inr rfl)) _)⟩
def getVs : Nat → List Int → Option (List SValue × Nat)
  | 0, _ => some ([], 0)
  | m + 1, l => match getV l with
    | none => none
    | some (x, n) => match getVs m (l.drop n) with
      | none => none
      | some (xs, k) => some (x :: xs, n + k)
def contE (l : List Int) (m u : Nat) (fs : List SValue) (nm : ByteArray) (tm : Int) : Option (SEvent × Nat) := match getVs m (l.drop u) with
  | none => none
  | some (gs, v) => some (⟨nm, tm, fs ++ gs⟩, u + v)
def contN (l : List Int) (u : Nat) (nm : ByteArray) (tm : Int) : Option (SEvent × Nat) := match getM (l.drop u) 6 with
  | none => none
  | some (m, v) => contE l m (u + v) [] nm tm
def contT (l : List Int) (u : Nat) (nm : ByteArray) : Option (SEvent × Nat) := match getM (l.drop u) 1125899906842624 with
  | none => none
  | some (tm, v) => contN l (u + v) nm (tm : Int)
def getRawE (l : List Int) : Option (SEvent × Nat) := match readT l 12 with
  | none => none
  | some (t, u) => contT l u (strOfNums t)
def getE (l : List Int) : Option (SEvent × Nat) := match getRawE l with
  | none => none
  | some (x, n) => if mayE x then some (x, n) else none
def gotE (r : Option (SEvent × Nat)) : SEvent × Nat × Bool := match r with
  | some (x, n) => (x, n, true)
  | none => (⟨⟨#[]⟩, 0, []⟩, 0, false)
def evPost3 (x : SEvent) (n : Nat) (b : Bool) (w : World) (e : Ending) (w' : World) : Prop := ∃ A c, (e = .returned (.tuple #[.agg #[.string x.f0, .int .i64 x.f1, .slice A x.f2.length c], .int .i64 (n : Int), .bool b]) ∧ x.f2.length ≤ c ∧ Kd.C kValue w' A x.f2.length x.f2) ∧ Below w.heap.size w w'
theorem contE_step (l : List Int) (m u : Nat) (fs : List SValue) (nm : ByteArray) (tm : Int) : contE l (m + 1) u fs nm tm = match getV (l.drop u) with
    | none => none
    | some (x, n) => contE l m (u + n) (fs ++ [x]) nm tm := by
  unfold contE
  rw [getVs]
  cases hg : getV (l.drop u) with
  | none => rfl
  | some p =>
    obtain ⟨x, n⟩ := p
    simp only [List.drop_drop]
    cases hv : getVs m (l.drop (u + n)) with
    | none => rfl
    | some q =>
      obtain ⟨xs, k⟩ := q
      simp only [List.append_assoc, List.singleton_append, Nat.add_assoc]
theorem getV_i64 {l : List Int} {x : SValue} {n : Nat} (hb : byteL l) (h : getV l = some (x, n)) : i64V x ∧ n ≤ l.length ∧ mayV x = true := by
  unfold getV at h
  cases l with
  | nil => simp at h
  | cons k r =>
    cases hg : getN r with
    | none => simp only [hg] at h; simp at h
    | some p =>
      obtain ⟨m, u⟩ := p
      have hm := (getN_some (fun c hc => hb c (by simp [hc])) hg).1
      have hu := (getN_used hg).2.1
      simp only [hg] at h
      have he : (⟨#[]⟩ : ByteArray).toList = [] := by decide +kernel
      by_cases h0 : k = 0
      · rw [if_pos h0] at h
        simp only [Option.some.injEq, Prod.mk.injEq] at h
        obtain ⟨rfl, rfl⟩ := h
        exact ⟨zag_in hm, by simp; omega, mayV_iff.2 (.inl ⟨rfl, he⟩)⟩
      · rw [if_neg h0] at h
        by_cases h2 : k = 2
        · rw [if_pos h2] at h
          by_cases h3 : m ≤ 40 ∧ m ≤ r.length - u
          · rw [if_pos h3] at h
            simp only [Option.some.injEq, Prod.mk.injEq] at h
            obtain ⟨rfl, rfl⟩ := h
            refine ⟨zero_i64, by simp only [List.length_cons]; omega, mayV_iff.2 (.inr (.inr (.inl ⟨rfl, rfl, ?_⟩)))⟩
            show (strOfNums _).size ≤ 40
            rw [strOfNums_size, List.length_take]
            omega
          · rw [if_neg h3] at h; simp at h
        · rw [if_neg h2] at h
          by_cases h3 : (k = 1 ∧ m < 2) ∨ (k = 3 ∧ m ≤ 1125899906842624)
          · rw [if_pos h3] at h
            simp only [Option.some.injEq, Prod.mk.injEq] at h
            obtain ⟨rfl, rfl⟩ := h
            refine ⟨?_, by simp; omega, mayV_iff.2 ?_⟩
            · show -9223372036854775808 ≤ (m : Int) ∧ (m : Int) ≤ 9223372036854775807
              omega
            · rcases h3 with ⟨rfl, h4⟩ | ⟨rfl, h4⟩
              · exact .inr (.inl ⟨rfl, he, by show 0 ≤ (m : Int); omega, by show (m : Int) < 2; omega⟩)
              · exact .inr (.inr (.inr ⟨rfl, he, by show 0 ≤ (m : Int); omega, by show (m : Int) ≤ _; omega⟩))
          · rw [if_neg h3] at h; simp at h
theorem gotV_i64 {l : List Int} {x : SValue} {n : Nat} {b : Bool} (hb : byteL l) (h : gotV (getV l) = (x, n, b)) : i64V x ∧ n ≤ l.length := by
  cases hg : getV l with
  | none =>
    rw [hg] at h
    simp only [gotV, Prod.mk.injEq] at h
    obtain ⟨rfl, rfl, rfl⟩ := h
    exact ⟨zero_i64, Nat.zero_le _⟩
  | some p =>
    obtain ⟨y, m⟩ := p
    rw [hg] at h
    simp only [gotV, Prod.mk.injEq] at h
    obtain ⟨rfl, rfl, rfl⟩ := h
    have := getV_i64 hb hg
    exact ⟨this.1, this.2.1⟩
def InvE (l : List Int) (nm : ByteArray) (d : Bool) (X : Option (SEvent × Nat)) : Prop := (d = true ∨ nm.size = 0 → getE l = none) ∧ (d = false → nm.size ≠ 0 → getRawE l = X)
theorem getE_none {l : List Int} (h : getRawE l = none) : getE l = none := by unfold getE; rw [h]
theorem getE_name {l : List Int} {nm : ByteArray} {tm : Int} {fs : List SValue} {n : Nat} (h : getRawE l = some (⟨nm, tm, fs⟩, n)) (h0 : nm.size = 0) : getE l = none := by
  unfold getE
  rw [h]
  have : mayE ⟨nm, tm, fs⟩ = false := by
    rw [← Bool.not_eq_true]
    intro h2
    exact (nameB_size (mayE_iff.1 h2).1).1 h0
  simp only [this]
  rfl
theorem contE_nm {l : List Int} {m u : Nat} {fs : List SValue} {nm : ByteArray} {tm : Int} {x : SEvent} {n : Nat} (h : contE l m u fs nm tm = some (x, n)) : x.f0 = nm := by
  unfold contE at h
  split at h
  · simp at h
  · simp only [Option.some.injEq, Prod.mk.injEq] at h
    rw [← h.1]
theorem contN_nm {l : List Int} {u : Nat} {nm : ByteArray} {tm : Int} {x : SEvent} {n : Nat} (h : contN l u nm tm = some (x, n)) : x.f0 = nm := by
  unfold contN at h
  split at h
  · simp at h
  · exact contE_nm h
theorem contT_nm {l : List Int} {u : Nat} {nm : ByteArray} {x : SEvent} {n : Nat} (h : contT l u nm = some (x, n)) : x.f0 = nm := by
  unfold contT at h
  split at h
  · simp at h
  · exact contN_nm h
theorem inv_name (l : List Int) (hb : byteL l) {n1 a1 : Nat} {d1 : Bool} (h : evNum l 0 false 12 = (n1, a1, d1)) :
    InvE l (if n1 ≤ l.length - a1 then strOfNums ((l.drop a1).take n1) else ⟨#[]⟩) d1 (contT l (if n1 ≤ l.length - a1 then a1 + n1 else a1) (if n1 ≤ l.length - a1 then strOfNums ((l.drop a1).take n1) else ⟨#[]⟩)) := by
  cases hg : getM l 12 with
  | none =>
    have h2 := evNum_none (l := l) (a := 0) (most := 12) (by simpa using hg)
    rw [h2] at h
    simp only [Prod.mk.injEq] at h
    obtain ⟨rfl, rfl, rfl⟩ := h
    exact ⟨fun _ => getE_none (by unfold getRawE readT; rw [hg]), fun h => by cases h⟩
  | some p =>
    obtain ⟨n, u⟩ := p
    have h2 := evNum_some (l := l) (a := 0) (most := 12) (n := n) (u := u) (by simpa using hg)
    rw [h2] at h
    simp only [Prod.mk.injEq, Nat.zero_add] at h
    obtain ⟨rfl, rfl, rfl⟩ := h
    by_cases hf : n ≤ l.length - u
    · rw [if_pos hf, if_pos hf]
      have hr : getRawE l = contT l (u + n) (strOfNums ((l.drop u).take n)) := by
        unfold getRawE readT
        rw [hg]
        simp only
        rw [if_pos hf]
      refine ⟨fun hz => ?_, fun _ _ => hr⟩
      rcases hz with hz | hz
      · cases hz
      · cases hx : getRawE l with
        | none => exact getE_none hx
        | some q =>
          obtain ⟨⟨nm, tm, fs⟩, k⟩ := q
          have h3 := contT_nm (hr ▸ hx)
          exact getE_name hx (by rw [show nm = _ from h3]; exact hz)
    · rw [if_neg hf, if_neg hf]
      refine ⟨fun _ => getE_none (by unfold getRawE readT; rw [hg]; simp only; rw [if_neg hf]), fun _ h => absurd rfl h⟩
theorem inv_time {l : List Int} {nm : ByteArray} {d d' : Bool} {a a' n : Nat} (h : InvE l nm d (contT l a nm)) (hq : evNum l a d 1125899906842624 = (n, a', d')) : InvE l nm d' (contN l a' nm (n : Int)) := by
  cases d with
  | true =>
    rw [evNum_bad] at hq
    simp only [Prod.mk.injEq] at hq
    obtain ⟨rfl, rfl, rfl⟩ := hq
    exact ⟨fun _ => h.1 (.inl rfl), fun h => by cases h⟩
  | false =>
    cases hg : getM (l.drop a) 1125899906842624 with
    | none =>
      rw [evNum_none hg] at hq
      simp only [Prod.mk.injEq] at hq
      obtain ⟨rfl, rfl, rfl⟩ := hq
      refine ⟨fun _ => ?_, fun h => by cases h⟩
      by_cases h0 : nm.size = 0
      · exact h.1 (.inr h0)
      · exact getE_none ((h.2 rfl h0).trans (by unfold contT; rw [hg]))
    | some p =>
      obtain ⟨m, u⟩ := p
      rw [evNum_some hg] at hq
      simp only [Prod.mk.injEq] at hq
      obtain ⟨rfl, rfl, rfl⟩ := hq
      refine ⟨fun hz => h.1 hz, fun h1 h2 => (h.2 h1 h2).trans (by unfold contT; rw [hg])⟩
theorem inv_many {l : List Int} {nm : ByteArray} {tm : Int} {d d' : Bool} {a a' n : Nat} (h : InvE l nm d (contN l a nm tm)) (hq : evNum l a d 6 = (n, a', d')) : InvE l nm d' (contE l n a' [] nm tm) := by
  cases d with
  | true =>
    rw [evNum_bad] at hq
    simp only [Prod.mk.injEq] at hq
    obtain ⟨rfl, rfl, rfl⟩ := hq
    exact ⟨fun _ => h.1 (.inl rfl), fun h => by cases h⟩
  | false =>
    cases hg : getM (l.drop a) 6 with
    | none =>
      rw [evNum_none hg] at hq
      simp only [Prod.mk.injEq] at hq
      obtain ⟨rfl, rfl, rfl⟩ := hq
      refine ⟨fun _ => ?_, fun h => by cases h⟩
      by_cases h0 : nm.size = 0
      · exact h.1 (.inr h0)
      · exact getE_none ((h.2 rfl h0).trans (by unfold contN; rw [hg]))
    | some p =>
      obtain ⟨m, u⟩ := p
      rw [evNum_some hg] at hq
      simp only [Prod.mk.injEq] at hq
      obtain ⟨rfl, rfl, rfl⟩ := hq
      refine ⟨fun hz => h.1 hz, fun h1 h2 => (h.2 h1 h2).trans (by unfold contN; rw [hg])⟩
theorem inv_value {l : List Int} {nm : ByteArray} {tm : Int} {d b : Bool} {m a n : Nat} {fs : List SValue} {x : SValue} (h : InvE l nm d (contE l (m + 1) a fs nm tm)) (hq : gotV (getV (l.drop a)) = (x, n, b)) : InvE l nm (d || !b) (contE l m (a + n) (fs ++ [x]) nm tm) := by
  rw [contE_step] at h
  cases hg : getV (l.drop a) with
  | none =>
    rw [hg] at hq h
    simp only [gotV, Prod.mk.injEq] at hq
    obtain ⟨rfl, rfl, rfl⟩ := hq
    rw [show (d || !false) = true from by simp]
    refine ⟨fun _ => ?_, fun h => by cases h⟩
    cases d with
    | true => exact h.1 (.inl rfl)
    | false =>
      by_cases h0 : nm.size = 0
      · exact h.1 (.inr h0)
      · exact getE_none (h.2 rfl h0)
  | some p =>
    obtain ⟨y, k⟩ := p
    rw [hg] at hq h
    simp only [gotV, Prod.mk.injEq] at hq
    obtain ⟨rfl, rfl, rfl⟩ := hq
    rw [show (d || !true) = d from by simp]
    exact h
theorem contE_end (l : List Int) (a : Nat) (fs : List SValue) (nm : ByteArray) (tm : Int) : contE l 0 a fs nm tm = some (⟨nm, tm, fs⟩, a) := by unfold contE getVs; simp
theorem inv_end {l : List Int} {nm : ByteArray} {tm : Int} {d : Bool} {a : Nat} {fs : List SValue} (h : InvE l nm d (contE l 0 a fs nm tm)) : gotE (getE l) = if (d || !mayE ⟨nm, tm, fs⟩) then (⟨⟨#[]⟩, 0, []⟩, 0, false) else (⟨nm, tm, fs⟩, a, true) := by
  rw [contE_end] at h
  cases d with
  | true =>
    rw [h.1 (.inl rfl)]
    rfl
  | false =>
    cases hm : mayE ⟨nm, tm, fs⟩ with
    | true =>
      have h0 := (nameB_size (mayE_iff.1 hm).1).1
      unfold getE
      rw [h.2 rfl h0]
      simp only [hm]
      rfl
    | false =>
      by_cases h0 : nm.size = 0
      · rw [h.1 (.inr h0)]
        rfl
      · unfold getE
        rw [h.2 rfl h0]
        simp only [hm]
        rfl
structure GetEv (A : Option Addr) (n c : Nat) (a : Nat) (d : Bool) (nm : ByteArray) (tm : Int) (v : Value) (w w' : World) : Prop where
  b : w'.heap[w.heap.size]? = some (bBlk A n c)
  r : w'.heap[w.heap.size + 1]? = some (.cells #[.string ⟨#[]⟩, .int .i64 0, .slice none 0 0] 24 (0, 0))
  a : w'.heap[w.heap.size + 1 + 1]? = some (aBlk a)
  d : w'.heap[w.heap.size + 1 + 1 + 1]? = some (dBlk d)
  e : w'.heap[w.heap.size + 1 + 1 + 1 + 1]? = some (.cells #[.string nm, .int .i64 tm, v] 24 (0, 0))
  below : Below w.heap.size w w'
structure getERel (l : List Int) (A : Option Addr) (c : Nat) (nm : ByteArray) (tm : Int) (many : Nat) (w : World) (k : Nat) (w' : World) : Prop where
  le : k ≤ many
  st : ∃ a d fs v, fs.length = k ∧ a ≤ l.length ∧ (∀ x ∈ fs, i64V x) ∧ InvE l nm d (contE l (many - k) a fs nm tm) ∧ GetEv A l.length c a d nm tm v w w' ∧ Kd.R kValue 37 w' w.heap.size (fun _ => True) v fs
theorem evMk {x y : SEvent} {m k : Nat} {b b' : Bool} {r : SEvent × Nat × Bool} (h : r = (x, m, b)) (h2 : r = (y, k, b')) : x = y ∧ m = k ∧ b = b' := by
  rw [h] at h2
  simp only [Prod.mk.injEq] at h2
  exact ⟨h2.1, h2.2.1, h2.2.2⟩
set_option maxHeartbeats 16000000 in
set_option maxRecDepth 100000 in
theorem event_Get.told (w : World) (A : Option Addr) (c : Nat) (l : List Int) (hr0 : Kd.C (Kd.int .u8) w A l.length l) (hc0 : l.length ≤ c) (hb : byteL l) (hl : l.length < 4611686018427387904) {x : SEvent} {m : Nat} {b : Bool} (hq : gotE (getE l) = (x, m, b)) :
    Calls Try.prog 12 #[.slice A l.length c] w (evPost3 x m b w) := by
  have HR := Aside0.mk hr0
  have HC := Aside0.mk hc0
  have HBY := Aside0.mk hb
  have HQ := Aside0.mk hq
  obtain ⟨i0, hi0, _, hsz0, _⟩ := info_parts info5
  obtain ⟨n1, a1, d1, hq1⟩ : ∃ n1 a1 d1, evNum l 0 false 12 = (n1, a1, d1) := ⟨_, _, _, rfl⟩
  obtain ⟨hat1, hn1⟩ : a1 ≤ l.length ∧ n1 ≤ 12 := by have h := evNum_at (d := false) (most := 12) (Nat.zero_le l.length); rw [hq1] at h; exact h
  have HI1 := Aside0.mk (inv_name l hb hq1)
  have HQ1 := Aside0.mk hq1
  have G0 : Aside0 (GetEv A l.length c 0 false ⟨#[]⟩ 0 (.slice none 0 0) w (((((w.alloc (.cells #[.slice A l.length c] 27)).alloc (.cells #[.string ⟨#[]⟩, .int .i64 0, .slice none 0 0] 24)).alloc (.cells #[.int .i64 0] 3)).alloc (.cells #[.bool false] 4)).alloc (.cells #[.string ⟨#[]⟩, .int .i64 0, .slice none 0 0] 24))) := ⟨⟨blk_alloc (blk_alloc (blk_alloc (blk_alloc (blk_new _ _) _) _) _) _, blk_alloc (blk_alloc (blk_alloc (blk_new2 _ _ _) _) _) _, blk_alloc (blk_alloc (blk_new3 _ _ _ _) _) _, blk_alloc (blk_new4 _ _ _ _ _) _, blk_new5 _ _ _ _ _ _, below_alloc (below_alloc (below_alloc (below_alloc (below_alloc (Below.refl _ _) _) _) _) _) _⟩⟩
  clear hr0 hc0 hb hq hq1
  go_enter Try.func12, Try.ntmps12
  go_upto_if 21 with (go_at_call_of 27 (Value.int .u64 12); refine (evNum_told _ (w.heap.size) (w.heap.size + 1 + 1) (w.heap.size + 1 + 1 + 1) A c l 0 false 12 (Kd.C_below HR.out G0.out.below) HC.out HBY.out hl G0.out.b G0.out.a G0.out.d (Nat.zero_le _) (by decide)).mono ?_; rw [HQ1.out]; rintro e w1 ⟨rfl, ha1, hd1, hs1⟩; have G1 := Aside0.mk (show GetEv A l.length c _ _ ⟨#[]⟩ 0 (.slice none 0 0) w w1 from ⟨hs1.blk G0.out.b (by omega), hs1.blk G0.out.r (by omega), ha1, hd1, hs1.blk G0.out.e (by omega), Spares.below G0.out.below hs1 (by rintro i (rfl | rfl) <;> omega)⟩); clear ha1 hd1 hs1; obtain ⟨e11, e12, e13, e14⟩ := know G1.out.e; obtain ⟨a11, _, a13, _⟩ := know G1.out.a; obtain ⟨b11, _, _, _⟩ := know G1.out.b)
  go_cut [] (fun wx => ∃ nm a, GetEv A l.length c a d1 nm 0 (.slice none 0 0) w wx ∧ a ≤ l.length ∧ InvE l nm d1 (contT l a nm))
  case first =>
    by_cases hf : n1 ≤ l.length - a1
    · have HI := HI1.out
      rw [if_pos hf, if_pos hf] at HI
      have HI2 := Aside0.mk HI
      clear HI
      obtain ⟨A2, hcut2, hD2, hln2⟩ := mid_row (P := Try.prog) (d := Kd.int .u8) Try.underlying27 hi0 hsz0 A c l a1 n1 (a1 : Int) ((a1 : Int) + (n1 : Int)) (by omega) (by omega) (by omega) HC.out
      have hstr := Kd.C_string (P := Try.prog) (c := c - a1) Try.underlying27 Try.underlying5 Try.underlying9 (hD2 w1 (Kd.C_below HR.out G1.out.below))
      have hf1 : (n1 : Int) ≤ (l.length : Int) - (a1 : Int) := by omega
      have hs1 : 0 ≤ (a1 : Int) + (n1 : Int) ∧ (a1 : Int) + (n1 : Int) ≤ 9223372036854775807 := by omega
      obtain ⟨f1, f2⟩ := know_far G1.out.a (show w.heap.size + 1 + 1 ≠ w.heap.size + 1 + 1 + 1 + 1 by omega)
      clear hD2 hln2 hi0 hsz0
      generalize strOfNums ((l.drop a1).take n1) = t at *
      go_wp2_with fail
      go_meet
      exact ⟨t, a1 + n1, ⟨blk_far (blk_far G1.out.b (p := ⟨w.heap.size + 1 + 1 + 1 + 1, 0, none⟩) (show w.heap.size ≠ w.heap.size + 1 + 1 + 1 + 1 by omega) _) (p := ⟨w.heap.size + 1 + 1, 0, none⟩) (show w.heap.size ≠ w.heap.size + 1 + 1 by omega) _, blk_far (blk_far G1.out.r (p := ⟨w.heap.size + 1 + 1 + 1 + 1, 0, none⟩) (show w.heap.size + 1 ≠ w.heap.size + 1 + 1 + 1 + 1 by omega) _) (p := ⟨w.heap.size + 1 + 1, 0, none⟩) (show w.heap.size + 1 ≠ w.heap.size + 1 + 1 by omega) _, blk_put (blk_far G1.out.a (p := ⟨w.heap.size + 1 + 1 + 1 + 1, 0, none⟩) (show w.heap.size + 1 + 1 ≠ w.heap.size + 1 + 1 + 1 + 1 by omega) _) 0 _ (by simp), blk_far (blk_far G1.out.d (p := ⟨w.heap.size + 1 + 1 + 1 + 1, 0, none⟩) (show w.heap.size + 1 + 1 + 1 ≠ w.heap.size + 1 + 1 + 1 + 1 by omega) _) (p := ⟨w.heap.size + 1 + 1, 0, none⟩) (show w.heap.size + 1 + 1 + 1 ≠ w.heap.size + 1 + 1 by omega) _, blk_far (blk_put G1.out.e 0 _ rfl) (p := ⟨w.heap.size + 1 + 1, 0, none⟩) (show w.heap.size + 1 + 1 + 1 + 1 ≠ w.heap.size + 1 + 1 by omega) _, (G1.out.below.setCell (p := ⟨w.heap.size + 1 + 1 + 1 + 1, 0, none⟩) (show w.heap.size ≤ w.heap.size + 1 + 1 + 1 + 1 by omega) _).setCell (p := ⟨w.heap.size + 1 + 1, 0, none⟩) (show w.heap.size ≤ w.heap.size + 1 + 1 by omega) _⟩, by omega, HI2.out⟩
    · have HI := HI1.out
      rw [if_neg hf, if_neg hf] at HI
      have HI2 := Aside0.mk HI
      have hf1 : (l.length : Int) - (a1 : Int) < (n1 : Int) := by omega
      clear HI hi0 hsz0
      go_wp2_with fail
      go_meet
      exact ⟨⟨#[]⟩, a1, G1.out, hat1, HI2.out⟩
  case rest =>
    obtain ⟨nm, a2, hg2, hat2, hi2⟩ := hcut
    obtain ⟨w2, rfl⟩ : ∃ w2, w2 = wc := ⟨_, rfl⟩
    have G2 := Aside0.mk hg2
    obtain ⟨n3, a3, d3, hq3⟩ : ∃ n3 a3 d3, evNum l a2 d1 1125899906842624 = (n3, a3, d3) := ⟨_, _, _, rfl⟩
    obtain ⟨hat3, hn3⟩ : a3 ≤ l.length ∧ n3 ≤ 1125899906842624 := by have h := evNum_at (d := d1) (most := 1125899906842624) hat2; rw [hq3] at h; exact h
    obtain ⟨n4, a4, d4, hq4⟩ : ∃ n4 a4 d4, evNum l a3 d3 6 = (n4, a4, d4) := ⟨_, _, _, rfl⟩
    obtain ⟨hat4, hn4⟩ : a4 ≤ l.length ∧ n4 ≤ 6 := by have h := evNum_at (d := d3) (most := 6) hat3; rw [hq4] at h; exact h
    have HI4 := Aside0.mk (inv_many (inv_time hi2 hq3) hq4)
    have HQ3 := Aside0.mk hq3
    have HQ4 := Aside0.mk hq4
    clear hg2 hi2 hq3 hq4 hn3 HI1
    go_wp2_with (first
      | (go_at_call_of 27 (Value.int .u64 1125899906842624); refine (evNum_told _ (w.heap.size) (w.heap.size + 1 + 1) (w.heap.size + 1 + 1 + 1) A c l a2 d1 1125899906842624 (Kd.C_below HR.out G2.out.below) HC.out HBY.out hl G2.out.b G2.out.a G2.out.d hat2 (by decide)).mono ?_; rw [HQ3.out]; rintro e w3 ⟨rfl, ha3, hd3, hs3⟩; have G3 := Aside0.mk (show GetEv A l.length c _ _ nm 0 (.slice none 0 0) w w3 from ⟨hs3.blk G2.out.b (by omega), hs3.blk G2.out.r (by omega), ha3, hd3, hs3.blk G2.out.e (by omega), Spares.below G2.out.below hs3 (by rintro i (rfl | rfl) <;> omega)⟩); clear ha3 hd3 hs3; obtain ⟨e31, e32, e33, e34⟩ := know G3.out.e; obtain ⟨a31, _, a33, _⟩ := know G3.out.a; obtain ⟨b31, _, _, _⟩ := know G3.out.b)
      | (have G3p : Aside0 (GetEv A l.length c a3 d3 nm (n3 : Int) (.slice none 0 0) w (w3.setCell ⟨w.heap.size + 1 + 1 + 1 + 1, 1, none⟩ (.int .i64 (n3 : Int)))) := ⟨blk_far G3.out.b (p := ⟨w.heap.size + 1 + 1 + 1 + 1, 1, none⟩) (show w.heap.size ≠ w.heap.size + 1 + 1 + 1 + 1 by omega) _, blk_far G3.out.r (p := ⟨w.heap.size + 1 + 1 + 1 + 1, 1, none⟩) (show w.heap.size + 1 ≠ w.heap.size + 1 + 1 + 1 + 1 by omega) _, blk_far G3.out.a (p := ⟨w.heap.size + 1 + 1 + 1 + 1, 1, none⟩) (show w.heap.size + 1 + 1 ≠ w.heap.size + 1 + 1 + 1 + 1 by omega) _, blk_far G3.out.d (p := ⟨w.heap.size + 1 + 1 + 1 + 1, 1, none⟩) (show w.heap.size + 1 + 1 + 1 ≠ w.heap.size + 1 + 1 + 1 + 1 by omega) _, blk_put G3.out.e 1 _ rfl, G3.out.below.setCell (p := ⟨w.heap.size + 1 + 1 + 1 + 1, 1, none⟩) (show w.heap.size ≤ w.heap.size + 1 + 1 + 1 + 1 by omega) _⟩; go_at_call_of 27 (Value.int .u64 6); refine (evNum_told _ (w.heap.size) (w.heap.size + 1 + 1) (w.heap.size + 1 + 1 + 1) A c l a3 d3 6 (Kd.C_below HR.out G3p.out.below) HC.out HBY.out hl G3p.out.b G3p.out.a G3p.out.d hat3 (by decide)).mono ?_; rw [HQ4.out]; rintro e w4 ⟨rfl, ha4, hd4, hs4⟩; have G4 := Aside0.mk (show GetEv A l.length c _ _ nm (n3 : Int) (.slice none 0 0) w w4 from ⟨hs4.blk G3p.out.b (by omega), hs4.blk G3p.out.r (by omega), ha4, hd4, hs4.blk G3p.out.e (by omega), Spares.below G3p.out.below hs4 (by rintro i (rfl | rfl) <;> omega)⟩); clear ha4 hd4 hs4; obtain ⟨e41, e42, e43, e44⟩ := know G4.out.e; obtain ⟨a41, _, a43, _⟩ := know G4.out.a; obtain ⟨b41, _, _, _⟩ := know G4.out.b))
    clear G0 G1 G2 G3 G3p HQ3 HQ4 HQ1 e31 e32 e33 e34 a31 a33 b31 e41 e42 e43 e44 a41 a43 b41
    go_loopw [10, 11, 12, 38] (fun _ _ _ v38 w' => ∃ k : Nat, v38 = .int .i64 k ∧ getERel l A c nm (n3 : Int) n4 w k w') (fun _ _ _ i _ => n4 - (intOf i).toNat)
    case atStart => exact ⟨0, rfl, Nat.zero_le _, a4, d4, [], _, rfl, hat4, (fun _ h => by cases h), HI4.out, G4.out, Kd.R_nil _ _ _ _ _⟩
    case round =>
      obtain ⟨k, rfl, hk, a, d, fs, v, hfl, hat, hwf, hinv, hg, ho⟩ := hrel
      have HINV := Aside0.mk hinv
      have HG := Aside0.mk hg
      have HO := Aside0.mk ho
      have HWF := Aside0.mk hwf
      have HFL := Aside0.mk hfl
      clear hinv hg ho hwf hfl G4 HI4
      by_cases hlt : k < n4
      · obtain ⟨A5, hcut5, hD5, hlc5⟩ := drop_row (P := Try.prog) (d := Kd.int .u8) Try.underlying27 hi0 hsz0 A c l a (a : Int) rfl hat HC.out
        have HD5 := Aside0.mk (hD5 wr (Kd.C_below HR.out HG.out.below))
        have HL5 := Aside0.mk hlc5
        have hal : a + (l.drop a).length = l.length := by rw [List.length_drop]; omega
        have HB5 := Aside0.mk (byteL_drop HBY.out a)
        obtain ⟨y, n5, b5, hq5⟩ : ∃ y n5 b5, gotV (getV (l.drop a)) = (y, n5, b5) := ⟨_, _, _, rfl⟩
        obtain ⟨hyw, hn5⟩ := gotV_i64 HB5.out hq5
        have hinv := HINV.out
        rw [show n4 - k = (n4 - (k + 1)) + 1 from by omega] at hinv
        have HI5 := Aside0.mk (inv_value hinv hq5)
        have HQ5 := Aside0.mk hq5
        have HYW := Aside0.mk hyw
        have hs5 : 0 ≤ (a : Int) + (n5 : Int) ∧ (a : Int) + (n5 : Int) ≤ 9223372036854775807 := by omega
        have hsa : a + n5 ≤ l.length := by omega
        obtain ⟨b1, _, _, _⟩ := know HG.out.b
        obtain ⟨a1', _, _, _⟩ := know HG.out.a
        clear hD5 hlc5 hinv hq5 hyw hi0 hsz0
        generalize l.drop a = ld at *
        cases d
        all_goals
          go_wp2_with (first
            | (go_at_call 29; refine (value_Get.told wr A5 _ ld HD5.out HL5.out HB5.out (by omega) HQ5.out).mono ?_; rintro e w5 ⟨rfl, hb5⟩; have G5 := Aside0.mk (show GetEv A l.length c a _ nm (n3 : Int) v w w5 from ⟨blk_below HG.out.b hb5, blk_below HG.out.r hb5, blk_below HG.out.a hb5, blk_below HG.out.d hb5, blk_below HG.out.e hb5, below_step HG.out.below hb5⟩); have HO5 := Aside0.mk (Kd.R_below HO.out hb5); obtain ⟨_, d2, _, d4'⟩ := know G5.out.d; obtain ⟨e1, _⟩ := know_past (b := w.heap.size + 1 + 1 + 1) G5.out.e (show w.heap.size + 1 + 1 + 1 + 1 ≠ w.heap.size + 1 + 1 + 1 by omega); have hz5 : w.heap.size + 1 + 1 + 1 + 1 < w5.heap.size := blk_lt G5.out.e; obtain ⟨x1, _⟩ := know_far (b := w.heap.size + 1 + 1 + 1) (blk_new w5 (.cells #[.int .i64 y.f0, .int .i64 y.f1, .string y.f2] 37)) (show w5.heap.size ≠ w.heap.size + 1 + 1 + 1 by omega); clear hb5)
            | ((with_reducible refine gate_builtin (b := .append) (xs := #[.tmp 54, .tmp 56]) rfl ?_); at_builtin; refine Kd.R_append kValue (w0 := w) w.heap.size rfl (.tmp 54) (.tmp 56) 22 37 (.agg #[(.int .i64 0), (.int .i64 0), (.string ⟨#[]⟩)]) 32 rfl Try.underlying22 infoValue rfl (by decide) (by decide) v fs y [.int .i64 y.f0, .int .i64 y.f1, .string y.f2] (fun _ => True) (fun _ => False) rfl ?hx (kValue_mkM _ _ _ y) (fun _ h => h.elim) (fun _ _ => trivial) (Kd.R_set (Kd.R_alloc HO5.out (.cells #[.int .i64 y.f0, .int .i64 y.f1, .string y.f2] 37)) (blk_alloc G5.out.d _) (by decide) 0 _) ((below_alloc G5.out.below (.cells #[.int .i64 y.f0, .int .i64 y.f1, .string y.f2] 37)).setCell (p := ⟨w.heap.size + 1 + 1 + 1, 0, none⟩) (show w.heap.size ≤ w.heap.size + 1 + 1 + 1 by omega) _) (by show w.heap.size ≤ _; rw [World.size_setCell, World.size_alloc]; omega) (by rw [HFL.out]; omega) ?_; (case hx => rw [World.size_setCell, World.size_alloc]; rfl); intro v6 w6 ho6 hb6 hg6 _; have HO6 := Aside0.mk ho6; have G6 := Aside0.mk (show GetEv A l.length c a _ nm (n3 : Int) v w w6 from ⟨blk_grown (blk_far (blk_alloc G5.out.b (.cells #[.int .i64 y.f0, .int .i64 y.f1, .string y.f2] 37)) (p := ⟨w.heap.size + 1 + 1 + 1, 0, none⟩) (show w.heap.size ≠ w.heap.size + 1 + 1 + 1 by omega) _) hg6 (Kd.R_ne HO5.out G5.out.b (by decide)), blk_grown (blk_far (blk_alloc G5.out.r (.cells #[.int .i64 y.f0, .int .i64 y.f1, .string y.f2] 37)) (p := ⟨w.heap.size + 1 + 1 + 1, 0, none⟩) (show w.heap.size + 1 ≠ w.heap.size + 1 + 1 + 1 by omega) _) hg6 (Kd.R_ne HO5.out G5.out.r (by decide)), blk_grown (blk_far (blk_alloc G5.out.a (.cells #[.int .i64 y.f0, .int .i64 y.f1, .string y.f2] 37)) (p := ⟨w.heap.size + 1 + 1 + 1, 0, none⟩) (show w.heap.size + 1 + 1 ≠ w.heap.size + 1 + 1 + 1 by omega) _) hg6 (Kd.R_ne HO5.out G5.out.a (by decide)), blk_grown (blk_put (blk_alloc G5.out.d (.cells #[.int .i64 y.f0, .int .i64 y.f1, .string y.f2] 37)) 0 _ rfl) hg6 (Kd.R_ne HO5.out G5.out.d (by decide)), blk_grown (blk_far (blk_alloc G5.out.e (.cells #[.int .i64 y.f0, .int .i64 y.f1, .string y.f2] 37)) (p := ⟨w.heap.size + 1 + 1 + 1, 0, none⟩) (show w.heap.size + 1 + 1 + 1 + 1 ≠ w.heap.size + 1 + 1 + 1 by omega) _) hg6 (Kd.R_ne HO5.out G5.out.e (by decide)), hb6⟩); obtain ⟨A6, c6, hv6⟩ := Kd.R_slice ho6; rw [List.length_append, List.length_singleton] at hv6; subst hv6; obtain ⟨e6, _, e6f, _⟩ := know G6.out.e; obtain ⟨a6, a6f⟩ := know_far (b := w.heap.size + 1 + 1 + 1 + 1) G6.out.a (show w.heap.size + 1 + 1 ≠ w.heap.size + 1 + 1 + 1 + 1 by omega); clear ho6 hb6 hg6))
          have HFN : Aside0 ((fs ++ [y]).length = k + 1) := ⟨by rw [List.length_append, HFL.out]; rfl⟩
          have HWN : Aside0 (∀ z ∈ fs ++ [y], i64V z) := ⟨fun z hz => by rcases List.mem_append.1 hz with h | h; exact HWF.out z h; rw [List.mem_singleton.1 h]; exact HYW.out⟩
          have G7 : Aside0 (GetEv A l.length c (a + n5) _ nm (n3 : Int) (.slice A6 (fs.length + 1) c6) w ((w6.setCell ⟨w.heap.size + 1 + 1 + 1 + 1, 2, none⟩ (.slice A6 (fs.length + 1) c6)).setCell ⟨w.heap.size + 1 + 1, 0, none⟩ (.int .i64 ((a : Int) + (n5 : Int))))) := ⟨blk_far (blk_far G6.out.b (p := ⟨w.heap.size + 1 + 1 + 1 + 1, 2, none⟩) (show w.heap.size ≠ w.heap.size + 1 + 1 + 1 + 1 by omega) _) (p := ⟨w.heap.size + 1 + 1, 0, none⟩) (show w.heap.size ≠ w.heap.size + 1 + 1 by omega) _, blk_far (blk_far G6.out.r (p := ⟨w.heap.size + 1 + 1 + 1 + 1, 2, none⟩) (show w.heap.size + 1 ≠ w.heap.size + 1 + 1 + 1 + 1 by omega) _) (p := ⟨w.heap.size + 1 + 1, 0, none⟩) (show w.heap.size + 1 ≠ w.heap.size + 1 + 1 by omega) _, blk_put (blk_far G6.out.a (p := ⟨w.heap.size + 1 + 1 + 1 + 1, 2, none⟩) (show w.heap.size + 1 + 1 ≠ w.heap.size + 1 + 1 + 1 + 1 by omega) _) 0 _ (by simp), blk_far (blk_far G6.out.d (p := ⟨w.heap.size + 1 + 1 + 1 + 1, 2, none⟩) (show w.heap.size + 1 + 1 + 1 ≠ w.heap.size + 1 + 1 + 1 + 1 by omega) _) (p := ⟨w.heap.size + 1 + 1, 0, none⟩) (show w.heap.size + 1 + 1 + 1 ≠ w.heap.size + 1 + 1 by omega) _, blk_far (blk_put G6.out.e 2 _ rfl) (p := ⟨w.heap.size + 1 + 1, 0, none⟩) (show w.heap.size + 1 + 1 + 1 + 1 ≠ w.heap.size + 1 + 1 by omega) _, (G6.out.below.setCell (p := ⟨w.heap.size + 1 + 1 + 1 + 1, 2, none⟩) (show w.heap.size ≤ w.heap.size + 1 + 1 + 1 + 1 by omega) _).setCell (p := ⟨w.heap.size + 1 + 1, 0, none⟩) (show w.heap.size ≤ w.heap.size + 1 + 1 by omega) _⟩
          have HO7 := Aside0.mk (Kd.R_set (Kd.R_set HO6.out G6.out.e (by decide) 2 (.slice A6 (fs.length + 1) c6)) (blk_far G6.out.a (p := ⟨w.heap.size + 1 + 1 + 1 + 1, 2, none⟩) (show w.heap.size + 1 + 1 ≠ w.heap.size + 1 + 1 + 1 + 1 by omega) _) (by decide) 0 (.int .i64 ((a : Int) + (n5 : Int))))
          go_roundw
          case measure => simp [intOf]; omega
          case rel => exact ⟨k + 1, by go_num, by omega, a + n5, _, fs ++ [y], _, HFN.out, hsa, HWN.out, HI5.out, G7.out, HO7.out⟩
      · obtain rfl : k = n4 := by omega
        obtain ⟨Av, cv, hv, hcv, hrv⟩ := Kd.R_reads HO.out
        subst hv
        have HRV := Aside0.mk hrv
        have HCV := Aside0.mk hcv
        have hend := HINV.out
        rw [Nat.sub_self] at hend
        have hend2 := inv_end hend
        obtain ⟨d1', _, _, _⟩ := know HG.out.d
        obtain ⟨e1, _, _, _⟩ := know HG.out.e
        obtain ⟨r1, _, r3, _⟩ := know HG.out.r
        obtain ⟨a1', _, _, _⟩ := know HG.out.a
        clear hrv hcv hend hi0 hsz0
        cases d with
        | true =>
          obtain ⟨rfl, rfl, rfl⟩ := evMk HQ.out hend2
          clear hend2
          go_wp2
          have hz := blk_put3 HG.out.r (.string ⟨#[]⟩) (.int .i64 0) (.slice none 0 0)
          have hbz := below_put3 HG.out.below ((show w.heap.size ≤ w.heap.size + 1 by omega)) (.string ⟨#[]⟩) (.int .i64 0) (.slice none 0 0)
          generalize World.setCell (World.setCell (World.setCell _ _ _) _ _) _ _ = W3 at hz hbz ⊢
          have hz0 : W3.cell? ⟨w.heap.size + 1, 0, none⟩ = some (.string ⟨#[]⟩) := blk_cell hz 0
          have hz1 : W3.cell? ⟨w.heap.size + 1, 1, none⟩ = some (.int .i64 0) := blk_cell hz 1
          have hz2 : W3.cell? ⟨w.heap.size + 1, 2, none⟩ = some (.slice none 0 0) := blk_cell hz 2
          exact bodyPost_ret (v := .tuple #[.agg #[.string ⟨#[]⟩, .int .i64 0, .slice none 0 0], .int .i64 0, .bool false]) (by simp [results, Try.results12, go_sem, hz0, hz1, hz2]) rfl ⟨none, 0, ⟨rfl, Nat.le_refl _, Kd.C_nil _ _⟩, hbz⟩
        | false =>
          obtain ⟨bm, hm⟩ : ∃ bm, mayE ⟨nm, (n3 : Int), fs⟩ = bm := ⟨_, rfl⟩
          rw [hm] at hend2
          have HM := Aside0.mk hm
          clear hm
          cases bm with
          | false =>
            obtain ⟨rfl, rfl, rfl⟩ := evMk HQ.out hend2
            clear hend2
            go_wp2_with (go_at_call 15; refine (event_May.told ⟨nm, (n3 : Int), fs⟩ Av cv _ HRV.out HCV.out HWF.out HM.out).mono ?_; rintro e w8 ⟨rfl, hb8⟩; have G8 := Aside0.mk (show GetEv A l.length c _ false nm (n3 : Int) (.slice Av fs.length cv) w w8 from ⟨blk_below HG.out.b hb8, blk_below HG.out.r hb8, blk_below HG.out.a hb8, blk_below HG.out.d hb8, blk_below HG.out.e hb8, below_step HG.out.below hb8⟩); have HO8 := Aside0.mk (Kd.R_below HO.out hb8); obtain ⟨p1, _, p3, _⟩ := know G8.out.r; obtain ⟨q1, _, _, _⟩ := know G8.out.e; obtain ⟨s1, _, _, _⟩ := know G8.out.a; clear hb8)
            have hz := blk_put3 G8.out.r (.string ⟨#[]⟩) (.int .i64 0) (.slice none 0 0)
            have hbz := below_put3 G8.out.below ((show w.heap.size ≤ w.heap.size + 1 by omega)) (.string ⟨#[]⟩) (.int .i64 0) (.slice none 0 0)
            generalize World.setCell (World.setCell (World.setCell _ _ _) _ _) _ _ = W3 at hz hbz ⊢
            have hz0 : W3.cell? ⟨w.heap.size + 1, 0, none⟩ = some (.string ⟨#[]⟩) := blk_cell hz 0
            have hz1 : W3.cell? ⟨w.heap.size + 1, 1, none⟩ = some (.int .i64 0) := blk_cell hz 1
            have hz2 : W3.cell? ⟨w.heap.size + 1, 2, none⟩ = some (.slice none 0 0) := blk_cell hz 2
            exact bodyPost_ret (v := .tuple #[.agg #[.string ⟨#[]⟩, .int .i64 0, .slice none 0 0], .int .i64 0, .bool false]) (by simp [results, Try.results12, go_sem, hz0, hz1, hz2]) rfl ⟨none, 0, ⟨rfl, Nat.le_refl _, Kd.C_nil _ _⟩, hbz⟩
          | true =>
            obtain ⟨rfl, rfl, rfl⟩ := evMk HQ.out hend2
            clear hend2
            go_wp2_with (go_at_call 15; refine (event_May.told ⟨nm, (n3 : Int), fs⟩ Av cv _ HRV.out HCV.out HWF.out HM.out).mono ?_; rintro e w8 ⟨rfl, hb8⟩; have G8 := Aside0.mk (show GetEv A l.length c _ false nm (n3 : Int) (.slice Av fs.length cv) w w8 from ⟨blk_below HG.out.b hb8, blk_below HG.out.r hb8, blk_below HG.out.a hb8, blk_below HG.out.d hb8, blk_below HG.out.e hb8, below_step HG.out.below hb8⟩); have HO8 := Aside0.mk (Kd.R_below HO.out hb8); obtain ⟨p1, _, p3, _⟩ := know G8.out.r; obtain ⟨q1, _, _, _⟩ := know G8.out.e; obtain ⟨s1, _, _, _⟩ := know G8.out.a; clear hb8)
            have hs80 := q1 0
            have hs81 := q1 1
            have hs82 := q1 2
            have ha80 := s1 0
            have hr80 := p1 0
            have hr81 := p1 1
            have hr82 := p1 2
            have hn1' : w.heap.size + 1 + 1 + 1 + 1 ≠ w.heap.size + 1 := by omega
            have hn2' : w.heap.size + 1 + 1 ≠ w.heap.size + 1 := by omega
            go_region_held3 (fun w' => w'.cell? ⟨w.heap.size + 1 + 1 + 1 + 1, 0, none⟩ = some (.string nm) ∧ w'.cell? ⟨w.heap.size + 1 + 1 + 1 + 1, 1, none⟩ = some (.int .i64 (n3 : Int)) ∧ w'.cell? ⟨w.heap.size + 1 + 1 + 1 + 1, 2, none⟩ = some (.slice Av fs.length cv) ∧ w'.cell? ⟨w.heap.size + 1 + 1, 0, none⟩ = some (.int .i64 (m : Int))) (first | exact ⟨hs80, hs81, hs82, ha80⟩ | exact ⟨cell_far3 (w := w8) hs80 hn1', cell_far3 (w := w8) hs81 hn1', cell_far3 (w := w8) hs82 hn1', cell_far3 (w := w8) ha80 hn2'⟩) (fail)
            have hz := blk_put3 G8.out.r (.string nm) (.int .i64 (n3 : Int)) (.slice Av fs.length cv)
            have hbz := below_put3 G8.out.below (show w.heap.size ≤ w.heap.size + 1 by omega) (.string nm) (.int .i64 (n3 : Int)) (.slice Av fs.length cv)
            have hrz := Kd.R_set (Kd.R_set (Kd.R_set HO8.out G8.out.r (by decide) 0 (.string nm)) (blk_set G8.out.r 0 _) (by decide) 1 (.int .i64 (n3 : Int))) (blk_set (blk_set G8.out.r 0 _) 1 _) (by decide) 2 (.slice Av fs.length cv)
            rename_i hheld_
            clear hheld_ q1 s1 p1 p3 hs80 hs81 hs82 ha80 hr80 hr81 hr82
            generalize World.setCell (World.setCell (World.setCell w8 _ _) _ _) _ _ = W3 at hz hbz hrz ⊢
            have hz0 : W3.cell? ⟨w.heap.size + 1, 0, none⟩ = some (.string nm) := blk_cell hz 0
            have hz1 : W3.cell? ⟨w.heap.size + 1, 1, none⟩ = some (.int .i64 (n3 : Int)) := blk_cell hz 1
            have hz2 : W3.cell? ⟨w.heap.size + 1, 2, none⟩ = some (.slice Av fs.length cv) := blk_cell hz 2
            have HRZ := Aside0.mk (Kd.C_drew (Kd.R_reads' hrz).2.2)
            have HBZ := Aside0.mk (below_drew hbz)
            clear hrz hbz hz
            go_wp2
            exact bodyPost_ret (v := .tuple #[.agg #[.string nm, .int .i64 (n3 : Int), .slice Av fs.length cv], .int .i64 (m : Int), .bool true]) (by simp [results, Try.results12, go_sem, hz0, hz1, hz2]) rfl ⟨Av, cv, ⟨rfl, HCV.out, HRZ.out⟩, HBZ.out⟩
end Go.Proofs.Ytandlemjjlamoaa.P

namespace Go.Proofs.Ytandlemjjlamoaa.P
open Go.RowKit Go.Proofs.YtandlemjjlamoaaW.PrintWords Go.Proofs.YtandlemjjlamoaaW.PrintLast Go.Proofs.YtandlemjjlamoaaW.PrintMore
attribute [local go_sem] max2_int min2_int max_two min_two max_three min_three max_four min_four   -- for this text's walks alone
set_option linter.unusedVariables false
set_option linter.unusedSimpArgs false
section
open Go.Shelf
attribute [local go_sem] Oper.semAt_some
def encP (p : SField × SValue) : Array Value := #[.agg #[.string p.1.f0, .int .i64 p.1.f1], .agg #[.int .i64 p.2.f0, .int .i64 p.2.f1, .string p.2.f2]]
def pairL (fs : List SField) (vs : List SValue) (k : Nat) : List (SField × SValue) := (List.range k).map fun j => (fs.getD j zField, vs.getD j zValue)
theorem pairL_succ (fs : List SField) (vs : List SValue) (k : Nat) : pairL fs vs (k + 1) = pairL fs vs k ++ [(fs.getD k zField, vs.getD k zValue)] := by simp [pairL, List.range_succ]
theorem pairL_length (fs : List SField) (vs : List SValue) (k : Nat) : (pairL fs vs k).length = k := by simp [pairL]
set_option maxRecDepth 100000 in
set_option maxHeartbeats 8000000 in
theorem pairs1_in (n : Nat) (hn : 1 ≤ n) (l Bs Be n₀ : Nat) (nm : ByteArray) (ver : Int) (fs : List SField) (As : Option Addr) (cs : Nat) (nm2 : ByteArray) (tm : Int) (vs : List SValue) (Ae : Option Addr) (ce : Nat) (hlen : fs.length = vs.length)
    (J Jx : List (SField × SValue) → World → Prop) (w0 W : World) (hJ : AbidesFrom W.heap.size J)
    (hY : ∀ pre x W, J pre W → pre.length < fs.length → YieldAt Fence.wide (n - 1) Try.prog l (encP x) W fun e W' => (e = .returned (.bool true) ∧ J (pre ++ [x]) W' ∧ Below n₀ W W') ∨ (e = .returned (.bool false) ∧ Jx (pre ++ [x]) W'))
    (hB0 : Below w0.heap.size w0 W) (hn0 : w0.heap.size ≤ n₀) (hnW : n₀ ≤ W.heap.size)
    (hrs : Kd.C kField w0 As fs.length fs) (hre : Kd.C kValue w0 Ae vs.length vs) (hBs : Bs < n₀) (hBe : Be < n₀)
    (hks : W.heap[Bs]? = some (.cells #[.string nm, .int .i64 ver, .slice As fs.length cs] 35 (0, 0))) (hke : W.heap[Be]? = some (.cells #[.string nm2, .int .i64 tm, .slice Ae vs.length ce] 24 (0, 0))) (h0 : J [] W) :
    CallsIn Fence.wide n Try.prog 52 #[.func (.yield l) #[] #[], .pointer (some ⟨Bs, 0, none⟩), .pointer (some ⟨Be, 0, none⟩)] W fun e W' => (∃ v, e = .returned v) ∧
      ((∃ ys, ys = pairL fs vs fs.length ∧ J ys W') ∨ (∃ pre, (∃ k, k ≤ fs.length ∧ pre = pairL fs vs k) ∧ Jx pre W')) := by
  have hl1 := hrs.2.1
  have HRS := Aside0.mk hrs
  have HRE := Aside0.mk hre
  have HKS := Aside0.mk hks
  have HKE := Aside0.mk hke
  have HB0 := Aside0.mk hB0
  have HLN := Aside0.mk hlen
  have ks2 : W.cell? ⟨Bs, 2, none⟩ = some (.slice As fs.length cs) := blk_cell hks 2
  have hJs := Aside0.mk hJ
  clear hrs hre hks hke hlen hB0 hJ
  refine callsIn_of_wp Try.func52 rfl trivial ?_ rfl
  simp only [Try.ntmps52, List.size_toArray, List.length_cons, List.length_nil, Nat.reduceAdd, Nat.reduceSub, Array.replicate_succ, Array.replicate_zero, List.push_toArray, List.append_toArray, List.nil_append, List.cons_append]
  gi_wp2
  gi_loopw [4, 5, 9] (fun _ _ v9 wr => ∃ k : Nat, k ≤ fs.length ∧ v9 = .int .i64 k ∧ J (pairL fs vs k) wr ∧ Below n₀ W wr) (fun _ _ i _ => fs.length - (intOf i).toNat)
  case atStart => exact ⟨0, Nat.zero_le _, rfl, h0, Below.refl _ _⟩
  case round =>
    obtain ⟨k, hk, rfl, hJk, hnx⟩ := hrel
    by_cases hlt : k < fs.length
    · have hbw : Below w0.heap.size w0 wr := HB0.out.trans (hnx.mono hn0)
      obtain ⟨ad, e, hx0, hx1⟩ := at_TField (Kd.C_below HRS.out hbw) (k : Int) (by omega) (by omega)
      cases e
      obtain ⟨ad2, e, hy0, hy1, hy2⟩ := at_TValue (Kd.C_below HRE.out hbw) (k : Int) (by omega) (by have := HLN.out; omega)
      cases e
      simp only [Int.toNat_natCast] at hx0 hx1 hy0 hy1 hy2
      rw [show rd_TField fs (k : Int) = fs.getD k zField from rfl] at hx0 hx1
      rw [show rd_TValue vs (k : Int) = vs.getD k zValue from rfl] at hy0 hy1 hy2
      have HSC := Aside0.mk (pairL_succ fs vs k)
      have hkv : k < vs.length := by have := HLN.out; omega
      generalize fs.getD k zField = x at *
      generalize vs.getD k zValue = y at *
      have hne : ((k : Int) == (vs.length : Int)) = false := by simp; omega
      have hk2 : (0 : Int) ≤ (k : Int) := by omega
      have hk3 : (k : Int) < (vs.length : Int) := by omega
      have HKE1 := Aside0.mk (blk_alloc (show wr.heap[Be]? = some (.cells #[.string nm2, .int .i64 tm, .slice (some ad2) vs.length ce] 24 (0, 0)) from (hnx.block _ hBe).trans HKE.out) (.cells #[.string x.f0, .int .i64 x.f1] 46))
      have HKX1 := Aside0.mk (blk_new wr (.cells #[.string x.f0, .int .i64 x.f1] 46))
      obtain ⟨e1, _, _, _⟩ := know HKE1.out
      obtain ⟨x1, _, _, _⟩ := know HKX1.out
      have y0 := cell_later (.cells #[.string x.f0, .int .i64 x.f1] 46) hy0
      have y1 := cell_later (.cells #[.string x.f0, .int .i64 x.f1] 46) hy1
      have y2 := cell_later (.cells #[.string x.f0, .int .i64 x.f1] 46) hy2
      have hg := World.grownBy_alloc wr (.cells #[.string x.f0, .int .i64 x.f1] 46) none
      have hJd : J (pairL fs vs k) (wr.alloc (.cells #[.string x.f0, .int .i64 x.f1] 46)).drew := hJs.out _ wr _ none hJk ⟨hg.1, hg.2, hg.3, hg.4, hg.5⟩ (fun r e => by cases e)
      obtain ⟨fn, tmps, assign, body, hy, hR⟩ := hY _ (x, y) _ hJd (by rw [pairL_length]; exact hlt)
      dsimp only [encP] at hy
      clear hJd hg
      have hR2 := hR.mono (R' := fun e W' => ∃ q, e = .returned (.bool q) ∧ Aside0 ((q = true → J (pairL fs vs k ++ [(x, y)]) W' ∧ Below n₀ (wr.alloc (.cells #[.string x.f0, .int .i64 x.f1] 46)).drew W') ∧ (q = false → Jx (pairL fs vs k ++ [(x, y)]) W'))) (by
        rintro e W' (⟨rfl, h1, h2⟩ | ⟨rfl, h1⟩)
        · exact ⟨true, rfl, ⟨fun _ => ⟨h1, h2⟩, fun h => by cases h⟩⟩
        · exact ⟨false, rfl, ⟨(fun h => by cases h), fun _ => h1⟩⟩)
      clear hR hY
      gi_wp2
      gi_region_with (refine hR2.mono ?_; rintro e W3 ⟨q, rfl, hq⟩)
      all_goals
        cases q with
        | true =>
          obtain ⟨hJ3, hk3⟩ := hq.out.1 rfl
          gi_wp2
          go_roundw
          case rel => exact ⟨k + 1, by omega, by simp, by rw [HSC.out]; exact hJ3, hnx.trans ((((Below.refl n₀ wr).alloc (Nat.le_trans hnW hnx.size) _).drew).trans hk3)⟩
          case measure => simp [intOf]; omega
        | false =>
          have hJx3 := hq.out.2 rfl
          gi_wp2
          refine bodyPost_ret (results_none rfl _ _ _) rfl ?_
          exact ⟨⟨_, rfl⟩, .inr ⟨_, ⟨k + 1, by omega, HSC.out.symm⟩, hJx3⟩⟩
    · obtain rfl : k = fs.length := by omega
      gi_wp2
      go_end0
      exact ⟨⟨_, rfl⟩, .inl ⟨_, rfl, hJk⟩⟩
theorem pairs_stops (n : Nat) (hn : 1 ≤ n) (Bs Be n₀ : Nat) (nm : ByteArray) (ver : Int) (fs : List SField) (As : Option Addr) (cs : Nat) (nm2 : ByteArray) (tm : Int) (vs : List SValue) (Ae : Option Addr) (ce : Nat) (hlen : fs.length = vs.length)
    (w0 W : World) (hB0 : Below w0.heap.size w0 W) (hn0 : w0.heap.size ≤ n₀) (hnW : n₀ ≤ W.heap.size)
    (hrs : Kd.C kField w0 As fs.length fs) (hre : Kd.C kValue w0 Ae vs.length vs) (hBs : Bs < n₀) (hBe : Be < n₀)
    (hks : W.heap[Bs]? = some (.cells #[.string nm, .int .i64 ver, .slice As fs.length cs] 35 (0, 0))) (hke : W.heap[Be]? = some (.cells #[.string nm2, .int .i64 tm, .slice Ae vs.length ce] 24 (0, 0))) :
    SeqStopsK Fence.wide n Try.prog 52 #[.pointer (some ⟨Bs, 0, none⟩), .pointer (some ⟨Be, 0, none⟩)] encP (Below n₀) (fun ys => ys = pairL fs vs fs.length) (fun pre => ∃ k, k ≤ fs.length ∧ pre = pairL fs vs k) fs.length W := by
  intro l J Jx W1 hW hJ _ hY h0
  have hs := hW.size
  exact pairs1_in n hn l Bs Be n₀ nm ver fs As cs nm2 tm vs Ae ce hlen J Jx w0 W1 hJ hY (below_step hB0 hW) hn0 (Nat.le_trans hnW hs) hrs hre hBs hBe ((hW.block _ (Nat.lt_of_lt_of_le hBs hnW)).trans hks) ((hW.block _ (Nat.lt_of_lt_of_le hBe hnW)).trans hke) h0
theorem pairs_told (nm : ByteArray) (ver : Int) (As : Option Addr) (ns cs : Nat) (nm2 : ByteArray) (tm : Int) (Ae : Option Addr) (ne ce : Nat) (w : World) :
    Calls Try.prog 30 #[.agg #[.string nm, .int .i64 ver, .slice As ns cs], .agg #[.string nm2, .int .i64 tm, .slice Ae ne ce]] w fun e w' => e = .returned (.func (.func 52) #[] #[.pointer (some ⟨w.heap.size, 0, none⟩), .pointer (some ⟨w.heap.size + 1, 0, none⟩)]) ∧ w' = (w.alloc (.cells #[.string nm, .int .i64 ver, .slice As ns cs] 35)).alloc (.cells #[.string nm2, .int .i64 tm, .slice Ae ne ce] 24) := by
  go_enter Try.func30, Try.ntmps30
  go_wp2
  go_ret
  exact ⟨rfl, rfl⟩
def kindsB (fs : List SField) (vs : List SValue) : Bool := (List.range fs.length).all fun j => (fs.getD j zField).f1 == (vs.getD j zValue).f0
def validE (s : SSchema) (x : SEvent) : Int := if mayS s = true ∧ mayE x = true then (if s.f0.toList = x.f0.toList then (if s.f2.length = x.f2.length then (if kindsB s.f2 x.f2 = true then 0 else 5) else 5) else 3) else 1
theorem kindsB_all {fs : List SField} {vs : List SValue} (h : ∀ p ∈ pairL fs vs fs.length, p.1.f1 = p.2.f0) : kindsB fs vs = true := by
  unfold kindsB
  rw [List.all_eq_true]
  intro j hj
  have := h _ (List.mem_map.2 ⟨j, hj, rfl⟩)
  simpa using this
theorem kindsB_hit {fs : List SField} {vs : List SValue} {k : Nat} (hk : k ≤ fs.length) {p : SField × SValue} (hp : p ∈ pairL fs vs k) (h : p.1.f1 ≠ p.2.f0) : kindsB fs vs = false := by
  unfold kindsB
  rw [List.all_eq_false]
  obtain ⟨j, hj, rfl⟩ := List.mem_map.1 hp
  have := List.mem_range.1 hj
  exact ⟨j, List.mem_range.2 (by omega), by simpa using h⟩
theorem blk_from {W W' : World} {g : Nat} {t : TypeId} {cs : Array Value} {row : Option Nat} (h : W.heap[g]? = some (.cells cs t (0, 0))) (hg : W.grownBy W' row) (hr : ∀ r, row = some r → ∃ o : Obj, W.heap[r]? = some o ∧ o.isCells = false) : W'.heap[g]? = some (.cells cs t (0, 0)) :=
  (hg.block g (blk_lt h) (fun e => by
    obtain ⟨o, ho, hc⟩ := hr g e.symm
    rw [h] at ho
    cases ho
    cases hc)).trans h
def intPost (r : Int) (w : World) (e : Ending) (w' : World) : Prop := e = .returned (.int .i64 r) ∧ Below w.heap.size w w'
theorem mayS_told (x : SSchema) (A2 : Option Addr) (c2 : Nat) (w : World) (hr : Kd.C kField w A2 x.f2.length x.f2) (hc : x.f2.length ≤ c2) {b : Bool} (hb : mayS x = b) :
    Calls Try.prog 14 #[.agg #[.string x.f0, .int .i64 x.f1, .slice A2 x.f2.length c2]] w (boolPost b w) := schema_May.calls x.f0 x.f1 A2 c2 x.f2 b w hr hc (by rw [← hb]; rfl)
set_option maxRecDepth 100000 in
set_option maxHeartbeats 8000000 in
theorem valid_main (s : SSchema) (x : SEvent) (As : Option Addr) (cs : Nat) (Ae : Option Addr) (ce : Nat) (w : World) (hrs : Kd.C kField w As s.f2.length s.f2) (hcs : s.f2.length ≤ cs) (hre : Kd.C kValue w Ae x.f2.length x.f2) (hce : x.f2.length ≤ ce) (hwf : ∀ v ∈ x.f2, i64V v)
    (hms : mayS s = true) (hme : mayE x = true) (hnm : s.f0.toList = x.f0.toList) (hlen : s.f2.length = x.f2.length) :
    CallsIn Fence.wide 6 Try.prog 13 #[.agg #[.string s.f0, .int .i64 s.f1, .slice As s.f2.length cs], .agg #[.string x.f0, .int .i64 x.f1, .slice Ae x.f2.length ce]] w (intPost (if kindsB s.f2 x.f2 = true then 0 else 5) w) := by
  have HRS := Aside0.mk hrs
  have HRE := Aside0.mk hre
  have HCS := Aside0.mk hcs
  have HCE := Aside0.mk hce
  have HWF := Aside0.mk hwf
  have HMS := Aside0.mk hms
  have HME := Aside0.mk hme
  have HLN := Aside0.mk hlen
  have hnm2 : (s.f0.toList != x.f0.toList) = false := by simp [hnm]
  have hnm3 : (s.f0.toList == x.f0.toList) = true := by simp [hnm]
  have hln2 : ((s.f2.length : Int) != (x.f2.length : Int)) = false := by simp [hlen]
  have hln3 : ((s.f2.length : Int) == (x.f2.length : Int)) = true := by simp [hlen]
  clear hrs hcs hre hce hwf hms hme hlen hnm
  obtain ⟨r, hr⟩ : ∃ r : Int, (if kindsB s.f2 x.f2 = true then 0 else 5) = r := ⟨_, rfl⟩
  rw [hr]
  have HRR := Aside0.mk hr
  clear hr
  refine callsIn_of_wp_marks Try.func13 rfl trivial ?_ rfl
  simp only [Try.ntmps13, List.size_toArray, List.length_cons, List.length_nil, Nat.reduceAdd, Nat.reduceSub, Array.replicate_succ, Array.replicate_zero, List.push_toArray, List.append_toArray, List.nil_append, List.cons_append]
  gi_wp2_with (first
    | (refine ⟨trivial, ?_⟩; gi_at_call 14; refine (callsIn_wide.2 (mayS_told s As cs _ (Kd.C_below HRS.out (below_alloc (below_alloc (below_alloc (Below.refl _ _) _) _) _)) HCS.out HMS.out)).mono ?_; rintro e w1 ⟨rfl, hb1⟩; have HB1 := Aside0.mk (below_step (below_alloc (below_alloc (below_alloc (Below.refl _ _) _) _) _) hb1); have HK1 := Aside0.mk (blk_below (blk_alloc (blk_alloc (blk_new w (.cells #[.string s.f0, .int .i64 s.f1, .slice As s.f2.length cs] 35)) _) _) hb1); have HL1 := Aside0.mk (blk_below (blk_alloc (blk_new2 w _ (.cells #[.string x.f0, .int .i64 x.f1, .slice Ae x.f2.length ce] 24)) _) hb1); have HQ1 := Aside0.mk (blk_below (blk_new3 w _ _ (.cells #[.int .i64 0] 38)) hb1); obtain ⟨k1, _, _, _⟩ := know HK1.out; obtain ⟨l1, _, _, _⟩ := know HL1.out; clear hb1)
    | (refine ⟨trivial, ?_⟩; gi_at_call 15; refine (callsIn_wide.2 (event_May.told x Ae ce _ (Kd.C_below HRE.out HB1.out) HCE.out HWF.out HME.out)).mono ?_; rintro e w2 ⟨rfl, hb2⟩; have HB2 := Aside0.mk (below_step HB1.out hb2); have HK2 := Aside0.mk (blk_below HK1.out hb2); have HL2 := Aside0.mk (blk_below HL1.out hb2); have HQ2 := Aside0.mk (blk_below HQ1.out hb2); obtain ⟨k2, _, _, _⟩ := know HK2.out; obtain ⟨l2, _, _, _⟩ := know HL2.out; clear hb2)
    | (refine ⟨trivial, ?_⟩; gi_at_call 30; refine (callsIn_wide.2 (pairs_told s.f0 s.f1 As s.f2.length cs x.f0 x.f1 Ae x.f2.length ce _)).mono ?_; rintro e w3 ⟨rfl, rfl⟩))
  have HB3 := Aside0.mk (below_alloc (below_alloc HB2.out (.cells #[.string s.f0, .int .i64 s.f1, .slice As s.f2.length cs] 35)) (.cells #[.string x.f0, .int .i64 x.f1, .slice Ae x.f2.length ce] 24))
  have HQ3 := Aside0.mk (blk_alloc (blk_alloc HQ2.out (.cells #[.string s.f0, .int .i64 s.f1, .slice As s.f2.length cs] 35)) (.cells #[.string x.f0, .int .i64 x.f1, .slice Ae x.f2.length ce] 24))
  have HS3 := Aside0.mk (blk_alloc (blk_new w2 (.cells #[.string s.f0, .int .i64 s.f1, .slice As s.f2.length cs] 35)) (.cells #[.string x.f0, .int .i64 x.f1, .slice Ae x.f2.length ce] 24))
  have HE3 := Aside0.mk (blk_new2 w2 (.cells #[.string s.f0, .int .i64 s.f1, .slice As s.f2.length cs] 35) (.cells #[.string x.f0, .int .i64 x.f1, .slice Ae x.f2.length ce] 24))
  have hsz : ((w2.alloc (.cells #[.string s.f0, .int .i64 s.f1, .slice As s.f2.length cs] 35)).alloc (.cells #[.string x.f0, .int .i64 x.f1, .slice Ae x.f2.length ce] 24)).heap.size = w2.heap.size + 1 + 1 := by simp
  obtain ⟨W0, hW0⟩ : ∃ W0, ((w2.alloc (.cells #[.string s.f0, .int .i64 s.f1, .slice As s.f2.length cs] 35)).alloc (.cells #[.string x.f0, .int .i64 x.f1, .slice Ae x.f2.length ce] 24)) = W0 := ⟨_, rfl⟩
  rw [hW0] at HB3 HQ3 HS3 HE3 hsz ⊢
  have HSZ := Aside0.mk hsz
  have hw2 := Aside0.mk (below_size HB2.out)
  clear hW0 hsz HB2 HQ2 HK1 HL1 HQ1 HK2 HL2 HB1 k1 l1 k2 l2
  refine wpIn_rangeFunc_ownH (α := SField × SValue) rfl (by decide) (gf := 52) (lb := #[.pointer (some ⟨w2.heap.size, 0, none⟩), .pointer (some ⟨w2.heap.size + 1, 0, none⟩)]) rfl trivial (enters_of Try.func52 (by kernel_rfl) rfl)
    (pairs_stops 5 (by decide) w2.heap.size (w2.heap.size + 1) W0.heap.size s.f0 s.f1 s.f2 As cs x.f0 x.f1 x.f2 Ae ce HLN.out w W0 HB3.out (below_size HB3.out) (Nat.le_refl _) HRS.out HRE.out (by rw [HSZ.out]; omega) (by rw [HSZ.out]; omega) HS3.out HE3.out)
    belowK_t (belowK_b (Nat.le_refl _)) (Below.refl _ _) (fun _ => rfl)
    (fun pre W => ((∀ p ∈ pre, p.1.f1 = p.2.f0) ∧ Boxed W (w.heap.size + 1 + 1) 38 (.int .i64 0)) ∧ Below W0.heap.size W0 W)
    (fun c pre W => ((c = .ret ∧ ∃ p ∈ pre, p.1.f1 ≠ p.2.f0) ∧ Boxed W (w.heap.size + 1 + 1) 38 (.int .i64 5)) ∧ Below w.heap.size w W)
    (OwnFrom.and (OwnFrom.and (ownFrom_pure _ _) (Own.from (boxed_own _ _ _) _)) (ownFrom_below (Nat.le_refl _) (Nat.le_refl _)))
    (fun c => OwnFrom.and (OwnFrom.and (ownFrom_pure _ _) (Own.from (boxed_own _ _ _) _)) (ownFrom_below (Nat.le_refl _) (below_size HB3.out)))
    ⟨⟨(fun p hp => by cases hp), HQ3.out⟩, Below.refl _ _⟩
    (fun p a' W => ∃ Bf Bv, W0.heap.size ≤ Bf ∧ W0.heap.size ≤ Bv ∧ W.heap[Bf]? = some (.cells #[.string p.1.f0, .int .i64 p.1.f1] 46 (0, 0)) ∧ W.heap[Bv]? = some (.cells #[.int .i64 p.2.f0, .int .i64 p.2.f1, .string p.2.f2] 37 (0, 0)) ∧ a' = { tmps := #[.agg #[.string s.f0, .int .i64 s.f1, .slice As s.f2.length cs], .agg #[.string x.f0, .int .i64 x.f1, .slice Ae x.f2.length ce], .pointer (some ⟨w.heap.size, 0, none⟩), .pointer (some ⟨w.heap.size + 1, 0, none⟩), .pointer (some ⟨w.heap.size + 1 + 1, 0, none⟩), .pointer (some ⟨Bf, 0, none⟩), .pointer (some ⟨Bv, 0, none⟩), .bool false, .agg #[.string s.f0, .int .i64 s.f1, .slice As s.f2.length cs], .bool true, .bool false, .agg #[.string x.f0, .int .i64 x.f1, .slice Ae x.f2.length ce], .bool true, .bool false, .bool false, .pointer (some ⟨w.heap.size, 0, none⟩), .string s.f0, .pointer (some ⟨w.heap.size + 1, 0, none⟩), .string x.f0, .bool false, .bool false, .pointer (some ⟨w.heap.size, 2, none⟩), .slice As s.f2.length cs, .int .i64 (s.f2.length : Int), .pointer (some ⟨w.heap.size + 1, 2, none⟩), .slice Ae x.f2.length ce, .int .i64 (x.f2.length : Int), .bool false, .agg #[.string s.f0, .int .i64 s.f1, .slice As s.f2.length cs], .agg #[.string x.f0, .int .i64 x.f1, .slice Ae x.f2.length ce], .func (.func 52) #[] #[.pointer (some ⟨w2.heap.size, 0, none⟩), .pointer (some ⟨w2.heap.size + 1, 0, none⟩)], .agg #[.string p.1.f0, .int .i64 p.1.f1], .agg #[.int .i64 p.2.f0, .int .i64 p.2.f1, .string p.2.f2], undef, undef, undef, undef, undef], defers := [] })
    (fun p a' _ X Y row hs hg hr => by
      obtain ⟨Bf, Bv, h1, h2, h3, h4, h5⟩ := hs
      exact ⟨Bf, Bv, h1, h2, blk_from h3 hg (fun r e => (hr r e).2), blk_from h4 hg (fun r e => (hr r e).2), h5⟩)
    ?assign ?body ?done ?stop
  case assign =>
    rintro l pre p W K ⟨⟨h1, h2⟩, h3⟩ hK
    dsimp only [encP]
    gi_wp2
    have hs := h3.size
    exact hK _ _ (((KeepsOthers.alloc _ _).trans (KeepsOthers.alloc _ _)).from _) (((Below.refl _ W).alloc hs _).alloc (by simp; omega) _) ⟨⟨h1, blk_alloc (blk_alloc h2 _) _⟩, (h3.alloc hs _).alloc (by simp; omega) _⟩ ⟨W.heap.size, W.heap.size + 1, hs, by omega, blk_alloc (blk_new _ _) _, blk_new2 _ _ _, rfl⟩
  case body =>
    rintro l pre p a' W hl ⟨r, hr⟩ ⟨⟨h1, h2⟩, h3⟩ ⟨Bf, Bv, h4, h5, h6, h7, rfl⟩ hlt
    obtain ⟨f1, _, _, _⟩ := know h6
    obtain ⟨v1, _, _, _⟩ := know h7
    obtain ⟨q1, _, q3, _⟩ := know (show W.heap[w.heap.size + 1 + 1]? = some (.cells #[.int .i64 0] 38 (0, 0)) from h2)
    have hbw := below_step HB3.out (h3.mono (Nat.le_refl _))
    by_cases hk : p.1.f1 = p.2.f0
    · have hk2 : (p.1.f1 == p.2.f0) = true := by simp [hk]
      have HK := Aside0.mk hk
      clear hk
      gi_wp2
      exact ⟨KeepsFrom.refl _ _, Below.refl _ _, ⟨fun q hq => (List.mem_append.1 hq).elim (h1 q) (fun e => by rw [List.mem_singleton.1 e]; exact HK.out), h2⟩, h3⟩
    · have hk2 : (p.1.f1 == p.2.f0) = false := by simp [hk]
      have HK := Aside0.mk hk
      clear hk
      gi_wp2
      exact ⟨(KeepsOthers.setCell _ _ _).from _, ⟨⟨rfl, p, by simp, HK.out⟩, blk_put h2 0 _ rfl⟩, hbw.setCell (p := ⟨w.heap.size + 1 + 1, 0, none⟩) (show w.heap.size ≤ w.heap.size + 1 + 1 by omega) _⟩
  case done =>
    rintro D ys W hD rfl ⟨⟨h1, h2⟩, h3⟩ hK
    have hr := HRR.out
    rw [if_pos (kindsB_all h1)] at hr
    subst hr
    obtain ⟨q1, _, q3, _⟩ := know (show W.heap[w.heap.size + 1 + 1]? = some (.cells #[.int .i64 0] 38 (0, 0)) from h2)
    have hbw := below_step HB3.out (h3.mono (Nat.le_refl _))
    gi_wp2
    have hK' := (KeepsOthers.setCell W ⟨w.heap.size + 1 + 1, 0, none⟩ (.int .i64 0)).same D _ hK rfl
    refine ⟨by simp, .inl ⟨_, _, rfl, run_takeDeferred hK', ?_⟩⟩
    have hc5 := cell_kept (World.cell?_setCell_same' W ⟨w.heap.size + 1 + 1, 0, none⟩ (.int .i64 0) (by rw [q1 0]; rfl)) (grownBy_putObj' _ D (.deferred none)) (fun r e => by cases e; exact ⟨_, hK', rfl⟩)
    refine ⟨.int .i64 0, ?_, rfl, (hbw.setCell (p := ⟨w.heap.size + 1 + 1, 0, none⟩) (show w.heap.size ≤ w.heap.size + 1 + 1 by omega) _).trans (belowK_b (w := w) (Nat.le_refl _) _ D _ _ (Nat.le_trans (below_size HB3.out) hD) hK' rfl rfl)⟩
    simp [results, Try.f13, go_sem, hc5]
  case stop =>
    rintro D c pre W hD ⟨k, hk, rfl⟩ ⟨⟨⟨rfl, p, hp, hne⟩, h2⟩, h3⟩ hK
    have hr := HRR.out
    rw [if_neg (by rw [kindsB_hit hk hp hne]; simp)] at hr
    subst hr
    obtain ⟨q1, _, q3, _⟩ := know (show W.heap[w.heap.size + 1 + 1]? = some (.cells #[.int .i64 5] 38 (0, 0)) from h2)
    have HB := Aside0.mk h3
    gi_wp2
    refine ⟨by simp, .inl ⟨_, _, rfl, run_takeDeferred hK, ?_⟩⟩
    have hc5 := cell_kept (q1 0) (grownBy_putObj' _ D (.deferred none)) (fun r e => by cases e; exact ⟨_, hK, rfl⟩)
    refine ⟨.int .i64 5, ?_, rfl, HB.out.trans (belowK_b (w := w) (Nat.le_refl _) W D _ _ (Nat.le_trans (below_size HB3.out) hD) hK rfl rfl)⟩
    simp [results, Try.f13, go_sem, hc5]
set_option maxRecDepth 100000 in
set_option maxHeartbeats 8000000 in
theorem event_Valid.told (s : SSchema) (x : SEvent) (As : Option Addr) (cs : Nat) (Ae : Option Addr) (ce : Nat) (w : World) (hrs : Kd.C kField w As s.f2.length s.f2) (hcs : s.f2.length ≤ cs) (hre : Kd.C kValue w Ae x.f2.length x.f2) (hce : x.f2.length ≤ ce) (hwf : ∀ v ∈ x.f2, i64V v) {r : Int} (hr : validE s x = r) :
    Calls Try.prog 13 #[.agg #[.string s.f0, .int .i64 s.f1, .slice As s.f2.length cs], .agg #[.string x.f0, .int .i64 x.f1, .slice Ae x.f2.length ce]] w (intPost r w) := by
  have HRS := Aside0.mk hrs
  have HRE := Aside0.mk hre
  have HCS := Aside0.mk hcs
  have HCE := Aside0.mk hce
  have HWF := Aside0.mk hwf
  unfold validE at hr
  cases hms : mayS s with
  | false =>
    rw [if_neg (by rw [hms]; simp)] at hr
    subst hr
    have HMS := Aside0.mk hms
    clear hrs hcs hre hce hwf hms
    go_enter Try.func13, Try.ntmps13
    go_wp2_with (go_at_call 14; refine (mayS_told s As cs _ (Kd.C_below HRS.out (below_alloc (below_alloc (below_alloc (Below.refl _ _) _) _) _)) HCS.out HMS.out).mono ?_; rintro e w1 ⟨rfl, hb1⟩; have HB1 := Aside0.mk (below_step (below_alloc (below_alloc (below_alloc (Below.refl _ _) _) _) _) hb1); have HK1 := Aside0.mk (blk_below (blk_alloc (blk_alloc (blk_new w (.cells #[.string s.f0, .int .i64 s.f1, .slice As s.f2.length cs] 35)) _) _) hb1); have HL1 := Aside0.mk (blk_below (blk_alloc (blk_new2 w _ (.cells #[.string x.f0, .int .i64 x.f1, .slice Ae x.f2.length ce] 24)) _) hb1); have HQ1 := Aside0.mk (blk_below (blk_new3 w _ _ (.cells #[.int .i64 0] 38)) hb1); obtain ⟨k1, _, _, _⟩ := know HK1.out; obtain ⟨l1, _, _, _⟩ := know HL1.out; obtain ⟨_, _, _, _⟩ := know HQ1.out; clear hb1)
    have hz := blk_put HQ1.out 0 (.int .i64 1) rfl
    have hbz := HB1.out.setCell (p := ⟨w.heap.size + 1 + 1, 0, none⟩) (show w.heap.size ≤ w.heap.size + 1 + 1 by omega) (.int .i64 1)
    generalize World.setCell _ _ _ = W3 at hz hbz ⊢
    have hz0 : W3.cell? ⟨w.heap.size + 1 + 1, 0, none⟩ = some (.int .i64 1) := blk_cell hz 0
    exact bodyPost_ret (v := .int .i64 1) (by simp [results, Try.results13, go_sem, hz0]) rfl ⟨rfl, hbz⟩
  | true =>
    have HMS := Aside0.mk hms
    cases hme : mayE x with
    | false =>
      rw [if_neg (by rw [hme]; simp)] at hr
      subst hr
      have HME := Aside0.mk hme
      clear hrs hcs hre hce hwf hms hme
      go_enter Try.func13, Try.ntmps13
      go_wp2_with (first
        | (go_at_call 14; refine (mayS_told s As cs _ (Kd.C_below HRS.out (below_alloc (below_alloc (below_alloc (Below.refl _ _) _) _) _)) HCS.out HMS.out).mono ?_; rintro e w1 ⟨rfl, hb1⟩; have HB1 := Aside0.mk (below_step (below_alloc (below_alloc (below_alloc (Below.refl _ _) _) _) _) hb1); have HK1 := Aside0.mk (blk_below (blk_alloc (blk_alloc (blk_new w (.cells #[.string s.f0, .int .i64 s.f1, .slice As s.f2.length cs] 35)) _) _) hb1); have HL1 := Aside0.mk (blk_below (blk_alloc (blk_new2 w _ (.cells #[.string x.f0, .int .i64 x.f1, .slice Ae x.f2.length ce] 24)) _) hb1); have HQ1 := Aside0.mk (blk_below (blk_new3 w _ _ (.cells #[.int .i64 0] 38)) hb1); obtain ⟨k1, _, _, _⟩ := know HK1.out; obtain ⟨l1, _, _, _⟩ := know HL1.out; obtain ⟨_, _, _, _⟩ := know HQ1.out; clear hb1)
        | (go_at_call 15; refine (event_May.told x Ae ce _ (Kd.C_below HRE.out HB1.out) HCE.out HWF.out HME.out).mono ?_; rintro e w2 ⟨rfl, hb2⟩; have HB2 := Aside0.mk (below_step HB1.out hb2); have HK2 := Aside0.mk (blk_below HK1.out hb2); have HL2 := Aside0.mk (blk_below HL1.out hb2); have HQ2 := Aside0.mk (blk_below HQ1.out hb2); obtain ⟨k2, _, _, _⟩ := know HK2.out; obtain ⟨l2, _, _, _⟩ := know HL2.out; obtain ⟨_, _, _, _⟩ := know HQ2.out; clear hb2))
      have hz := blk_put HQ2.out 0 (.int .i64 1) rfl
      have hbz := HB2.out.setCell (p := ⟨w.heap.size + 1 + 1, 0, none⟩) (show w.heap.size ≤ w.heap.size + 1 + 1 by omega) (.int .i64 1)
      generalize World.setCell _ _ _ = W3 at hz hbz ⊢
      have hz0 : W3.cell? ⟨w.heap.size + 1 + 1, 0, none⟩ = some (.int .i64 1) := blk_cell hz 0
      exact bodyPost_ret (v := .int .i64 1) (by simp [results, Try.results13, go_sem, hz0]) rfl ⟨rfl, hbz⟩
    | true =>
      have HME := Aside0.mk hme
      rw [if_pos ⟨hms, hme⟩] at hr
      by_cases hnm : s.f0.toList = x.f0.toList
      · rw [if_pos hnm] at hr
        by_cases hlen : s.f2.length = x.f2.length
        · rw [if_pos hlen] at hr
          subst hr
          exact callsIn_wide.1 (valid_main s x As cs Ae ce w hrs hcs hre hce hwf hms hme hnm hlen)
        · rw [if_neg hlen] at hr
          subst hr
          have hnm3 : (s.f0.toList == x.f0.toList) = true := by simp [hnm]
          have hln3 : ((s.f2.length : Int) == (x.f2.length : Int)) = false := by simp; omega
          clear hrs hcs hre hce hwf hms hme hnm hlen
          go_enter Try.func13, Try.ntmps13
          go_wp2_with (first
            | (go_at_call 14; refine (mayS_told s As cs _ (Kd.C_below HRS.out (below_alloc (below_alloc (below_alloc (Below.refl _ _) _) _) _)) HCS.out HMS.out).mono ?_; rintro e w1 ⟨rfl, hb1⟩; have HB1 := Aside0.mk (below_step (below_alloc (below_alloc (below_alloc (Below.refl _ _) _) _) _) hb1); have HK1 := Aside0.mk (blk_below (blk_alloc (blk_alloc (blk_new w (.cells #[.string s.f0, .int .i64 s.f1, .slice As s.f2.length cs] 35)) _) _) hb1); have HL1 := Aside0.mk (blk_below (blk_alloc (blk_new2 w _ (.cells #[.string x.f0, .int .i64 x.f1, .slice Ae x.f2.length ce] 24)) _) hb1); have HQ1 := Aside0.mk (blk_below (blk_new3 w _ _ (.cells #[.int .i64 0] 38)) hb1); obtain ⟨k1, _, _, _⟩ := know HK1.out; obtain ⟨l1, _, _, _⟩ := know HL1.out; obtain ⟨_, _, _, _⟩ := know HQ1.out; clear hb1)
            | (go_at_call 15; refine (event_May.told x Ae ce _ (Kd.C_below HRE.out HB1.out) HCE.out HWF.out HME.out).mono ?_; rintro e w2 ⟨rfl, hb2⟩; have HB2 := Aside0.mk (below_step HB1.out hb2); have HK2 := Aside0.mk (blk_below HK1.out hb2); have HL2 := Aside0.mk (blk_below HL1.out hb2); have HQ2 := Aside0.mk (blk_below HQ1.out hb2); obtain ⟨k2, _, _, _⟩ := know HK2.out; obtain ⟨l2, _, _, _⟩ := know HL2.out; obtain ⟨_, _, _, _⟩ := know HQ2.out; clear hb2))
          have hz := blk_put HQ2.out 0 (.int .i64 5) rfl
          have hbz := HB2.out.setCell (p := ⟨w.heap.size + 1 + 1, 0, none⟩) (show w.heap.size ≤ w.heap.size + 1 + 1 by omega) (.int .i64 5)
          generalize World.setCell _ _ _ = W3 at hz hbz ⊢
          have hz0 : W3.cell? ⟨w.heap.size + 1 + 1, 0, none⟩ = some (.int .i64 5) := blk_cell hz 0
          exact bodyPost_ret (v := .int .i64 5) (by simp [results, Try.results13, go_sem, hz0]) rfl ⟨rfl, hbz⟩
      · rw [if_neg hnm] at hr
        subst hr
        have hnm3 : (s.f0.toList == x.f0.toList) = false := by simp [hnm]
        clear hrs hcs hre hce hwf hms hme hnm
        go_enter Try.func13, Try.ntmps13
        go_wp2_with (first
          | (go_at_call 14; refine (mayS_told s As cs _ (Kd.C_below HRS.out (below_alloc (below_alloc (below_alloc (Below.refl _ _) _) _) _)) HCS.out HMS.out).mono ?_; rintro e w1 ⟨rfl, hb1⟩; have HB1 := Aside0.mk (below_step (below_alloc (below_alloc (below_alloc (Below.refl _ _) _) _) _) hb1); have HK1 := Aside0.mk (blk_below (blk_alloc (blk_alloc (blk_new w (.cells #[.string s.f0, .int .i64 s.f1, .slice As s.f2.length cs] 35)) _) _) hb1); have HL1 := Aside0.mk (blk_below (blk_alloc (blk_new2 w _ (.cells #[.string x.f0, .int .i64 x.f1, .slice Ae x.f2.length ce] 24)) _) hb1); have HQ1 := Aside0.mk (blk_below (blk_new3 w _ _ (.cells #[.int .i64 0] 38)) hb1); obtain ⟨k1, _, _, _⟩ := know HK1.out; obtain ⟨l1, _, _, _⟩ := know HL1.out; obtain ⟨_, _, _, _⟩ := know HQ1.out; clear hb1)
          | (go_at_call 15; refine (event_May.told x Ae ce _ (Kd.C_below HRE.out HB1.out) HCE.out HWF.out HME.out).mono ?_; rintro e w2 ⟨rfl, hb2⟩; have HB2 := Aside0.mk (below_step HB1.out hb2); have HK2 := Aside0.mk (blk_below HK1.out hb2); have HL2 := Aside0.mk (blk_below HL1.out hb2); have HQ2 := Aside0.mk (blk_below HQ1.out hb2); obtain ⟨k2, _, _, _⟩ := know HK2.out; obtain ⟨l2, _, _, _⟩ := know HL2.out; obtain ⟨_, _, _, _⟩ := know HQ2.out; clear hb2))
        have hz := blk_put HQ2.out 0 (.int .i64 3) rfl
        have hbz := HB2.out.setCell (p := ⟨w.heap.size + 1 + 1, 0, none⟩) (show w.heap.size ≤ w.heap.size + 1 + 1 by omega) (.int .i64 3)
        generalize World.setCell _ _ _ = W3 at hz hbz ⊢
        have hz0 : W3.cell? ⟨w.heap.size + 1 + 1, 0, none⟩ = some (.int .i64 3) := blk_cell hz 0
        exact bodyPost_ret (v := .int .i64 3) (by simp [results, Try.results13, go_sem, hz0]) rfl ⟨rfl, hbz⟩
end
end Go.Proofs.Ytandlemjjlamoaa.P

namespace Go.Proofs.Ytandlemjjlamoaa.P
open Go.RowKit Go.Proofs.YtandlemjjlamoaaW.PrintWords Go.Proofs.YtandlemjjlamoaaW.PrintLast Go.Proofs.YtandlemjjlamoaaW.PrintMore
attribute [local go_sem] max2_int min2_int max_two min_two max_three min_three max_four min_four   -- for this text's walks alone
set_option linter.unusedVariables false
set_option linter.unusedSimpArgs false
mutual
def towncrierlaw06_Few.j0 : Nat → Bool → ByteArray → Int → List (SValue) → Option (Bool)
  | 0, _, _, _, _ => none
  | k + 1, x13, x103000, x103001, x103002 => if x13 = true then (some false) else (towncrierlaw06_Few.l0 k 0 x103000 x103001 x103002)
def towncrierlaw06_Few.l0 : Nat → Int → ByteArray → Int → List (SValue) → Option (Bool)
  | 0, _, _, _, _ => none
  | k + 1, x3, x103000, x103001, x103002 => if x3 < (x103002.length : Int) then (if 0 ≤ x3 then (if (((rd_TValue x103002 x3).f2).size : Int) > 100 then (some false) else (towncrierlaw06_Few.l0 k (wrap64 (x3 + 1)) x103000 x103001 x103002)) else (none)) else (some true)
end
def towncrierlaw06_Few.f (k : Nat) (a0_0 : ByteArray) (a0_1 : Int) (l0_2 : List (SValue)) : Option (Bool) := if (a0_0.size : Int) > 60 then (towncrierlaw06_Few.j0 k true a0_0 a0_1 l0_2) else (towncrierlaw06_Few.j0 k (decide ((l0_2.length : Int) > 10)) a0_0 a0_1 l0_2)
set_option maxHeartbeats 8000000 in
set_option maxRecDepth 100000 in
theorem towncrierlaw06_Few.calls (k : Nat) (a0_0 : ByteArray) (a0_1 : Int) (A0_2 : Option Addr) (c0_2 : Nat) (l0_2 : List (SValue)) (r : Bool) (w : World) (hr0_2 : Kd.C kValue w A0_2 l0_2.length l0_2) (hc0_2 : l0_2.length ≤ c0_2) (h : towncrierlaw06_Few.f k a0_0 a0_1 l0_2 = some r) :
    Calls Try.prog 10 #[.agg #[.string a0_0, .int .i64 a0_1, .slice A0_2 l0_2.length c0_2]] w fun e w' => e = .returned (.bool r) ∧ Below w.heap.size w w' := by
  have hu24 := Try.underlying24
  have HR0_2 := Aside0.mk hr0_2
  have HC0_2 := Aside0.mk hc0_2
  clear hr0_2 hc0_2
  have HB := Aside0.mk (Below.refl w.heap.size w)
  have H : (if (a0_0.size : Int) > 60 then (towncrierlaw06_Few.j0 k true a0_0 a0_1 l0_2) else (towncrierlaw06_Few.j0 k (decide ((l0_2.length : Int) > 10)) a0_0 a0_1 l0_2)) = some r := h
  clear h
  have HC2 := Aside0.mk H
  clear H
  go_enter Try.func10, Try.ntmps10
  go_upto_region 1 with (first | ((with_reducible refine gate_dst (N := 1) rfl ?_); (try (refine gate_guard (by rfl) ?_; dsimp only)); refine box_event ?hg (N := 1) ?hd (cs := #[.string a0_0, .int .i64 a0_1, .slice A0_2 l0_2.length c0_2]) (t := 24) ?hr ?_; (case hd => rfl); (case hg => rfl); (case hr => first | (go_simp; done) | (go_simp; rfl)); intro gb102 hg w3 hbox hb; have n0_ := Aside0.mk (below_step (by repeat (first | (with_reducible first | exact HB.out | apply below_alloc | apply pw_below_drewN | apply below_drew1) | exact HB.out)) hb); have n1_ := Aside0.mk (hbox); have n2_ := Aside0.mk ((by rw [hg]; exact (below_size (by repeat (first | (with_reducible first | exact HB.out | apply below_alloc | apply pw_below_drewN | apply below_drew1) | exact HB.out))) : w.heap.size ≤ gb102)); have n3_ := Aside0.mk ((by rw [hg]; exact (below_size (by repeat (first | (with_reducible first | exact HB.out | apply below_alloc | apply pw_below_drewN | apply below_drew1) | exact HB.out))) : w.heap.size ≤ gb102)); clear HB; have HB := n0_; have BK102 := n1_; have GW102 := n2_; have GE102 := n3_; clear n0_ n1_ n2_ n3_; clear hb hbox hg))
  (try simp only [Act.put, List.setIfInBounds_toArray, List.set_cons_zero, List.set_cons_succ])
  go_cut [13] (fun v13 wc => ∃ (kq : Nat) (x13_1 : Bool), v13 = .bool x13_1 ∧ Aside0 (towncrierlaw06_Few.j0 kq x13_1 a0_0 a0_1 l0_2 = some r) ∧ Aside0 (kq ≤ k) ∧ Aside0 (wc.heap[gb102]? = some (.cells #[.string a0_0, .int .i64 a0_1, (.slice A0_2 l0_2.length c0_2)] 24 (0, 0))) ∧ Aside0 (Below w.heap.size w wc))
  case first =>
    have H := HC2.out
    clear HC2
    by_cases c4 : (a0_0.size : Int) > 60
    · rw [if_pos c4] at H
      have c4b0 : decide (60 < (a0_0.size : Int)) = true := decide_eq_true c4
      have c4b1 : decide (60 < a0_0.size) = true := decide_eq_true (by omega)
      clear c4
      (first | rw [c4b0] | (simp only [i64_w, i32_w]; rw [c4b0]) | skip)
      have H' := Aside0.mk H
      clear H
      have hcz5_0 : w3.cell? ⟨gb102, 0, none⟩ = some (.string a0_0) := (blk_cell BK102.out 0).trans rfl
      have hcz5_1 : w3.cell? ⟨gb102, 1, none⟩ = some (.int .i64 a0_1) := (blk_cell BK102.out 1).trans rfl
      have hcz5_2 : w3.cell? ⟨gb102, 2, none⟩ = some (.slice A0_2 l0_2.length c0_2) := (blk_cell BK102.out 2).trans rfl
      have hfz5_0 := blk_frozen BK102.out 0
      have hfz5_1 := blk_frozen BK102.out 1
      have hfz5_2 := blk_frozen BK102.out 2
      go_wp2
      go_meet
      case rel => exact ⟨_, (true), (by first | rfl | (simp; done) | (simp [*]; done)), H', ⟨by first | omega | exact Nat.le_refl _⟩, ⟨by (with_reducible repeat (first | refine blk_drewN ?_ _ | refine blk_drew ?_ | refine blk_alloc ?_ _)); exact BK102.out⟩, ⟨by repeat (first | (with_reducible first | exact HB.out | apply below_alloc | apply pw_below_drewN | apply below_drew1 | refine below_set ?_ GE102.out) | exact HB.out)⟩⟩
    · rw [if_neg c4] at H
      have c4b0 : decide (60 < (a0_0.size : Int)) = false := decide_eq_false c4
      have c4b1 : decide (60 < a0_0.size) = false := decide_eq_false (by omega)
      clear c4
      (first | rw [c4b0] | (simp only [i64_w, i32_w]; rw [c4b0]) | skip)
      have H' := Aside0.mk H
      clear H
      have hcz6_0 : w3.cell? ⟨gb102, 0, none⟩ = some (.string a0_0) := (blk_cell BK102.out 0).trans rfl
      have hcz6_1 : w3.cell? ⟨gb102, 1, none⟩ = some (.int .i64 a0_1) := (blk_cell BK102.out 1).trans rfl
      have hcz6_2 : w3.cell? ⟨gb102, 2, none⟩ = some (.slice A0_2 l0_2.length c0_2) := (blk_cell BK102.out 2).trans rfl
      have hfz6_0 := blk_frozen BK102.out 0
      have hfz6_1 := blk_frozen BK102.out 1
      have hfz6_2 := blk_frozen BK102.out 2
      go_wp2
      go_meet
      case rel => exact ⟨_, (decide ((l0_2.length : Int) > 10)), (by first | rfl | (simp; done) | (simp [*]; done)), H', ⟨by first | omega | exact Nat.le_refl _⟩, ⟨by (with_reducible repeat (first | refine blk_drewN ?_ _ | refine blk_drew ?_ | refine blk_alloc ?_ _)); exact BK102.out⟩, ⟨by repeat (first | (with_reducible first | exact HB.out | apply below_alloc | apply pw_below_drewN | apply below_drew1 | refine below_set ?_ GE102.out) | exact HB.out)⟩⟩
  case rest =>
    clear HC2
    try clear c1
    try clear p2
    try clear c4
    try clear c4b0
    try clear c4b1
    try clear hcz5_0
    try clear hcz5_1
    try clear hcz5_2
    try clear hcz6_0
    try clear hcz6_1
    try clear hcz6_2
    try clear hfz5_0
    try clear hfz5_1
    try clear hfz5_2
    try clear hfz6_0
    try clear hfz6_1
    try clear hfz6_2
    obtain ⟨kq, x13_1, rfl, HA, HJ1, BK102, HB⟩ := hcut
    cases kq with
    | zero => exact absurd HA.out (by simp [towncrierlaw06_Few.j0])
    | succ kj1 =>
      have H := HA.out
      clear HA
      simp only [towncrierlaw06_Few.j0] at H
      by_cases c7 : x13_1 = true
      · subst c7
        have H1 : (some false) = some r := by rw [if_pos rfl] at H; exact H
        clear H
        have H := H1
        clear H1
        obtain rfl := Option.some.inj H
        go_wp2
        go_ret
        exact ⟨by first | rfl | (simp [errW_none, errW_some] <;> rfl) | (simp [*, errW_none, errW_some] <;> rfl), by repeat (first | (with_reducible first | exact HB.out | apply below_alloc | apply pw_below_drewN | apply below_drew1 | refine below_set ?_ GE102.out) | exact HB.out)⟩
      · replace c7 := Bool.eq_false_iff.mpr c7
        subst c7
        have H1 : (towncrierlaw06_Few.l0 kj1 0 a0_0 a0_1 l0_2) = some r := by rw [if_neg (show ¬ (false = true) by decide)] at H; exact H
        clear H
        have H := H1
        clear H1
        have H' := Aside0.mk H
        clear H
        go_wp2
        go_loopg [3] kj1 (fun kq v3 w' => ∃ (x3_2 : Int), v3 = .int .i64 x3_2 ∧ Aside0 (towncrierlaw06_Few.l0 kq x3_2 a0_0 a0_1 l0_2 = some r) ∧ Aside0 (kq ≤ kj1) ∧ Aside0 (w'.heap[gb102]? = some (.cells #[.string a0_0, .int .i64 a0_1, (.slice A0_2 l0_2.length c0_2)] 24 (0, 0))) ∧ Aside0 (Below w.heap.size w w'))
        case atStart => exact ⟨(0), (by first | rfl | (simp; done) | (simp [*]; done)), H', ⟨Nat.le_refl _⟩, ⟨by (with_reducible repeat (first | refine blk_drewN ?_ _ | refine blk_drew ?_ | refine blk_alloc ?_ _)); exact BK102.out⟩, ⟨by repeat (first | (with_reducible first | exact HB.out | apply below_alloc | apply pw_below_drewN | apply below_drew1 | refine below_set ?_ GE102.out) | exact HB.out)⟩⟩
        case round =>
          clear H'
          try clear c1
          try clear p2
          try clear c4
          try clear c4b0
          try clear c4b1
          try clear c7
          try clear hcz5_0
          try clear hcz5_1
          try clear hcz5_2
          try clear hcz6_0
          try clear hcz6_1
          try clear hcz6_2
          try clear hfz5_0
          try clear hfz5_1
          try clear hfz5_2
          try clear hfz6_0
          try clear hfz6_1
          try clear hfz6_2
          try clear p2
          obtain ⟨x3_2, rfl, HA, HK2, BK102, HB⟩ := hrel
          cases gk with
          | zero => exact absurd HA.out (by simp [towncrierlaw06_Few.l0])
          | succ k2 =>
            have H := HA.out
            clear HA
            simp only [towncrierlaw06_Few.l0] at H
            by_cases c8 : x3_2 < (l0_2.length : Int)
            · rw [if_pos c8] at H
              have c8b0 : decide (x3_2 < (l0_2.length : Int)) = true := decide_eq_true c8
              clear c8
              by_cases c9 : 0 ≤ x3_2
              · rw [if_pos c9] at H
                have c9b0 : decide (0 ≤ x3_2) = true := decide_eq_true c9
                clear c9
                by_cases c10 : (((rd_TValue l0_2 x3_2).f2).size : Int) > 100
                · rw [if_pos c10] at H
                  have c10b0 : decide (100 < (((rd_TValue l0_2 x3_2).f2).size : Int)) = true := decide_eq_true c10
                  have c10b1 : decide (100 < ((rd_TValue l0_2 x3_2).f2).size) = true := decide_eq_true (by omega)
                  clear c10
                  obtain rfl := Option.some.inj H
                  have hcz11_0 : wr.cell? ⟨gb102, 0, none⟩ = some (.string a0_0) := (blk_cell BK102.out 0).trans rfl
                  have hcz11_1 : wr.cell? ⟨gb102, 1, none⟩ = some (.int .i64 a0_1) := (blk_cell BK102.out 1).trans rfl
                  have hcz11_2 : wr.cell? ⟨gb102, 2, none⟩ = some (.slice A0_2 l0_2.length c0_2) := (blk_cell BK102.out 2).trans rfl
                  have hfz11_0 := blk_frozen BK102.out 0
                  have hfz11_1 := blk_frozen BK102.out 1
                  have hfz11_2 := blk_frozen BK102.out 2
                  have p103 : 0 ≤ (x3_2 : Int) := of_decide_eq_true (by first | (with_reducible assumption) | assumption)
                  have q103 : x3_2 < (l0_2.length : Int) := of_decide_eq_true (by first | (with_reducible assumption) | assumption)
                  obtain ⟨ad103, e103, hx103_0, hx103_1, hx103_2⟩ := at_TValue HR0_2.out x3_2 p103 q103
                  cases e103
                  replace hx103_0 := (HB.out.cell (World.block_lt_of_cell? w _ hx103_0)).trans hx103_0
                  replace hx103_1 := (HB.out.cell (World.block_lt_of_cell? w _ hx103_1)).trans hx103_1
                  replace hx103_2 := (HB.out.cell (World.block_lt_of_cell? w _ hx103_2)).trans hx103_2
                  replace p103 := eq_true p103
                  replace q103 := eq_true q103
                  go_wp2
                  go_ret
                  exact ⟨by first | rfl | (simp [errW_none, errW_some] <;> rfl) | (simp [*, errW_none, errW_some] <;> rfl), by repeat (first | (with_reducible first | exact HB.out | apply below_alloc | apply pw_below_drewN | apply below_drew1 | refine below_set ?_ GE102.out) | exact HB.out)⟩
                · rw [if_neg c10] at H
                  have c10b0 : decide (100 < (((rd_TValue l0_2 x3_2).f2).size : Int)) = false := decide_eq_false c10
                  have c10b1 : decide (100 < ((rd_TValue l0_2 x3_2).f2).size) = false := decide_eq_false (by omega)
                  clear c10
                  have H' := Aside0.mk H
                  clear H
                  have hcz12_0 : wr.cell? ⟨gb102, 0, none⟩ = some (.string a0_0) := (blk_cell BK102.out 0).trans rfl
                  have hcz12_1 : wr.cell? ⟨gb102, 1, none⟩ = some (.int .i64 a0_1) := (blk_cell BK102.out 1).trans rfl
                  have hcz12_2 : wr.cell? ⟨gb102, 2, none⟩ = some (.slice A0_2 l0_2.length c0_2) := (blk_cell BK102.out 2).trans rfl
                  have hfz12_0 := blk_frozen BK102.out 0
                  have hfz12_1 := blk_frozen BK102.out 1
                  have hfz12_2 := blk_frozen BK102.out 2
                  have p103 : 0 ≤ (x3_2 : Int) := of_decide_eq_true (by first | (with_reducible assumption) | assumption)
                  have q103 : x3_2 < (l0_2.length : Int) := of_decide_eq_true (by first | (with_reducible assumption) | assumption)
                  obtain ⟨ad103, e103, hx103_0, hx103_1, hx103_2⟩ := at_TValue HR0_2.out x3_2 p103 q103
                  cases e103
                  replace hx103_0 := (HB.out.cell (World.block_lt_of_cell? w _ hx103_0)).trans hx103_0
                  replace hx103_1 := (HB.out.cell (World.block_lt_of_cell? w _ hx103_1)).trans hx103_1
                  replace hx103_2 := (HB.out.cell (World.block_lt_of_cell? w _ hx103_2)).trans hx103_2
                  replace p103 := eq_true p103
                  replace q103 := eq_true q103
                  go_wp2
                  go_roundg k2
                  case measure => have := HJ1.out; have := HK2.out; omega
                  case rel => exact ⟨(wrap64 (x3_2 + 1)), (by first | rfl | (simp; done) | (simp [*]; done)), H', ⟨by have := HJ1.out; have := HK2.out; omega⟩, ⟨by (with_reducible repeat (first | refine blk_drewN ?_ _ | refine blk_drew ?_ | refine blk_alloc ?_ _)); exact BK102.out⟩, ⟨by repeat (first | (with_reducible first | exact HB.out | apply below_alloc | apply pw_below_drewN | apply below_drew1 | refine below_set ?_ GE102.out) | exact HB.out)⟩⟩
              · rw [if_neg c9] at H
                exact absurd H (by simp)
            · rw [if_neg c8] at H
              have c8b0 : decide (x3_2 < (l0_2.length : Int)) = false := decide_eq_false c8
              clear c8
              obtain rfl := Option.some.inj H
              have hcz13_0 : wr.cell? ⟨gb102, 0, none⟩ = some (.string a0_0) := (blk_cell BK102.out 0).trans rfl
              have hcz13_1 : wr.cell? ⟨gb102, 1, none⟩ = some (.int .i64 a0_1) := (blk_cell BK102.out 1).trans rfl
              have hcz13_2 : wr.cell? ⟨gb102, 2, none⟩ = some (.slice A0_2 l0_2.length c0_2) := (blk_cell BK102.out 2).trans rfl
              have hfz13_0 := blk_frozen BK102.out 0
              have hfz13_1 := blk_frozen BK102.out 1
              have hfz13_2 := blk_frozen BK102.out 2
              go_wp2
              go_ret
              exact ⟨by first | rfl | (simp [errW_none, errW_some] <;> rfl) | (simp [*, errW_none, errW_some] <;> rfl), by repeat (first | (with_reducible first | exact HB.out | apply below_alloc | apply pw_below_drewN | apply below_drew1 | refine below_set ?_ GE102.out) | exact HB.out)⟩
end Go.Proofs.Ytandlemjjlamoaa.P

namespace Go.Proofs.Ytandlemjjlamoaa.P
open Go.RowKit Go.Proofs.YtandlemjjlamoaaW.PrintWords Go.Proofs.YtandlemjjlamoaaW.PrintLast Go.Proofs.YtandlemjjlamoaaW.PrintMore
attribute [local go_sem] max2_int min2_int max_two min_two max_three min_three max_four min_four   -- for this text's walks alone
set_option linter.unusedVariables false
set_option linter.unusedSimpArgs false
def towncrierref04_May.f (a0_0 : Int) (a0_1 : Int) (a0_2 : ByteArray) : Option Bool := some (mayV ⟨a0_0, a0_1, a0_2⟩)
set_option maxHeartbeats 4000000 in
theorem refMayV_told (x : SValue) (w : World) {r : Bool} (hr : mayV x = r) : Calls Try.prog 44 #[.agg #[.int .i64 x.f0, .int .i64 x.f1, .string x.f2]] w (boolPost r w) := by
  obtain ⟨k, n, s⟩ := x
  show Calls _ _ #[.agg #[.int .i64 k, .int .i64 n, .string s]] w _
  by_cases hs : s.toList = []
  · obtain rfl := toList_nil hs
    have hmay := @mayV_iff ⟨k, n, ⟨#[]⟩⟩
    have hk : k = 0 ∨ k = 1 ∨ k = 2 ∨ k = 3 ∨ (k ≠ 0 ∧ k ≠ 1 ∧ k ≠ 2 ∧ k ≠ 3) := by omega
    rcases hk with rfl | rfl | rfl | rfl | ⟨h0, h1, h2, h3⟩
    · rw [hmay.2 (.inl ⟨rfl, hs⟩)] at hr
      subst hr
      clear hmay hs
      go_enter Try.func44, Try.ntmps44
      go_wp2
      go_ret
      exact ⟨by first | rfl | (simp; omega), below_alloc (Below.refl _ _) _⟩
    · by_cases hn : 0 ≤ n ∧ n < 2
      · rw [hmay.2 (.inr (.inl ⟨rfl, hs, hn⟩))] at hr
        subst hr
        clear hmay hs
        have hn2 : n = 0 ∨ n = 1 := by omega
        rcases hn2 with rfl | rfl
        all_goals
          clear hn
          go_enter Try.func44, Try.ntmps44
          go_wp2
          go_ret
          exact ⟨by first | rfl | (simp; omega), below_alloc (Below.refl _ _) _⟩
      · rw [show mayV ⟨1, n, ⟨#[]⟩⟩ = false from by rw [← Bool.not_eq_true, hmay]; simp only; omega] at hr
        subst hr
        have hn0 : (n == 0) = false := by simp; omega
        have hn1 : (n == 1) = false := by simp; omega
        clear hmay hs hn
        go_enter Try.func44, Try.ntmps44
        go_wp2
        go_ret
        exact ⟨by first | rfl | (simp; omega), below_alloc (Below.refl _ _) _⟩
    · by_cases hn : n = 0
      · subst hn
        rw [hmay.2 (.inr (.inr (.inl ⟨rfl, rfl, by decide⟩)))] at hr
        subst hr
        clear hmay hs
        go_enter Try.func44, Try.ntmps44
        go_wp2
        go_ret
        exact ⟨by first | rfl | (simp; omega), below_alloc (Below.refl _ _) _⟩
      · rw [show mayV ⟨2, n, ⟨#[]⟩⟩ = false from by rw [← Bool.not_eq_true, hmay]; simp only; omega] at hr
        subst hr
        have hn2 : (n == 0) = false := by simpa using hn
        clear hmay hs hn
        go_enter Try.func44, Try.ntmps44
        go_wp2
        go_ret
        exact ⟨by first | rfl | (simp; omega), below_alloc (Below.refl _ _) _⟩
    · by_cases hn : 0 ≤ n ∧ n ≤ 1125899906842624
      · rw [hmay.2 (.inr (.inr (.inr ⟨rfl, hs, hn⟩)))] at hr
        subst hr
        obtain ⟨hn1, hn2⟩ := hn
        clear hmay hs
        go_enter Try.func44, Try.ntmps44
        go_wp2
        go_ret
        exact ⟨by first | rfl | (simp; omega), below_alloc (Below.refl _ _) _⟩
      · rw [show mayV ⟨3, n, ⟨#[]⟩⟩ = false from by rw [← Bool.not_eq_true, hmay]; simp only; omega] at hr
        subst hr
        clear hmay hs
        have hn2 : n < 0 ∨ 1125899906842624 < n := by omega
        rcases hn2 with hn2 | hn2
        all_goals
          clear hn
          go_enter Try.func44, Try.ntmps44
          go_wp2
          go_ret
          exact ⟨by first | rfl | (simp; omega), below_alloc (Below.refl _ _) _⟩
    · rw [show mayV ⟨k, n, ⟨#[]⟩⟩ = false from by rw [← Bool.not_eq_true, hmay]; simp only; omega] at hr
      subst hr
      have e0 : (k == 0) = false := by simpa using h0
      have e1 : (k == 1) = false := by simpa using h1
      have e2 : (k == 2) = false := by simpa using h2
      have e3 : (k == 3) = false := by simpa using h3
      have e2' : (k != 2) = true := by simpa using h2
      clear hmay hs h0 h1 h2 h3
      go_enter Try.func44, Try.ntmps44
      go_wp2
      go_ret
      exact ⟨by first | rfl | (simp; omega), below_alloc (Below.refl _ _) _⟩
  · have hse : (s.toList == []) = false := by simpa using hs
    have hse2 : s.toList.isEmpty = false := by simpa using hs
    have hmay := @mayV_iff ⟨k, n, s⟩
    by_cases hk : k = 2
    · subst hk
      by_cases hn : n = 0
      · subst hn
        by_cases h40 : s.size ≤ 40
        · rw [hmay.2 (.inr (.inr (.inl ⟨rfl, rfl, h40⟩)))] at hr
          subst hr
          clear hmay
          go_enter Try.func44, Try.ntmps44
          go_wp2
          go_ret
          exact ⟨by first | rfl | (simp; omega), below_alloc (Below.refl _ _) _⟩
        · rw [show mayV ⟨2, 0, s⟩ = false from by rw [← Bool.not_eq_true, hmay]; simp only [hs, false_and, and_false, or_false, false_or]; omega] at hr
          subst hr
          have h41 : 40 < s.size := by omega
          clear hmay h40
          go_enter Try.func44, Try.ntmps44
          go_wp2
          go_ret
          exact ⟨by first | rfl | (simp; omega), below_alloc (Below.refl _ _) _⟩
      · rw [show mayV ⟨2, n, s⟩ = false from by rw [← Bool.not_eq_true, hmay]; simp only [hs, false_and, and_false, or_false, false_or]; omega] at hr
        subst hr
        have hn2 : (n == 0) = false := by simpa using hn
        clear hmay hn
        go_enter Try.func44, Try.ntmps44
        go_wp2
        go_ret
        exact ⟨by first | rfl | (simp; omega), below_alloc (Below.refl _ _) _⟩
    · rw [show mayV ⟨k, n, s⟩ = false from by rw [← Bool.not_eq_true, hmay]; simp only [hs, false_and, and_false, or_false, false_or]; omega] at hr
      subst hr
      have e2 : (k == 2) = false := by simpa using hk
      have e2' : (k != 2) = true := by simpa using hk
      clear hmay hk
      go_enter Try.func44, Try.ntmps44
      go_wp2
      go_ret
      exact ⟨by first | rfl | (simp; omega), below_alloc (Below.refl _ _) _⟩
theorem towncrierref04_May.calls (a0_0 : Int) (a0_1 : Int) (a0_2 : ByteArray) (r : Bool) (w : World) (h : towncrierref04_May.f a0_0 a0_1 a0_2 = some r) :
    Calls Try.prog 44 #[.agg #[.int .i64 a0_0, .int .i64 a0_1, .string a0_2]] w fun e w' => e = .returned (.bool r) ∧ Below w.heap.size w w' :=
  refMayV_told ⟨a0_0, a0_1, a0_2⟩ w (Option.some.inj h)
end Go.Proofs.Ytandlemjjlamoaa.P

namespace Go.Proofs.Ytandlemjjlamoaa.P
open Go.RowKit Go.Proofs.YtandlemjjlamoaaW.PrintWords Go.Proofs.YtandlemjjlamoaaW.PrintLast Go.Proofs.YtandlemjjlamoaaW.PrintMore
attribute [local go_sem] max2_int min2_int max_two min_two max_three min_three max_four min_four   -- for this text's walks alone
set_option linter.unusedVariables false
set_option linter.unusedSimpArgs false
mutual
def towncrierref06_May.j0 : Nat → Bool → ByteArray → Int → List (SValue) → Option (Bool)
  | 0, _, _, _, _ => none
  | k + 1, x26, x107000, x107001, x107002 => if x26 = true then (some false) else (towncrierref06_May.l0 k 0 x107000 x107001 x107002)
def towncrierref06_May.l0 : Nat → Int → ByteArray → Int → List (SValue) → Option (Bool)
  | 0, _, _, _, _ => none
  | k + 1, x4, x107000, x107001, x107002 => if x4 < (x107002.length : Int) then (if 0 ≤ x4 then ((towncrierref04_May.f ((rd_TValue x107002 x4).f0) ((rd_TValue x107002 x4).f1) ((rd_TValue x107002 x4).f2)).bind fun t109 => (if t109 = true then (towncrierref06_May.l0 k (wrap64 (x4 + 1)) x107000 x107001 x107002) else (some false))) else (none)) else (some true)
end
def towncrierref06_May.f (k : Nat) (a0_0 : ByteArray) (a0_1 : Int) (l0_2 : List (SValue)) : Option (Bool) := (towncrierref05_Name.f k a0_0).bind fun t107 => (if t107 = true then (if a0_1 < 0 then (towncrierref06_May.j0 k true a0_0 a0_1 l0_2) else (if a0_1 > 1125899906842624 then (towncrierref06_May.j0 k true a0_0 a0_1 l0_2) else (towncrierref06_May.j0 k (decide ((l0_2.length : Int) > 6)) a0_0 a0_1 l0_2))) else (towncrierref06_May.j0 k true a0_0 a0_1 l0_2))
set_option maxHeartbeats 8000000 in
set_option maxRecDepth 100000 in
theorem towncrierref06_May.calls (k : Nat) (a0_0 : ByteArray) (a0_1 : Int) (A0_2 : Option Addr) (c0_2 : Nat) (l0_2 : List (SValue)) (r : Bool) (w : World) (hr0_2 : Kd.C kValue w A0_2 l0_2.length l0_2) (hc0_2 : l0_2.length ≤ c0_2) (h : towncrierref06_May.f k a0_0 a0_1 l0_2 = some r) :
    Calls Try.prog 20 #[.agg #[.string a0_0, .int .i64 a0_1, .slice A0_2 l0_2.length c0_2]] w fun e w' => e = .returned (.bool r) ∧ Below w.heap.size w w' := by
  have hu24 := Try.underlying24
  have hu37 := Try.underlying37
  have HR0_2 := Aside0.mk hr0_2
  have HC0_2 := Aside0.mk hc0_2
  clear hr0_2 hc0_2
  have HB := Aside0.mk (Below.refl w.heap.size w)
  have H : ((towncrierref05_Name.f k a0_0).bind fun t107 => (if t107 = true then (if a0_1 < 0 then (towncrierref06_May.j0 k true a0_0 a0_1 l0_2) else (if a0_1 > 1125899906842624 then (towncrierref06_May.j0 k true a0_0 a0_1 l0_2) else (towncrierref06_May.j0 k (decide ((l0_2.length : Int) > 6)) a0_0 a0_1 l0_2))) else (towncrierref06_May.j0 k true a0_0 a0_1 l0_2))) = some r := h
  clear h
  replace H := Option.bind_eq_some_iff.mp H
  obtain ⟨t107, A20, H⟩ := H
  replace H : (if t107 = true then (if a0_1 < 0 then (towncrierref06_May.j0 k true a0_0 a0_1 l0_2) else (if a0_1 > 1125899906842624 then (towncrierref06_May.j0 k true a0_0 a0_1 l0_2) else (towncrierref06_May.j0 k (decide ((l0_2.length : Int) > 6)) a0_0 a0_1 l0_2))) else (towncrierref06_May.j0 k true a0_0 a0_1 l0_2)) = some r := H
  have A2 := Aside0.mk A20
  clear A20
  have HC3 := Aside0.mk H
  clear H
  go_enter Try.func20, Try.ntmps20
  go_upto_region 2 with (first | ((with_reducible refine gate_dst (N := 1) rfl ?_); (try (refine gate_guard (by rfl) ?_; dsimp only)); refine box_event ?hg (N := 1) ?hd (cs := #[.string a0_0, .int .i64 a0_1, .slice A0_2 l0_2.length c0_2]) (t := 24) ?hr ?_; (case hd => rfl); (case hg => rfl); (case hr => first | (go_simp; done) | (go_simp; rfl)); intro gb106 hg w4 hbox hb; have n0_ := Aside0.mk (below_step (by repeat (first | (with_reducible first | exact HB.out | apply below_alloc | apply pw_below_drewN | apply below_drew1) | exact HB.out)) hb); have n1_ := Aside0.mk (hbox); have n2_ := Aside0.mk ((by rw [hg]; exact (below_size (by repeat (first | (with_reducible first | exact HB.out | apply below_alloc | apply pw_below_drewN | apply below_drew1) | exact HB.out))) : w.heap.size ≤ gb106)); have n3_ := Aside0.mk ((by rw [hg]; exact (below_size (by repeat (first | (with_reducible first | exact HB.out | apply below_alloc | apply pw_below_drewN | apply below_drew1) | exact HB.out))) : w.heap.size ≤ gb106)); clear HB; have HB := n0_; have BK106 := n1_; have GW106 := n2_; have GE106 := n3_; clear n0_ n1_ n2_ n3_; clear hb hbox hg; have hcz5_0 : w4.cell? ⟨gb106, 0, none⟩ = some (.string a0_0) := (blk_cell BK106.out 0).trans rfl; have hcz5_1 : w4.cell? ⟨gb106, 1, none⟩ = some (.int .i64 a0_1) := (blk_cell BK106.out 1).trans rfl; have hcz5_2 : w4.cell? ⟨gb106, 2, none⟩ = some (.slice A0_2 l0_2.length c0_2) := (blk_cell BK106.out 2).trans rfl; have hfz5_0 := blk_frozen BK106.out 0; have hfz5_1 := blk_frozen BK106.out 1; have hfz5_2 := blk_frozen BK106.out 2) | ((with_reducible refine gate_callee (f := 43) rfl ?_); refine goesL_ (some 8) rfl rfl Try.func43 (by kernel_rfl) rfl #[.string a0_0] rfl (by (try simp only [List.map_toArray, List.map_cons, List.map_nil]); first | done | rfl | (simp only [List.length_drop, List.length_take]; rfl)) ?_; (with_reducible refine (towncrierref05_Name.calls k a0_0 t107 _ A2.out).mono ?_); rintro e w' ⟨rfl, ⟨nd, rfl⟩⟩; refine ⟨_, rfl, ?_⟩))
  (try simp only [Act.put, List.setIfInBounds_toArray, List.set_cons_zero, List.set_cons_succ])
  go_cut [26] (fun v26 wc => ∃ (kq : Nat) (x26_2 : Bool), v26 = .bool x26_2 ∧ Aside0 (towncrierref06_May.j0 kq x26_2 a0_0 a0_1 l0_2 = some r) ∧ Aside0 (kq ≤ k) ∧ Aside0 (wc.heap[gb106]? = some (.cells #[.string a0_0, .int .i64 a0_1, (.slice A0_2 l0_2.length c0_2)] 24 (0, 0))) ∧ Aside0 (Below w.heap.size w wc))
  case first =>
    have H := HC3.out
    clear HC3
    by_cases c6 : t107 = true
    · subst c6
      have H1 : (if a0_1 < 0 then (towncrierref06_May.j0 k true a0_0 a0_1 l0_2) else (if a0_1 > 1125899906842624 then (towncrierref06_May.j0 k true a0_0 a0_1 l0_2) else (towncrierref06_May.j0 k (decide ((l0_2.length : Int) > 6)) a0_0 a0_1 l0_2))) = some r := by rw [if_pos rfl] at H; exact H
      clear H
      have H := H1
      clear H1
      by_cases c7 : a0_1 < 0
      · rw [if_pos c7] at H
        have c7b0 : decide (a0_1 < 0) = true := decide_eq_true c7
        clear c7
        (first | rw [c7b0] | (simp only [i64_w, i32_w]; rw [c7b0]) | skip)
        have H' := Aside0.mk H
        clear H
        have hcz8_0 : w4.cell? ⟨gb106, 0, none⟩ = some (.string a0_0) := (blk_cell BK106.out 0).trans rfl
        have hcz8_1 : w4.cell? ⟨gb106, 1, none⟩ = some (.int .i64 a0_1) := (blk_cell BK106.out 1).trans rfl
        have hcz8_2 : w4.cell? ⟨gb106, 2, none⟩ = some (.slice A0_2 l0_2.length c0_2) := (blk_cell BK106.out 2).trans rfl
        have hfz8_0 := blk_frozen BK106.out 0
        have hfz8_1 := blk_frozen BK106.out 1
        have hfz8_2 := blk_frozen BK106.out 2
        go_wp2
        go_meet
        case rel => exact ⟨_, (true), (by first | rfl | (simp; done) | (simp [*]; done)), H', ⟨by first | omega | exact Nat.le_refl _⟩, ⟨by (with_reducible repeat (first | refine blk_drewN ?_ _ | refine blk_drew ?_ | refine blk_alloc ?_ _)); exact BK106.out⟩, ⟨by repeat (first | (with_reducible first | exact HB.out | apply below_alloc | apply pw_below_drewN | apply below_drew1 | refine below_set ?_ GE106.out) | exact HB.out)⟩⟩
      · rw [if_neg c7] at H
        have c7b0 : decide (a0_1 < 0) = false := decide_eq_false c7
        clear c7
        (first | rw [c7b0] | (simp only [i64_w, i32_w]; rw [c7b0]) | skip)
        by_cases c9 : a0_1 > 1125899906842624
        · rw [if_pos c9] at H
          have c9b0 : decide (1125899906842624 < a0_1) = true := decide_eq_true c9
          clear c9
          have H' := Aside0.mk H
          clear H
          have hcz10_0 : w4.cell? ⟨gb106, 0, none⟩ = some (.string a0_0) := (blk_cell BK106.out 0).trans rfl
          have hcz10_1 : w4.cell? ⟨gb106, 1, none⟩ = some (.int .i64 a0_1) := (blk_cell BK106.out 1).trans rfl
          have hcz10_2 : w4.cell? ⟨gb106, 2, none⟩ = some (.slice A0_2 l0_2.length c0_2) := (blk_cell BK106.out 2).trans rfl
          have hfz10_0 := blk_frozen BK106.out 0
          have hfz10_1 := blk_frozen BK106.out 1
          have hfz10_2 := blk_frozen BK106.out 2
          go_wp2
          go_meet
          case rel => exact ⟨_, (true), (by first | rfl | (simp; done) | (simp [*]; done)), H', ⟨by first | omega | exact Nat.le_refl _⟩, ⟨by (with_reducible repeat (first | refine blk_drewN ?_ _ | refine blk_drew ?_ | refine blk_alloc ?_ _)); exact BK106.out⟩, ⟨by repeat (first | (with_reducible first | exact HB.out | apply below_alloc | apply pw_below_drewN | apply below_drew1 | refine below_set ?_ GE106.out) | exact HB.out)⟩⟩
        · rw [if_neg c9] at H
          have c9b0 : decide (1125899906842624 < a0_1) = false := decide_eq_false c9
          clear c9
          have H' := Aside0.mk H
          clear H
          have hcz11_0 : w4.cell? ⟨gb106, 0, none⟩ = some (.string a0_0) := (blk_cell BK106.out 0).trans rfl
          have hcz11_1 : w4.cell? ⟨gb106, 1, none⟩ = some (.int .i64 a0_1) := (blk_cell BK106.out 1).trans rfl
          have hcz11_2 : w4.cell? ⟨gb106, 2, none⟩ = some (.slice A0_2 l0_2.length c0_2) := (blk_cell BK106.out 2).trans rfl
          have hfz11_0 := blk_frozen BK106.out 0
          have hfz11_1 := blk_frozen BK106.out 1
          have hfz11_2 := blk_frozen BK106.out 2
          go_wp2
          go_meet
          case rel => exact ⟨_, (decide ((l0_2.length : Int) > 6)), (by first | rfl | (simp; done) | (simp [*]; done)), H', ⟨by first | omega | exact Nat.le_refl _⟩, ⟨by (with_reducible repeat (first | refine blk_drewN ?_ _ | refine blk_drew ?_ | refine blk_alloc ?_ _)); exact BK106.out⟩, ⟨by repeat (first | (with_reducible first | exact HB.out | apply below_alloc | apply pw_below_drewN | apply below_drew1 | refine below_set ?_ GE106.out) | exact HB.out)⟩⟩
    · replace c6 := Bool.eq_false_iff.mpr c6
      subst c6
      have H1 : (towncrierref06_May.j0 k true a0_0 a0_1 l0_2) = some r := by rw [if_neg (show ¬ (false = true) by decide)] at H; exact H
      clear H
      have H := H1
      clear H1
      have H' := Aside0.mk H
      clear H
      go_wp2
      go_meet
      case rel => exact ⟨_, (true), (by first | rfl | (simp; done) | (simp [*]; done)), H', ⟨by first | omega | exact Nat.le_refl _⟩, ⟨by (with_reducible repeat (first | refine blk_drewN ?_ _ | refine blk_drew ?_ | refine blk_alloc ?_ _)); exact BK106.out⟩, ⟨by repeat (first | (with_reducible first | exact HB.out | apply below_alloc | apply pw_below_drewN | apply below_drew1 | refine below_set ?_ GE106.out) | exact HB.out)⟩⟩
  case rest =>
    clear HC3
    try clear c2
    try clear p2
    try clear c4
    try clear c6
    try clear c7
    try clear c7b0
    try clear c9
    try clear c9b0
    try clear hcz10_0
    try clear hcz10_1
    try clear hcz10_2
    try clear hcz11_0
    try clear hcz11_1
    try clear hcz11_2
    try clear hcz5_0
    try clear hcz5_1
    try clear hcz5_2
    try clear hcz8_0
    try clear hcz8_1
    try clear hcz8_2
    try clear hfz10_0
    try clear hfz10_1
    try clear hfz10_2
    try clear hfz11_0
    try clear hfz11_1
    try clear hfz11_2
    try clear hfz5_0
    try clear hfz5_1
    try clear hfz5_2
    try clear hfz8_0
    try clear hfz8_1
    try clear hfz8_2
    obtain ⟨kq, x26_2, rfl, HA, HJ2, BK106, HB⟩ := hcut
    cases kq with
    | zero => exact absurd HA.out (by simp [towncrierref06_May.j0])
    | succ kj2 =>
      have H := HA.out
      clear HA
      simp only [towncrierref06_May.j0] at H
      by_cases c12 : x26_2 = true
      · subst c12
        have H1 : (some false) = some r := by rw [if_pos rfl] at H; exact H
        clear H
        have H := H1
        clear H1
        obtain rfl := Option.some.inj H
        go_wp2
        go_ret
        exact ⟨by first | rfl | (simp [errW_none, errW_some] <;> rfl) | (simp [*, errW_none, errW_some] <;> rfl), by repeat (first | (with_reducible first | exact HB.out | apply below_alloc | apply pw_below_drewN | apply below_drew1 | refine below_set ?_ GE106.out) | exact HB.out)⟩
      · replace c12 := Bool.eq_false_iff.mpr c12
        subst c12
        have H1 : (towncrierref06_May.l0 kj2 0 a0_0 a0_1 l0_2) = some r := by rw [if_neg (show ¬ (false = true) by decide)] at H; exact H
        clear H
        have H := H1
        clear H1
        have H' := Aside0.mk H
        clear H
        go_wp2
        go_loopg [4] kj2 (fun kq v4 w' => ∃ (x4_2 : Int), v4 = .int .i64 x4_2 ∧ Aside0 (towncrierref06_May.l0 kq x4_2 a0_0 a0_1 l0_2 = some r) ∧ Aside0 (kq ≤ kj2) ∧ Aside0 (w'.heap[gb106]? = some (.cells #[.string a0_0, .int .i64 a0_1, (.slice A0_2 l0_2.length c0_2)] 24 (0, 0))) ∧ Aside0 (Below w.heap.size w w'))
        case atStart => exact ⟨(0), (by first | rfl | (simp; done) | (simp [*]; done)), H', ⟨Nat.le_refl _⟩, ⟨by (with_reducible repeat (first | refine blk_drewN ?_ _ | refine blk_drew ?_ | refine blk_alloc ?_ _)); exact BK106.out⟩, ⟨by repeat (first | (with_reducible first | exact HB.out | apply below_alloc | apply pw_below_drewN | apply below_drew1 | refine below_set ?_ GE106.out) | exact HB.out)⟩⟩
        case round =>
          clear H'
          try clear c1
          try clear c2
          try clear p2
          try clear c4
          try clear c6
          try clear c7
          try clear c7b0
          try clear c9
          try clear c9b0
          try clear c12
          try clear hcz10_0
          try clear hcz10_1
          try clear hcz10_2
          try clear hcz11_0
          try clear hcz11_1
          try clear hcz11_2
          try clear hcz5_0
          try clear hcz5_1
          try clear hcz5_2
          try clear hcz8_0
          try clear hcz8_1
          try clear hcz8_2
          try clear hfz10_0
          try clear hfz10_1
          try clear hfz10_2
          try clear hfz11_0
          try clear hfz11_1
          try clear hfz11_2
          try clear hfz5_0
          try clear hfz5_1
          try clear hfz5_2
          try clear hfz8_0
          try clear hfz8_1
          try clear hfz8_2
          try clear p2
          obtain ⟨x4_2, rfl, HA, HK2, BK106, HB⟩ := hrel
          cases gk with
          | zero => exact absurd HA.out (by simp [towncrierref06_May.l0])
          | succ k2 =>
            have H := HA.out
            clear HA
            simp only [towncrierref06_May.l0] at H
            by_cases c13 : x4_2 < (l0_2.length : Int)
            · rw [if_pos c13] at H
              have c13b0 : decide (x4_2 < (l0_2.length : Int)) = true := decide_eq_true c13
              clear c13
              by_cases c14 : 0 ≤ x4_2
              · rw [if_pos c14] at H
                have c14b0 : decide (0 ≤ x4_2) = true := decide_eq_true c14
                clear c14
                replace H := Option.bind_eq_some_iff.mp H
                obtain ⟨t109, A150, H⟩ := H
                replace H : (if t109 = true then (towncrierref06_May.l0 k2 (wrap64 (x4_2 + 1)) a0_0 a0_1 l0_2) else (some false)) = some r := H
                have A15 := Aside0.mk A150
                clear A150
                by_cases c16 : t109 = true
                · subst c16
                  have H1 : (towncrierref06_May.l0 k2 (wrap64 (x4_2 + 1)) a0_0 a0_1 l0_2) = some r := by rw [if_pos rfl] at H; exact H
                  clear H
                  have H := H1
                  clear H1
                  have H' := Aside0.mk H
                  clear H
                  have hcz17_0 : wr.cell? ⟨gb106, 0, none⟩ = some (.string a0_0) := (blk_cell BK106.out 0).trans rfl
                  have hcz17_1 : wr.cell? ⟨gb106, 1, none⟩ = some (.int .i64 a0_1) := (blk_cell BK106.out 1).trans rfl
                  have hcz17_2 : wr.cell? ⟨gb106, 2, none⟩ = some (.slice A0_2 l0_2.length c0_2) := (blk_cell BK106.out 2).trans rfl
                  have hfz17_0 := blk_frozen BK106.out 0
                  have hfz17_1 := blk_frozen BK106.out 1
                  have hfz17_2 := blk_frozen BK106.out 2
                  have p108 : 0 ≤ (x4_2 : Int) := of_decide_eq_true (by first | (with_reducible assumption) | assumption)
                  have q108 : x4_2 < (l0_2.length : Int) := of_decide_eq_true (by first | (with_reducible assumption) | assumption)
                  obtain ⟨ad108, e108, hx108_0, hx108_1, hx108_2⟩ := at_TValue HR0_2.out x4_2 p108 q108
                  cases e108
                  replace hx108_0 := (HB.out.cell (World.block_lt_of_cell? w _ hx108_0)).trans hx108_0
                  replace hx108_1 := (HB.out.cell (World.block_lt_of_cell? w _ hx108_1)).trans hx108_1
                  replace hx108_2 := (HB.out.cell (World.block_lt_of_cell? w _ hx108_2)).trans hx108_2
                  replace p108 := eq_true p108
                  replace q108 := eq_true q108
                  go_wp2_with (first | ((with_reducible refine gate_callee (f := 44) rfl ?_); refine goesL_ (some 39) rfl rfl Try.func44 (by kernel_rfl) rfl #[.agg #[.int .i64 ((rd_TValue l0_2 x4_2).f0), .int .i64 ((rd_TValue l0_2 x4_2).f1), .string ((rd_TValue l0_2 x4_2).f2)]] rfl (by (try simp only [List.map_toArray, List.map_cons, List.map_nil]); first | done | rfl | (simp only [List.length_drop, List.length_take]; rfl)) ?_; (with_reducible refine (towncrierref04_May.calls ((rd_TValue l0_2 x4_2).f0) ((rd_TValue l0_2 x4_2).f1) ((rd_TValue l0_2 x4_2).f2) true _ A15.out).mono ?_); rintro e w18 ⟨rfl, hb⟩; refine ⟨_, rfl, ?_⟩; have n0_ := Aside0.mk (blk_below (g := gb106) (o := .cells #[.string a0_0, .int .i64 a0_1, .slice (some ad108) l0_2.length c0_2] 24 (0, 0)) (by (with_reducible repeat (first | refine blk_drewN ?_ _ | refine blk_drew ?_ | refine blk_alloc ?_ _)); exact BK106.out) hb); have n1_ := Aside0.mk (below_step (by repeat (first | (with_reducible first | exact HB.out | apply below_alloc | apply pw_below_drewN | apply below_drew1 | refine below_set ?_ GE106.out) | exact HB.out)) hb); clear BK106; clear HB; have BK106 := n0_; have HB := n1_; clear n0_ n1_; (try clear hb); (try clear hb2); (try clear hk); (try clear hi)))
                  go_roundg k2
                  case measure => have := HJ2.out; have := HK2.out; omega
                  case rel => exact ⟨(wrap64 (x4_2 + 1)), (by first | rfl | (simp; done) | (simp [*]; done)), H', ⟨by have := HJ2.out; have := HK2.out; omega⟩, ⟨by (with_reducible repeat (first | refine blk_drewN ?_ _ | refine blk_drew ?_ | refine blk_alloc ?_ _)); exact BK106.out⟩, ⟨by repeat (first | (with_reducible first | exact HB.out | apply below_alloc | apply pw_below_drewN | apply below_drew1 | refine below_set ?_ GE106.out) | exact HB.out)⟩⟩
                · replace c16 := Bool.eq_false_iff.mpr c16
                  subst c16
                  have H1 : (some false) = some r := by rw [if_neg (show ¬ (false = true) by decide)] at H; exact H
                  clear H
                  have H := H1
                  clear H1
                  obtain rfl := Option.some.inj H
                  have hcz19_0 : wr.cell? ⟨gb106, 0, none⟩ = some (.string a0_0) := (blk_cell BK106.out 0).trans rfl
                  have hcz19_1 : wr.cell? ⟨gb106, 1, none⟩ = some (.int .i64 a0_1) := (blk_cell BK106.out 1).trans rfl
                  have hcz19_2 : wr.cell? ⟨gb106, 2, none⟩ = some (.slice A0_2 l0_2.length c0_2) := (blk_cell BK106.out 2).trans rfl
                  have hfz19_0 := blk_frozen BK106.out 0
                  have hfz19_1 := blk_frozen BK106.out 1
                  have hfz19_2 := blk_frozen BK106.out 2
                  have p108 : 0 ≤ (x4_2 : Int) := of_decide_eq_true (by first | (with_reducible assumption) | assumption)
                  have q108 : x4_2 < (l0_2.length : Int) := of_decide_eq_true (by first | (with_reducible assumption) | assumption)
                  obtain ⟨ad108, e108, hx108_0, hx108_1, hx108_2⟩ := at_TValue HR0_2.out x4_2 p108 q108
                  cases e108
                  replace hx108_0 := (HB.out.cell (World.block_lt_of_cell? w _ hx108_0)).trans hx108_0
                  replace hx108_1 := (HB.out.cell (World.block_lt_of_cell? w _ hx108_1)).trans hx108_1
                  replace hx108_2 := (HB.out.cell (World.block_lt_of_cell? w _ hx108_2)).trans hx108_2
                  replace p108 := eq_true p108
                  replace q108 := eq_true q108
                  go_wp2_with (first | ((with_reducible refine gate_callee (f := 44) rfl ?_); refine goesL_ (some 39) rfl rfl Try.func44 (by kernel_rfl) rfl #[.agg #[.int .i64 ((rd_TValue l0_2 x4_2).f0), .int .i64 ((rd_TValue l0_2 x4_2).f1), .string ((rd_TValue l0_2 x4_2).f2)]] rfl (by (try simp only [List.map_toArray, List.map_cons, List.map_nil]); first | done | rfl | (simp only [List.length_drop, List.length_take]; rfl)) ?_; (with_reducible refine (towncrierref04_May.calls ((rd_TValue l0_2 x4_2).f0) ((rd_TValue l0_2 x4_2).f1) ((rd_TValue l0_2 x4_2).f2) false _ A15.out).mono ?_); rintro e w20 ⟨rfl, hb⟩; refine ⟨_, rfl, ?_⟩; have n0_ := Aside0.mk (blk_below (g := gb106) (o := .cells #[.string a0_0, .int .i64 a0_1, .slice (some ad108) l0_2.length c0_2] 24 (0, 0)) (by (with_reducible repeat (first | refine blk_drewN ?_ _ | refine blk_drew ?_ | refine blk_alloc ?_ _)); exact BK106.out) hb); have n1_ := Aside0.mk (below_step (by repeat (first | (with_reducible first | exact HB.out | apply below_alloc | apply pw_below_drewN | apply below_drew1 | refine below_set ?_ GE106.out) | exact HB.out)) hb); clear BK106; clear HB; have BK106 := n0_; have HB := n1_; clear n0_ n1_; (try clear hb); (try clear hb2); (try clear hk); (try clear hi)))
                  go_ret
                  exact ⟨by first | rfl | (simp [errW_none, errW_some] <;> rfl) | (simp [*, errW_none, errW_some] <;> rfl), by repeat (first | (with_reducible first | exact HB.out | apply below_alloc | apply pw_below_drewN | apply below_drew1 | refine below_set ?_ GE106.out) | exact HB.out)⟩
              · rw [if_neg c14] at H
                exact absurd H (by simp)
            · rw [if_neg c13] at H
              have c13b0 : decide (x4_2 < (l0_2.length : Int)) = false := decide_eq_false c13
              clear c13
              obtain rfl := Option.some.inj H
              have hcz21_0 : wr.cell? ⟨gb106, 0, none⟩ = some (.string a0_0) := (blk_cell BK106.out 0).trans rfl
              have hcz21_1 : wr.cell? ⟨gb106, 1, none⟩ = some (.int .i64 a0_1) := (blk_cell BK106.out 1).trans rfl
              have hcz21_2 : wr.cell? ⟨gb106, 2, none⟩ = some (.slice A0_2 l0_2.length c0_2) := (blk_cell BK106.out 2).trans rfl
              have hfz21_0 := blk_frozen BK106.out 0
              have hfz21_1 := blk_frozen BK106.out 1
              have hfz21_2 := blk_frozen BK106.out 2
              go_wp2
              go_ret
              exact ⟨by first | rfl | (simp [errW_none, errW_some] <;> rfl) | (simp [*, errW_none, errW_some] <;> rfl), by repeat (first | (with_reducible first | exact HB.out | apply below_alloc | apply pw_below_drewN | apply below_drew1 | refine below_set ?_ GE106.out) | exact HB.out)⟩
theorem refMayE_loop (nm : ByteArray) (tm : Int) (l : List SValue) (hl : l.length < 4611686018427387904) : ∀ (d i k : Nat), i + d = l.length → d < k → towncrierref06_May.l0 k (i : Int) nm tm l = some (!((l.drop i).any fun v => !mayV v)) := by
  intro d
  induction d with
  | zero =>
    intro i k hi hk
    obtain ⟨k, rfl⟩ := rounds_of hk
    simp only [towncrierref06_May.l0]
    rw [if_neg (by omega), List.drop_of_length_le (by omega)]
    rfl
  | succ d ih =>
    intro i k hi hk
    obtain ⟨k, rfl⟩ := rounds_of hk
    have hlt : i < l.length := by omega
    simp only [towncrierref06_May.l0]
    rw [if_pos (by omega), if_pos (by omega), show rd_TValue l (i : Int) = l.getD i zValue from rfl]
    unfold towncrierref04_May.f
    rw [Option.bind_some, wrap_succ (by omega), List.drop_eq_getElem_cons hlt, List.any_cons]
    have e : l.getD i zValue = l[i] := by simp [List.getD, hlt]
    rw [e]
    have e2 : (⟨l[i].f0, l[i].f1, l[i].f2⟩ : SValue) = l[i] := rfl
    rw [e2]
    cases hm : mayV l[i] with
    | true => rw [if_pos rfl, ih (i + 1) k (by omega) (by omega)]; simp
    | false => rw [if_neg (by simp)]; simp
theorem refMayE_is (x : SEvent) {S k : Nat} (hn : x.f0.size ≤ S) (hS : S < 4611686018427387904) (hl : x.f2.length < 4611686018427387904) (hk : S + 100 < k) : towncrierref06_May.f k x.f0 x.f1 x.f2 = some (mayE x) := by
  obtain ⟨k, rfl⟩ : ∃ m, k = m + 1 := ⟨k - 1, by omega⟩
  unfold towncrierref06_May.f
  rw [refName_is x.f0 hn hS (by omega), Option.bind_some]
  unfold mayE
  cases hq : nameB x.f0 with
  | false => rw [if_neg (by simp)]; simp [towncrierref06_May.j0]
  | true =>
    rw [if_pos rfl, Bool.true_and]
    by_cases h0 : x.f1 < 0
    · rw [if_pos h0, show decide (0 ≤ x.f1) = false from decide_eq_false (by omega), Bool.false_and]; simp [towncrierref06_May.j0]
    · rw [if_neg h0, show decide (0 ≤ x.f1) = true from decide_eq_true (by omega), Bool.true_and]
      by_cases h1 : x.f1 > 1125899906842624
      · rw [if_pos h1, show decide (x.f1 ≤ 1125899906842624) = false from decide_eq_false (by omega), Bool.false_and]; simp [towncrierref06_May.j0]
      · rw [if_neg h1, show decide (x.f1 ≤ 1125899906842624) = true from decide_eq_true (by omega), Bool.true_and]
        by_cases h2 : x.f2.length ≤ 6
        · rw [decide_eq_false (show ¬ (x.f2.length : Int) > 6 by omega), decide_eq_true h2, Bool.true_and]
          simp only [towncrierref06_May.j0]
          rw [if_neg (by simp)]
          have := refMayE_loop x.f0 x.f1 x.f2 hl x.f2.length 0 k (by omega) (by omega)
          rw [List.drop_zero] at this
          exact this
        · rw [decide_eq_true (show (x.f2.length : Int) > 6 by omega), decide_eq_false h2, Bool.false_and]
          simp [towncrierref06_May.j0]
theorem refMayE_told (x : SEvent) (A : Option Addr) (c : Nat) (w : World) (hr : Kd.C kValue w A x.f2.length x.f2) (hc : x.f2.length ≤ c) (hk : x.f0.size ≤ 140737488351232) (hl : x.f2.length < 4611686018427387904) {b : Bool} (hb : mayE x = b) :
    Calls Try.prog 20 #[.agg #[.string x.f0, .int .i64 x.f1, .slice A x.f2.length c]] w (boolPost b w) := by
  subst hb
  exact towncrierref06_May.calls 140737488361300 x.f0 x.f1 A c x.f2 (mayE x) w hr hc (refMayE_is x hk (by decide) hl (by decide))
end Go.Proofs.Ytandlemjjlamoaa.P

namespace Go.Proofs.Ytandlemjjlamoaa.P
open Go.RowKit Go.Proofs.YtandlemjjlamoaaW.PrintWords Go.Proofs.YtandlemjjlamoaaW.PrintLast Go.Proofs.YtandlemjjlamoaaW.PrintMore
attribute [local go_sem] max2_int min2_int max_two min_two max_three min_three max_four min_four   -- for this text's walks alone
set_option linter.unusedVariables false
set_option linter.unusedSimpArgs false
theorem eqAValue (d : Nat) (w : World) (x0 y0 : Int) (x1 y1 : Int) (x2 y2 : ByteArray) :
    (Op.equalIn (d + 2) 37 (.agg #[.int .i64 x0, .int .i64 x1, .string x2]) (.agg #[.int .i64 y0, .int .i64 y1, .string y2])).run Try.prog w = .ok (x0 == y0 && (x1 == y1 && (x2.toList == y2.toList))) w := by
  refine eqA_of Try.underlying37 (by kernel_rfl) ?_
  refine eqf_cons (by rfl) (by go_simp; rfl) (by go_simp; rfl) (by go_simp) ?_
  refine eqf_cons (by rfl) (by go_simp; rfl) (by go_simp; rfl) (by go_simp) ?_
  exact eqf_last (by rfl) (by go_simp; rfl) (by go_simp; rfl) (by go_simp)
end Go.Proofs.Ytandlemjjlamoaa.P

namespace Go.Proofs.Ytandlemjjlamoaa.P
open Go.RowKit Go.Proofs.YtandlemjjlamoaaW.PrintWords Go.Proofs.YtandlemjjlamoaaW.PrintLast Go.Proofs.YtandlemjjlamoaaW.PrintMore
attribute [local go_sem] max2_int min2_int max_two min_two max_three min_three max_four min_four   -- for this text's walks alone
set_option linter.unusedVariables false
set_option linter.unusedSimpArgs false
attribute [local go_sem high] eqAValue
mutual
def towncrierref06_Same.j0 : Nat → Bool → ByteArray → Int → List (SValue) → ByteArray → Int → List (SValue) → Option (Bool)
  | 0, _, _, _, _, _, _, _ => none
  | k + 1, x26, x117000, x117001, x117002, x118000, x118001, x118002 => if x26 = true then (some false) else (towncrierref06_Same.l0 k 0 x117000 x117001 x117002 x118000 x118001 x118002)
def towncrierref06_Same.l0 : Nat → Int → ByteArray → Int → List (SValue) → ByteArray → Int → List (SValue) → Option (Bool)
  | 0, _, _, _, _, _, _, _ => none
  | k + 1, x5, x117000, x117001, x117002, x118000, x118001, x118002 => if x5 < (x117002.length : Int) then (if 0 ≤ x5 then (if x5 < (x118002.length : Int) then (if (!(((rd_TValue x117002 x5).f0) == ((rd_TValue x118002 x5).f0)) || (!(((rd_TValue x117002 x5).f1) == ((rd_TValue x118002 x5).f1)) || (!((((rd_TValue x117002 x5).f2).toList) == (((rd_TValue x118002 x5).f2).toList))))) = true then (some false) else (towncrierref06_Same.l0 k (wrap64 (x5 + 1)) x117000 x117001 x117002 x118000 x118001 x118002)) else (none)) else (none)) else (some true)
end
def towncrierref06_Same.f (k : Nat) (a0_0 : ByteArray) (a0_1 : Int) (l0_2 : List (SValue)) (a1_0 : ByteArray) (a1_1 : Int) (l1_2 : List (SValue)) : Option (Bool) := if a0_0.toList = a1_0.toList then (if a0_1 = a1_1 then (towncrierref06_Same.j0 k ((l0_2.length : Int) != (l1_2.length : Int)) a0_0 a0_1 l0_2 a1_0 a1_1 l1_2) else (towncrierref06_Same.j0 k true a0_0 a0_1 l0_2 a1_0 a1_1 l1_2)) else (towncrierref06_Same.j0 k true a0_0 a0_1 l0_2 a1_0 a1_1 l1_2)
set_option maxHeartbeats 8000000 in
set_option maxRecDepth 100000 in
theorem towncrierref06_Same.calls (k : Nat) (a0_0 : ByteArray) (a0_1 : Int) (A0_2 : Option Addr) (c0_2 : Nat) (l0_2 : List (SValue)) (a1_0 : ByteArray) (a1_1 : Int) (A1_2 : Option Addr) (c1_2 : Nat) (l1_2 : List (SValue)) (r : Bool) (w : World) (hr0_2 : Kd.C kValue w A0_2 l0_2.length l0_2) (hc0_2 : l0_2.length ≤ c0_2) (hr1_2 : Kd.C kValue w A1_2 l1_2.length l1_2) (hc1_2 : l1_2.length ≤ c1_2) (h : towncrierref06_Same.f k a0_0 a0_1 l0_2 a1_0 a1_1 l1_2 = some r) :
    Calls Try.prog 19 #[.agg #[.string a0_0, .int .i64 a0_1, .slice A0_2 l0_2.length c0_2], .agg #[.string a1_0, .int .i64 a1_1, .slice A1_2 l1_2.length c1_2]] w fun e w' => e = .returned (.bool r) ∧ Below w.heap.size w w' := by
  have hu24 := Try.underlying24
  have hu37 := Try.underlying37
  have HR0_2 := Aside0.mk hr0_2
  have HC0_2 := Aside0.mk hc0_2
  clear hr0_2 hc0_2
  have HR1_2 := Aside0.mk hr1_2
  have HC1_2 := Aside0.mk hc1_2
  clear hr1_2 hc1_2
  have HB := Aside0.mk (Below.refl w.heap.size w)
  have H : (if a0_0.toList = a1_0.toList then (if a0_1 = a1_1 then (towncrierref06_Same.j0 k ((l0_2.length : Int) != (l1_2.length : Int)) a0_0 a0_1 l0_2 a1_0 a1_1 l1_2) else (towncrierref06_Same.j0 k true a0_0 a0_1 l0_2 a1_0 a1_1 l1_2)) else (towncrierref06_Same.j0 k true a0_0 a0_1 l0_2 a1_0 a1_1 l1_2)) = some r := h
  clear h
  have HC3 := Aside0.mk H
  clear H
  go_enter Try.func19, Try.ntmps19
  go_upto_region 1 with (first | ((with_reducible refine gate_dst (N := 2) rfl ?_); (try (refine gate_guard (by rfl) ?_; dsimp only)); refine box_event ?hg (N := 2) ?hd (cs := #[.string a0_0, .int .i64 a0_1, .slice A0_2 l0_2.length c0_2]) (t := 24) ?hr ?_; (case hd => rfl); (case hg => rfl); (case hr => first | (go_simp; done) | (go_simp; rfl)); intro gb116 hg w4 hbox hb; have n0_ := Aside0.mk (below_step (by repeat (first | (with_reducible first | exact HB.out | apply below_alloc | apply pw_below_drewN | apply below_drew1) | exact HB.out)) hb); have n1_ := Aside0.mk (hbox); have n2_ := Aside0.mk ((by rw [hg]; exact (below_size (by repeat (first | (with_reducible first | exact HB.out | apply below_alloc | apply pw_below_drewN | apply below_drew1) | exact HB.out))) : w.heap.size ≤ gb116)); have n3_ := Aside0.mk ((by rw [hg]; exact (below_size (by repeat (first | (with_reducible first | exact HB.out | apply below_alloc | apply pw_below_drewN | apply below_drew1) | exact HB.out))) : w.heap.size ≤ gb116)); clear HB; have HB := n0_; have BK116 := n1_; have GW116 := n2_; have GE116 := n3_; clear n0_ n1_ n2_ n3_; clear hb hbox hg) | ((with_reducible refine gate_dst (N := 3) rfl ?_); (try (refine gate_guard (by rfl) ?_; dsimp only)); refine box_event ?hg (N := 3) ?hd (cs := #[.string a1_0, .int .i64 a1_1, .slice A1_2 l1_2.length c1_2]) (t := 24) ?hr ?_; (case hd => rfl); (case hg => rfl); (case hr => first | (go_simp; done) | (go_simp; rfl)); intro gb117 hg w5 hbox hb; have n0_ := Aside0.mk (blk_below (g := gb116) (o := .cells #[.string a0_0, .int .i64 a0_1, .slice A0_2 l0_2.length c0_2] 24 (0, 0)) (by (with_reducible repeat (first | refine blk_drewN ?_ _ | refine blk_drew ?_ | refine blk_alloc ?_ _)); exact BK116.out) hb); have n1_ := Aside0.mk (below_step (by repeat (first | (with_reducible first | exact HB.out | apply below_alloc | apply pw_below_drewN | apply below_drew1 | refine below_set ?_ GE116.out) | exact HB.out)) hb); have n2_ := Aside0.mk (hbox); have n3_ := Aside0.mk ((by rw [hg]; exact (below_size (by repeat (first | (with_reducible first | exact HB.out | apply below_alloc | apply pw_below_drewN | apply below_drew1 | refine below_set ?_ GE116.out) | exact HB.out))) : w.heap.size ≤ gb117)); have n4_ := Aside0.mk ((by rw [hg]; exact (below_size (by repeat (first | (with_reducible first | exact HB.out | apply below_alloc | apply pw_below_drewN | apply below_drew1 | refine below_set ?_ GE116.out) | exact HB.out))) : w.heap.size ≤ gb117)); have n5_ := Aside0.mk ((by rw [hg]; exact Nat.ne_of_lt (blk_lt (g := gb116) (o := .cells #[.string a0_0, .int .i64 a0_1, .slice A0_2 l0_2.length c0_2] 24 (0, 0)) (by (with_reducible repeat (first | refine blk_drewN ?_ _ | refine blk_drew ?_ | refine blk_alloc ?_ _)); exact BK116.out)) : gb116 ≠ gb117)); have n6_ := Aside0.mk ((by rw [hg]; exact Nat.ne_of_gt (blk_lt (g := gb116) (o := .cells #[.string a0_0, .int .i64 a0_1, .slice A0_2 l0_2.length c0_2] 24 (0, 0)) (by (with_reducible repeat (first | refine blk_drewN ?_ _ | refine blk_drew ?_ | refine blk_alloc ?_ _)); exact BK116.out)) : gb117 ≠ gb116)); clear BK116; clear HB; have BK116 := n0_; have HB := n1_; have BK117 := n2_; have GW117 := n3_; have GE117 := n4_; have NB116_117 := n5_; have NB117_116 := n6_; clear n0_ n1_ n2_ n3_ n4_ n5_ n6_; clear hb hbox hg))
  repeat (go_quiet (first | ((with_reducible refine gate_dst (N := 2) rfl ?_); (try (refine gate_guard (by rfl) ?_; dsimp only)); refine box_event ?hg (N := 2) ?hd (cs := #[.string a0_0, .int .i64 a0_1, .slice A0_2 l0_2.length c0_2]) (t := 24) ?hr ?_; (case hd => rfl); (case hg => rfl); (case hr => first | (go_simp; done) | (go_simp; rfl)); intro gb116 hg w4 hbox hb; have n0_ := Aside0.mk (below_step (by repeat (first | (with_reducible first | exact HB.out | apply below_alloc | apply pw_below_drewN | apply below_drew1) | exact HB.out)) hb); have n1_ := Aside0.mk (hbox); have n2_ := Aside0.mk ((by rw [hg]; exact (below_size (by repeat (first | (with_reducible first | exact HB.out | apply below_alloc | apply pw_below_drewN | apply below_drew1) | exact HB.out))) : w.heap.size ≤ gb116)); have n3_ := Aside0.mk ((by rw [hg]; exact (below_size (by repeat (first | (with_reducible first | exact HB.out | apply below_alloc | apply pw_below_drewN | apply below_drew1) | exact HB.out))) : w.heap.size ≤ gb116)); clear HB; have HB := n0_; have BK116 := n1_; have GW116 := n2_; have GE116 := n3_; clear n0_ n1_ n2_ n3_; clear hb hbox hg) | ((with_reducible refine gate_dst (N := 3) rfl ?_); (try (refine gate_guard (by rfl) ?_; dsimp only)); refine box_event ?hg (N := 3) ?hd (cs := #[.string a1_0, .int .i64 a1_1, .slice A1_2 l1_2.length c1_2]) (t := 24) ?hr ?_; (case hd => rfl); (case hg => rfl); (case hr => first | (go_simp; done) | (go_simp; rfl)); intro gb117 hg w5 hbox hb; have n0_ := Aside0.mk (blk_below (g := gb116) (o := .cells #[.string a0_0, .int .i64 a0_1, .slice A0_2 l0_2.length c0_2] 24 (0, 0)) (by (with_reducible repeat (first | refine blk_drewN ?_ _ | refine blk_drew ?_ | refine blk_alloc ?_ _)); exact BK116.out) hb); have n1_ := Aside0.mk (below_step (by repeat (first | (with_reducible first | exact HB.out | apply below_alloc | apply pw_below_drewN | apply below_drew1 | refine below_set ?_ GE116.out) | exact HB.out)) hb); have n2_ := Aside0.mk (hbox); have n3_ := Aside0.mk ((by rw [hg]; exact (below_size (by repeat (first | (with_reducible first | exact HB.out | apply below_alloc | apply pw_below_drewN | apply below_drew1 | refine below_set ?_ GE116.out) | exact HB.out))) : w.heap.size ≤ gb117)); have n4_ := Aside0.mk ((by rw [hg]; exact (below_size (by repeat (first | (with_reducible first | exact HB.out | apply below_alloc | apply pw_below_drewN | apply below_drew1 | refine below_set ?_ GE116.out) | exact HB.out))) : w.heap.size ≤ gb117)); have n5_ := Aside0.mk ((by rw [hg]; exact Nat.ne_of_lt (blk_lt (g := gb116) (o := .cells #[.string a0_0, .int .i64 a0_1, .slice A0_2 l0_2.length c0_2] 24 (0, 0)) (by (with_reducible repeat (first | refine blk_drewN ?_ _ | refine blk_drew ?_ | refine blk_alloc ?_ _)); exact BK116.out)) : gb116 ≠ gb117)); have n6_ := Aside0.mk ((by rw [hg]; exact Nat.ne_of_gt (blk_lt (g := gb116) (o := .cells #[.string a0_0, .int .i64 a0_1, .slice A0_2 l0_2.length c0_2] 24 (0, 0)) (by (with_reducible repeat (first | refine blk_drewN ?_ _ | refine blk_drew ?_ | refine blk_alloc ?_ _)); exact BK116.out)) : gb117 ≠ gb116)); clear BK116; clear HB; have BK116 := n0_; have HB := n1_; have BK117 := n2_; have GW117 := n3_; have GE117 := n4_; have NB116_117 := n5_; have NB117_116 := n6_; clear n0_ n1_ n2_ n3_ n4_ n5_ n6_; clear hb hbox hg)); go_upto_region 1 with (first | ((with_reducible refine gate_dst (N := 2) rfl ?_); (try (refine gate_guard (by rfl) ?_; dsimp only)); refine box_event ?hg (N := 2) ?hd (cs := #[.string a0_0, .int .i64 a0_1, .slice A0_2 l0_2.length c0_2]) (t := 24) ?hr ?_; (case hd => rfl); (case hg => rfl); (case hr => first | (go_simp; done) | (go_simp; rfl)); intro gb116 hg w4 hbox hb; have n0_ := Aside0.mk (below_step (by repeat (first | (with_reducible first | exact HB.out | apply below_alloc | apply pw_below_drewN | apply below_drew1) | exact HB.out)) hb); have n1_ := Aside0.mk (hbox); have n2_ := Aside0.mk ((by rw [hg]; exact (below_size (by repeat (first | (with_reducible first | exact HB.out | apply below_alloc | apply pw_below_drewN | apply below_drew1) | exact HB.out))) : w.heap.size ≤ gb116)); have n3_ := Aside0.mk ((by rw [hg]; exact (below_size (by repeat (first | (with_reducible first | exact HB.out | apply below_alloc | apply pw_below_drewN | apply below_drew1) | exact HB.out))) : w.heap.size ≤ gb116)); clear HB; have HB := n0_; have BK116 := n1_; have GW116 := n2_; have GE116 := n3_; clear n0_ n1_ n2_ n3_; clear hb hbox hg) | ((with_reducible refine gate_dst (N := 3) rfl ?_); (try (refine gate_guard (by rfl) ?_; dsimp only)); refine box_event ?hg (N := 3) ?hd (cs := #[.string a1_0, .int .i64 a1_1, .slice A1_2 l1_2.length c1_2]) (t := 24) ?hr ?_; (case hd => rfl); (case hg => rfl); (case hr => first | (go_simp; done) | (go_simp; rfl)); intro gb117 hg w5 hbox hb; have n0_ := Aside0.mk (blk_below (g := gb116) (o := .cells #[.string a0_0, .int .i64 a0_1, .slice A0_2 l0_2.length c0_2] 24 (0, 0)) (by (with_reducible repeat (first | refine blk_drewN ?_ _ | refine blk_drew ?_ | refine blk_alloc ?_ _)); exact BK116.out) hb); have n1_ := Aside0.mk (below_step (by repeat (first | (with_reducible first | exact HB.out | apply below_alloc | apply pw_below_drewN | apply below_drew1 | refine below_set ?_ GE116.out) | exact HB.out)) hb); have n2_ := Aside0.mk (hbox); have n3_ := Aside0.mk ((by rw [hg]; exact (below_size (by repeat (first | (with_reducible first | exact HB.out | apply below_alloc | apply pw_below_drewN | apply below_drew1 | refine below_set ?_ GE116.out) | exact HB.out))) : w.heap.size ≤ gb117)); have n4_ := Aside0.mk ((by rw [hg]; exact (below_size (by repeat (first | (with_reducible first | exact HB.out | apply below_alloc | apply pw_below_drewN | apply below_drew1 | refine below_set ?_ GE116.out) | exact HB.out))) : w.heap.size ≤ gb117)); have n5_ := Aside0.mk ((by rw [hg]; exact Nat.ne_of_lt (blk_lt (g := gb116) (o := .cells #[.string a0_0, .int .i64 a0_1, .slice A0_2 l0_2.length c0_2] 24 (0, 0)) (by (with_reducible repeat (first | refine blk_drewN ?_ _ | refine blk_drew ?_ | refine blk_alloc ?_ _)); exact BK116.out)) : gb116 ≠ gb117)); have n6_ := Aside0.mk ((by rw [hg]; exact Nat.ne_of_gt (blk_lt (g := gb116) (o := .cells #[.string a0_0, .int .i64 a0_1, .slice A0_2 l0_2.length c0_2] 24 (0, 0)) (by (with_reducible repeat (first | refine blk_drewN ?_ _ | refine blk_drew ?_ | refine blk_alloc ?_ _)); exact BK116.out)) : gb117 ≠ gb116)); clear BK116; clear HB; have BK116 := n0_; have HB := n1_; have BK117 := n2_; have GW117 := n3_; have GE117 := n4_; have NB116_117 := n5_; have NB117_116 := n6_; clear n0_ n1_ n2_ n3_ n4_ n5_ n6_; clear hb hbox hg)))
  (try simp only [Act.put, List.setIfInBounds_toArray, List.set_cons_zero, List.set_cons_succ])
  go_cut [26] (fun v26 wc => ∃ (kq : Nat) (x26_2 : Bool), v26 = .bool x26_2 ∧ Aside0 (towncrierref06_Same.j0 kq x26_2 a0_0 a0_1 l0_2 a1_0 a1_1 l1_2 = some r) ∧ Aside0 (kq ≤ k) ∧ Aside0 (wc.heap[gb116]? = some (.cells #[.string a0_0, .int .i64 a0_1, (.slice A0_2 l0_2.length c0_2)] 24 (0, 0))) ∧ Aside0 (wc.heap[gb117]? = some (.cells #[.string a1_0, .int .i64 a1_1, (.slice A1_2 l1_2.length c1_2)] 24 (0, 0))) ∧ Aside0 (Below w.heap.size w wc))
  case first =>
    have H := HC3.out
    clear HC3
    by_cases c6 : a0_0.toList = a1_0.toList
    · rw [if_pos c6] at H
      have c6b0 : (a0_0.toList == a1_0.toList) = true := beq_iff_eq.mpr c6
      have c6b1 : (a0_0.toList != a1_0.toList) = false := bne_eq_false_iff_eq.mpr c6
      clear c6
      (first | rw [c6b0] | (simp only [i64_w, i32_w]; rw [c6b0]) | skip)
      by_cases c7 : a0_1 = a1_1
      · rw [if_pos c7] at H
        have c7b0 : (a0_1 == a1_1) = true := beq_iff_eq.mpr c7
        have c7b1 : (a0_1 != a1_1) = false := bne_eq_false_iff_eq.mpr c7
        clear c7
        have H' := Aside0.mk H
        clear H
        have hnb8 := NB116_117.out
        have hnc8 := NB117_116.out
        have hcz9_0 : w5.cell? ⟨gb116, 0, none⟩ = some (.string a0_0) := (blk_cell BK116.out 0).trans rfl
        have hcz9_1 : w5.cell? ⟨gb116, 1, none⟩ = some (.int .i64 a0_1) := (blk_cell BK116.out 1).trans rfl
        have hcz9_2 : w5.cell? ⟨gb116, 2, none⟩ = some (.slice A0_2 l0_2.length c0_2) := (blk_cell BK116.out 2).trans rfl
        have hfz9_0 := blk_frozen BK116.out 0
        have hfz9_1 := blk_frozen BK116.out 1
        have hfz9_2 := blk_frozen BK116.out 2
        have hcz10_0 : w5.cell? ⟨gb117, 0, none⟩ = some (.string a1_0) := (blk_cell BK117.out 0).trans rfl
        have hcz10_1 : w5.cell? ⟨gb117, 1, none⟩ = some (.int .i64 a1_1) := (blk_cell BK117.out 1).trans rfl
        have hcz10_2 : w5.cell? ⟨gb117, 2, none⟩ = some (.slice A1_2 l1_2.length c1_2) := (blk_cell BK117.out 2).trans rfl
        have hfz10_0 := blk_frozen BK117.out 0
        have hfz10_1 := blk_frozen BK117.out 1
        have hfz10_2 := blk_frozen BK117.out 2
        go_wp2
        repeat (go_quiet (fail); try go_wp2)
        go_meet
        case rel => exact ⟨_, (((l0_2.length : Int) != (l1_2.length : Int))), (by first | rfl | (simp; done) | (simp [*]; done)), H', ⟨by first | omega | exact Nat.le_refl _⟩, ⟨by (with_reducible repeat (first | refine blk_drewN ?_ _ | refine blk_drew ?_ | refine blk_alloc ?_ _)); exact BK116.out⟩, ⟨by (with_reducible repeat (first | refine blk_drewN ?_ _ | refine blk_drew ?_ | refine blk_alloc ?_ _)); exact BK117.out⟩, ⟨by repeat (first | (with_reducible first | exact HB.out | apply below_alloc | apply pw_below_drewN | apply below_drew1 | refine below_set ?_ GE116.out | refine below_set ?_ GE117.out) | exact HB.out)⟩⟩
      · rw [if_neg c7] at H
        have c7b0 : (a0_1 == a1_1) = false := beq_eq_false_iff_ne.mpr c7
        have c7b1 : (a0_1 != a1_1) = true := bne_iff_ne.mpr c7
        have H' := Aside0.mk H
        clear H
        have hnb11 := NB116_117.out
        have hnc11 := NB117_116.out
        have hcz12_0 : w5.cell? ⟨gb116, 0, none⟩ = some (.string a0_0) := (blk_cell BK116.out 0).trans rfl
        have hcz12_1 : w5.cell? ⟨gb116, 1, none⟩ = some (.int .i64 a0_1) := (blk_cell BK116.out 1).trans rfl
        have hcz12_2 : w5.cell? ⟨gb116, 2, none⟩ = some (.slice A0_2 l0_2.length c0_2) := (blk_cell BK116.out 2).trans rfl
        have hfz12_0 := blk_frozen BK116.out 0
        have hfz12_1 := blk_frozen BK116.out 1
        have hfz12_2 := blk_frozen BK116.out 2
        have hcz13_0 : w5.cell? ⟨gb117, 0, none⟩ = some (.string a1_0) := (blk_cell BK117.out 0).trans rfl
        have hcz13_1 : w5.cell? ⟨gb117, 1, none⟩ = some (.int .i64 a1_1) := (blk_cell BK117.out 1).trans rfl
        have hcz13_2 : w5.cell? ⟨gb117, 2, none⟩ = some (.slice A1_2 l1_2.length c1_2) := (blk_cell BK117.out 2).trans rfl
        have hfz13_0 := blk_frozen BK117.out 0
        have hfz13_1 := blk_frozen BK117.out 1
        have hfz13_2 := blk_frozen BK117.out 2
        go_wp2
        repeat (go_quiet (fail); try go_wp2)
        go_meet
        case rel => exact ⟨_, (true), (by first | rfl | (simp; done) | (simp [*]; done)), H', ⟨by first | omega | exact Nat.le_refl _⟩, ⟨by (with_reducible repeat (first | refine blk_drewN ?_ _ | refine blk_drew ?_ | refine blk_alloc ?_ _)); exact BK116.out⟩, ⟨by (with_reducible repeat (first | refine blk_drewN ?_ _ | refine blk_drew ?_ | refine blk_alloc ?_ _)); exact BK117.out⟩, ⟨by repeat (first | (with_reducible first | exact HB.out | apply below_alloc | apply pw_below_drewN | apply below_drew1 | refine below_set ?_ GE116.out | refine below_set ?_ GE117.out) | exact HB.out)⟩⟩
    · rw [if_neg c6] at H
      have c6b0 : (a0_0.toList == a1_0.toList) = false := beq_eq_false_iff_ne.mpr c6
      have c6b1 : (a0_0.toList != a1_0.toList) = true := bne_iff_ne.mpr c6
      (first | rw [c6b0] | (simp only [i64_w, i32_w]; rw [c6b0]) | skip)
      have H' := Aside0.mk H
      clear H
      have hnb14 := NB116_117.out
      have hnc14 := NB117_116.out
      have hcz15_0 : w5.cell? ⟨gb116, 0, none⟩ = some (.string a0_0) := (blk_cell BK116.out 0).trans rfl
      have hcz15_1 : w5.cell? ⟨gb116, 1, none⟩ = some (.int .i64 a0_1) := (blk_cell BK116.out 1).trans rfl
      have hcz15_2 : w5.cell? ⟨gb116, 2, none⟩ = some (.slice A0_2 l0_2.length c0_2) := (blk_cell BK116.out 2).trans rfl
      have hfz15_0 := blk_frozen BK116.out 0
      have hfz15_1 := blk_frozen BK116.out 1
      have hfz15_2 := blk_frozen BK116.out 2
      have hcz16_0 : w5.cell? ⟨gb117, 0, none⟩ = some (.string a1_0) := (blk_cell BK117.out 0).trans rfl
      have hcz16_1 : w5.cell? ⟨gb117, 1, none⟩ = some (.int .i64 a1_1) := (blk_cell BK117.out 1).trans rfl
      have hcz16_2 : w5.cell? ⟨gb117, 2, none⟩ = some (.slice A1_2 l1_2.length c1_2) := (blk_cell BK117.out 2).trans rfl
      have hfz16_0 := blk_frozen BK117.out 0
      have hfz16_1 := blk_frozen BK117.out 1
      have hfz16_2 := blk_frozen BK117.out 2
      go_wp2
      repeat (go_quiet (fail); try go_wp2)
      go_meet
      case rel => exact ⟨_, (true), (by first | rfl | (simp; done) | (simp [*]; done)), H', ⟨by first | omega | exact Nat.le_refl _⟩, ⟨by (with_reducible repeat (first | refine blk_drewN ?_ _ | refine blk_drew ?_ | refine blk_alloc ?_ _)); exact BK116.out⟩, ⟨by (with_reducible repeat (first | refine blk_drewN ?_ _ | refine blk_drew ?_ | refine blk_alloc ?_ _)); exact BK117.out⟩, ⟨by repeat (first | (with_reducible first | exact HB.out | apply below_alloc | apply pw_below_drewN | apply below_drew1 | refine below_set ?_ GE116.out | refine below_set ?_ GE117.out) | exact HB.out)⟩⟩
  case rest =>
    clear HC3
    try clear c1
    try clear p2
    try clear c6
    try clear c6b0
    try clear c6b1
    try clear c7
    try clear c7b0
    try clear c7b1
    try clear c8
    try clear c11
    try clear c14
    try clear hcz10_0
    try clear hcz10_1
    try clear hcz10_2
    try clear hcz12_0
    try clear hcz12_1
    try clear hcz12_2
    try clear hcz13_0
    try clear hcz13_1
    try clear hcz13_2
    try clear hcz15_0
    try clear hcz15_1
    try clear hcz15_2
    try clear hcz16_0
    try clear hcz16_1
    try clear hcz16_2
    try clear hcz9_0
    try clear hcz9_1
    try clear hcz9_2
    try clear hfz10_0
    try clear hfz10_1
    try clear hfz10_2
    try clear hfz12_0
    try clear hfz12_1
    try clear hfz12_2
    try clear hfz13_0
    try clear hfz13_1
    try clear hfz13_2
    try clear hfz15_0
    try clear hfz15_1
    try clear hfz15_2
    try clear hfz16_0
    try clear hfz16_1
    try clear hfz16_2
    try clear hfz9_0
    try clear hfz9_1
    try clear hfz9_2
    obtain ⟨kq, x26_2, rfl, HA, HJ2, BK116, BK117, HB⟩ := hcut
    cases kq with
    | zero => exact absurd HA.out (by simp [towncrierref06_Same.j0])
    | succ kj2 =>
      have H := HA.out
      clear HA
      simp only [towncrierref06_Same.j0] at H
      by_cases c17 : x26_2 = true
      · subst c17
        have H1 : (some false) = some r := by rw [if_pos rfl] at H; exact H
        clear H
        have H := H1
        clear H1
        obtain rfl := Option.some.inj H
        go_wp2
        repeat (go_quiet (fail); try go_wp2)
        go_ret
        exact ⟨by first | rfl | (simp [errW_none, errW_some] <;> rfl) | (simp [*, errW_none, errW_some] <;> rfl), by repeat (first | (with_reducible first | exact HB.out | apply below_alloc | apply pw_below_drewN | apply below_drew1 | refine below_set ?_ GE116.out | refine below_set ?_ GE117.out) | exact HB.out)⟩
      · replace c17 := Bool.eq_false_iff.mpr c17
        subst c17
        have H1 : (towncrierref06_Same.l0 kj2 0 a0_0 a0_1 l0_2 a1_0 a1_1 l1_2) = some r := by rw [if_neg (show ¬ (false = true) by decide)] at H; exact H
        clear H
        have H := H1
        clear H1
        have H' := Aside0.mk H
        clear H
        go_wp2
        repeat (go_quiet (fail); try go_wp2)
        go_loopg [5] kj2 (fun kq v5 w' => ∃ (x5_2 : Int), v5 = .int .i64 x5_2 ∧ Aside0 (towncrierref06_Same.l0 kq x5_2 a0_0 a0_1 l0_2 a1_0 a1_1 l1_2 = some r) ∧ Aside0 (kq ≤ kj2) ∧ Aside0 (w'.heap[gb116]? = some (.cells #[.string a0_0, .int .i64 a0_1, (.slice A0_2 l0_2.length c0_2)] 24 (0, 0))) ∧ Aside0 (w'.heap[gb117]? = some (.cells #[.string a1_0, .int .i64 a1_1, (.slice A1_2 l1_2.length c1_2)] 24 (0, 0))) ∧ Aside0 (Below w.heap.size w w'))
        case atStart => exact ⟨(0), (by first | rfl | (simp; done) | (simp [*]; done)), H', ⟨Nat.le_refl _⟩, ⟨by (with_reducible repeat (first | refine blk_drewN ?_ _ | refine blk_drew ?_ | refine blk_alloc ?_ _)); exact BK116.out⟩, ⟨by (with_reducible repeat (first | refine blk_drewN ?_ _ | refine blk_drew ?_ | refine blk_alloc ?_ _)); exact BK117.out⟩, ⟨by repeat (first | (with_reducible first | exact HB.out | apply below_alloc | apply pw_below_drewN | apply below_drew1 | refine below_set ?_ GE116.out | refine below_set ?_ GE117.out) | exact HB.out)⟩⟩
        case round =>
          clear H'
          try clear c1
          try clear p2
          try clear c6
          try clear c6b0
          try clear c6b1
          try clear c7
          try clear c7b0
          try clear c7b1
          try clear c8
          try clear c11
          try clear c14
          try clear c17
          try clear hcz10_0
          try clear hcz10_1
          try clear hcz10_2
          try clear hcz12_0
          try clear hcz12_1
          try clear hcz12_2
          try clear hcz13_0
          try clear hcz13_1
          try clear hcz13_2
          try clear hcz15_0
          try clear hcz15_1
          try clear hcz15_2
          try clear hcz16_0
          try clear hcz16_1
          try clear hcz16_2
          try clear hcz9_0
          try clear hcz9_1
          try clear hcz9_2
          try clear hfz10_0
          try clear hfz10_1
          try clear hfz10_2
          try clear hfz12_0
          try clear hfz12_1
          try clear hfz12_2
          try clear hfz13_0
          try clear hfz13_1
          try clear hfz13_2
          try clear hfz15_0
          try clear hfz15_1
          try clear hfz15_2
          try clear hfz16_0
          try clear hfz16_1
          try clear hfz16_2
          try clear hfz9_0
          try clear hfz9_1
          try clear hfz9_2
          try clear p2
          obtain ⟨x5_2, rfl, HA, HK2, BK116, BK117, HB⟩ := hrel
          cases gk with
          | zero => exact absurd HA.out (by simp [towncrierref06_Same.l0])
          | succ k2 =>
            have H := HA.out
            clear HA
            simp only [towncrierref06_Same.l0] at H
            by_cases c18 : x5_2 < (l0_2.length : Int)
            · rw [if_pos c18] at H
              have c18b0 : decide (x5_2 < (l0_2.length : Int)) = true := decide_eq_true c18
              clear c18
              by_cases c19 : 0 ≤ x5_2
              · rw [if_pos c19] at H
                have c19b0 : decide (0 ≤ x5_2) = true := decide_eq_true c19
                clear c19
                by_cases c20 : x5_2 < (l1_2.length : Int)
                · rw [if_pos c20] at H
                  have c20b0 : decide (x5_2 < (l1_2.length : Int)) = true := decide_eq_true c20
                  clear c20
                  by_cases c21 : (!(((rd_TValue l0_2 x5_2).f0) == ((rd_TValue l1_2 x5_2).f0)) || (!(((rd_TValue l0_2 x5_2).f1) == ((rd_TValue l1_2 x5_2).f1)) || (!((((rd_TValue l0_2 x5_2).f2).toList) == (((rd_TValue l1_2 x5_2).f2).toList))))) = true
                  · rw [if_pos c21] at H
                    have c21b0 : (!(((rd_TValue l0_2 x5_2).f0) == ((rd_TValue l1_2 x5_2).f0)) || (!(((rd_TValue l0_2 x5_2).f1) == ((rd_TValue l1_2 x5_2).f1)) || (!((((rd_TValue l0_2 x5_2).f2).toList) == (((rd_TValue l1_2 x5_2).f2).toList))))) = true := c21
                    clear c21
                    obtain rfl := Option.some.inj H
                    have hnb22 := NB116_117.out
                    have hnc22 := NB117_116.out
                    have hcz23_0 : wr.cell? ⟨gb116, 0, none⟩ = some (.string a0_0) := (blk_cell BK116.out 0).trans rfl
                    have hcz23_1 : wr.cell? ⟨gb116, 1, none⟩ = some (.int .i64 a0_1) := (blk_cell BK116.out 1).trans rfl
                    have hcz23_2 : wr.cell? ⟨gb116, 2, none⟩ = some (.slice A0_2 l0_2.length c0_2) := (blk_cell BK116.out 2).trans rfl
                    have hfz23_0 := blk_frozen BK116.out 0
                    have hfz23_1 := blk_frozen BK116.out 1
                    have hfz23_2 := blk_frozen BK116.out 2
                    have p118 : 0 ≤ (x5_2 : Int) := of_decide_eq_true (by first | (with_reducible assumption) | assumption)
                    have q118 : x5_2 < (l0_2.length : Int) := of_decide_eq_true (by first | (with_reducible assumption) | assumption)
                    obtain ⟨ad118, e118, hx118_0, hx118_1, hx118_2⟩ := at_TValue HR0_2.out x5_2 p118 q118
                    cases e118
                    replace hx118_0 := (HB.out.cell (World.block_lt_of_cell? w _ hx118_0)).trans hx118_0
                    replace hx118_1 := (HB.out.cell (World.block_lt_of_cell? w _ hx118_1)).trans hx118_1
                    replace hx118_2 := (HB.out.cell (World.block_lt_of_cell? w _ hx118_2)).trans hx118_2
                    replace p118 := eq_true p118
                    replace q118 := eq_true q118
                    have hcz24_0 : wr.cell? ⟨gb117, 0, none⟩ = some (.string a1_0) := (blk_cell BK117.out 0).trans rfl
                    have hcz24_1 : wr.cell? ⟨gb117, 1, none⟩ = some (.int .i64 a1_1) := (blk_cell BK117.out 1).trans rfl
                    have hcz24_2 : wr.cell? ⟨gb117, 2, none⟩ = some (.slice A1_2 l1_2.length c1_2) := (blk_cell BK117.out 2).trans rfl
                    have hfz24_0 := blk_frozen BK117.out 0
                    have hfz24_1 := blk_frozen BK117.out 1
                    have hfz24_2 := blk_frozen BK117.out 2
                    have p119 : 0 ≤ (x5_2 : Int) := of_decide_eq_true (by first | (with_reducible assumption) | assumption)
                    have q119 : x5_2 < (l1_2.length : Int) := of_decide_eq_true (by first | (with_reducible assumption) | assumption)
                    obtain ⟨ad119, e119, hx119_0, hx119_1, hx119_2⟩ := at_TValue HR1_2.out x5_2 p119 q119
                    cases e119
                    replace hx119_0 := (HB.out.cell (World.block_lt_of_cell? w _ hx119_0)).trans hx119_0
                    replace hx119_1 := (HB.out.cell (World.block_lt_of_cell? w _ hx119_1)).trans hx119_1
                    replace hx119_2 := (HB.out.cell (World.block_lt_of_cell? w _ hx119_2)).trans hx119_2
                    replace p119 := eq_true p119
                    replace q119 := eq_true q119
                    go_wp2
                    repeat (go_quiet (fail); try go_wp2)
                    go_ret
                    exact ⟨by first | rfl | (simp [errW_none, errW_some] <;> rfl) | (simp [*, errW_none, errW_some] <;> rfl), by repeat (first | (with_reducible first | exact HB.out | apply below_alloc | apply pw_below_drewN | apply below_drew1 | refine below_set ?_ GE116.out | refine below_set ?_ GE117.out) | exact HB.out)⟩
                  · rw [if_neg c21] at H
                    have c21b0 : (!(((rd_TValue l0_2 x5_2).f0) == ((rd_TValue l1_2 x5_2).f0)) || (!(((rd_TValue l0_2 x5_2).f1) == ((rd_TValue l1_2 x5_2).f1)) || (!((((rd_TValue l0_2 x5_2).f2).toList) == (((rd_TValue l1_2 x5_2).f2).toList))))) = false := by simpa using c21
                    clear c21
                    have H' := Aside0.mk H
                    clear H
                    have hnb25 := NB116_117.out
                    have hnc25 := NB117_116.out
                    have hcz26_0 : wr.cell? ⟨gb116, 0, none⟩ = some (.string a0_0) := (blk_cell BK116.out 0).trans rfl
                    have hcz26_1 : wr.cell? ⟨gb116, 1, none⟩ = some (.int .i64 a0_1) := (blk_cell BK116.out 1).trans rfl
                    have hcz26_2 : wr.cell? ⟨gb116, 2, none⟩ = some (.slice A0_2 l0_2.length c0_2) := (blk_cell BK116.out 2).trans rfl
                    have hfz26_0 := blk_frozen BK116.out 0
                    have hfz26_1 := blk_frozen BK116.out 1
                    have hfz26_2 := blk_frozen BK116.out 2
                    have p118 : 0 ≤ (x5_2 : Int) := of_decide_eq_true (by first | (with_reducible assumption) | assumption)
                    have q118 : x5_2 < (l0_2.length : Int) := of_decide_eq_true (by first | (with_reducible assumption) | assumption)
                    obtain ⟨ad118, e118, hx118_0, hx118_1, hx118_2⟩ := at_TValue HR0_2.out x5_2 p118 q118
                    cases e118
                    replace hx118_0 := (HB.out.cell (World.block_lt_of_cell? w _ hx118_0)).trans hx118_0
                    replace hx118_1 := (HB.out.cell (World.block_lt_of_cell? w _ hx118_1)).trans hx118_1
                    replace hx118_2 := (HB.out.cell (World.block_lt_of_cell? w _ hx118_2)).trans hx118_2
                    replace p118 := eq_true p118
                    replace q118 := eq_true q118
                    have hcz27_0 : wr.cell? ⟨gb117, 0, none⟩ = some (.string a1_0) := (blk_cell BK117.out 0).trans rfl
                    have hcz27_1 : wr.cell? ⟨gb117, 1, none⟩ = some (.int .i64 a1_1) := (blk_cell BK117.out 1).trans rfl
                    have hcz27_2 : wr.cell? ⟨gb117, 2, none⟩ = some (.slice A1_2 l1_2.length c1_2) := (blk_cell BK117.out 2).trans rfl
                    have hfz27_0 := blk_frozen BK117.out 0
                    have hfz27_1 := blk_frozen BK117.out 1
                    have hfz27_2 := blk_frozen BK117.out 2
                    have p119 : 0 ≤ (x5_2 : Int) := of_decide_eq_true (by first | (with_reducible assumption) | assumption)
                    have q119 : x5_2 < (l1_2.length : Int) := of_decide_eq_true (by first | (with_reducible assumption) | assumption)
                    obtain ⟨ad119, e119, hx119_0, hx119_1, hx119_2⟩ := at_TValue HR1_2.out x5_2 p119 q119
                    cases e119
                    replace hx119_0 := (HB.out.cell (World.block_lt_of_cell? w _ hx119_0)).trans hx119_0
                    replace hx119_1 := (HB.out.cell (World.block_lt_of_cell? w _ hx119_1)).trans hx119_1
                    replace hx119_2 := (HB.out.cell (World.block_lt_of_cell? w _ hx119_2)).trans hx119_2
                    replace p119 := eq_true p119
                    replace q119 := eq_true q119
                    go_wp2
                    repeat (go_quiet (fail); try go_wp2)
                    go_roundg k2
                    case measure => have := HJ2.out; have := HK2.out; omega
                    case rel => exact ⟨(wrap64 (x5_2 + 1)), (by first | rfl | (simp; done) | (simp [*]; done)), H', ⟨by have := HJ2.out; have := HK2.out; omega⟩, ⟨by (with_reducible repeat (first | refine blk_drewN ?_ _ | refine blk_drew ?_ | refine blk_alloc ?_ _)); exact BK116.out⟩, ⟨by (with_reducible repeat (first | refine blk_drewN ?_ _ | refine blk_drew ?_ | refine blk_alloc ?_ _)); exact BK117.out⟩, ⟨by repeat (first | (with_reducible first | exact HB.out | apply below_alloc | apply pw_below_drewN | apply below_drew1 | refine below_set ?_ GE116.out | refine below_set ?_ GE117.out) | exact HB.out)⟩⟩
                · rw [if_neg c20] at H
                  exact absurd H (by simp)
              · rw [if_neg c19] at H
                exact absurd H (by simp)
            · rw [if_neg c18] at H
              have c18b0 : decide (x5_2 < (l0_2.length : Int)) = false := decide_eq_false c18
              clear c18
              obtain rfl := Option.some.inj H
              have hnb28 := NB116_117.out
              have hnc28 := NB117_116.out
              have hcz29_0 : wr.cell? ⟨gb116, 0, none⟩ = some (.string a0_0) := (blk_cell BK116.out 0).trans rfl
              have hcz29_1 : wr.cell? ⟨gb116, 1, none⟩ = some (.int .i64 a0_1) := (blk_cell BK116.out 1).trans rfl
              have hcz29_2 : wr.cell? ⟨gb116, 2, none⟩ = some (.slice A0_2 l0_2.length c0_2) := (blk_cell BK116.out 2).trans rfl
              have hfz29_0 := blk_frozen BK116.out 0
              have hfz29_1 := blk_frozen BK116.out 1
              have hfz29_2 := blk_frozen BK116.out 2
              go_wp2
              repeat (go_quiet (fail); try go_wp2)
              go_ret
              exact ⟨by first | rfl | (simp [errW_none, errW_some] <;> rfl) | (simp [*, errW_none, errW_some] <;> rfl), by repeat (first | (with_reducible first | exact HB.out | apply below_alloc | apply pw_below_drewN | apply below_drew1 | refine below_set ?_ GE116.out | refine below_set ?_ GE117.out) | exact HB.out)⟩
end Go.Proofs.Ytandlemjjlamoaa.P
