/- What ExprNot's row stands on: words, contracts of the functions that it reaches, plain facts, its walk (part 4): no condition but those that each theorem names. -/
import Derived.Test.YtncllbokeofdjaaZExprNot3
set_option linter.unusedVariables false
set_option linter.unusedSimpArgs false
namespace Go.Proofs.Ytncllbokeofdjaa.P
open Go.RowKit Go.Proofs.YtncllbokeofdjaaW.PrintWords Go.Proofs.YtncllbokeofdjaaW.PrintLast Go.Proofs.YtncllbokeofdjaaW.PrintMore
attribute [local go_sem] max2_int min2_int max_two min_two max_three min_three max_four min_four   -- for this text's walks alone
set_option linter.unusedVariables false
set_option linter.unusedSimpArgs false
set_option maxHeartbeats 4000000 in
set_option maxRecDepth 100000 in
theorem value_Get.told (w : World) (A : Option Addr) (c : Nat) (l : List Int) (hr0 : Kd.C (Kd.int .u8) w A l.length l) (hc0 : l.length ≤ c) (hb : byteL l) (hl : l.length < 4611686018427387904) {x : SValue} {m : Nat} {b : Bool} (hq : gotV (getV l) = (x, m, b)) :
    Calls Try.prog 68 #[.slice A l.length c] w (valPost3 x m b w) := by
  have HR := Aside0.mk hr0
  have HC := Aside0.mk hc0
  clear hr0
  cases l with
  | nil =>
    obtain ⟨rfl, rfl, rfl⟩ : x = ⟨0, 0, ⟨#[]⟩⟩ ∧ m = 0 ∧ b = false := by
      have h : ((⟨0, 0, ⟨#[]⟩⟩ : SValue), 0, false) = (x, m, b) := hq
      simp only [Prod.mk.injEq] at h
      exact ⟨h.1.symm, h.2.1.symm, h.2.2.symm⟩
    clear hq hl
    show Calls _ _ #[.slice A 0 c] w _
    have HKr := Aside0.mk (blk_alloc (blk_new w (.cells #[.int .i64 0, .int .i64 0, .string ⟨#[]⟩] 38)) (.cells #[.int .i64 0, .int .i64 0, .string ⟨#[]⟩] 38))
    have HB := Aside0.mk (show Below w.heap.size w ((w.alloc (.cells #[.int .i64 0, .int .i64 0, .string ⟨#[]⟩] 38)).alloc (.cells #[.int .i64 0, .int .i64 0, .string ⟨#[]⟩] 38)) from below_alloc (below_alloc (Below.refl _ _) _) _)
    go_enter Try.func68, Try.ntmps68
    go_wp2
    exact bodyPost_ret (v := .tuple #[.agg #[.int .i64 0, .int .i64 0, .string ⟨#[]⟩], .int .i64 0, .bool false]) (by simp [results, Try.results68, go_sem]) rfl ⟨rfl, HB.out⟩
  | cons k r =>
    have hk := hb k (by simp)
    obtain ⟨hk0, hk1⟩ := hk
    have HBR := Aside0.mk (show byteL r from fun c hc => hb c (by simp [hc]))
    clear hb
    obtain ⟨i0, hi0, _, hsz0, _⟩ := info_parts info5
    obtain ⟨A1, hcut1, hD1, hlc1⟩ := drop_row (P := Try.prog) (d := Kd.int .u8) Try.underlying29 hi0 hsz0 A c (k :: r) 1 1 rfl (by simp) HC.out
    rw [List.drop_succ_cons, List.drop_zero] at hD1 hlc1
    simp only [List.drop_succ_cons, List.drop_zero] at hcut1
    have HD1 := Aside0.mk (hD1 w HR.out)
    have HL1 := Aside0.mk hlc1
    obtain ⟨ad, had, hx⟩ := Kd.at_int HR.out 0 (by omega) (by simp)
    subst had
    replace hx : w.cell? ad = some (.int .u8 k) := hx
    have HX := Aside0.mk hx
    have hlr : r.length + 1 < 4611686018427387904 := by simpa using hl
    have hln : (k :: r).length = r.length + 1 := rfl
    rw [hln] at hcut1 hc0 ⊢
    have HLN := Aside0.mk hln
    clear hD1 hlc1 hx hl hln
    have hw0 : IntKind.wrap .i64 k = k := IntWalk.i64_in _ (by omega)
    cases hg : getN r with
    | none =>
      obtain ⟨rfl, rfl, rfl⟩ : x = ⟨0, 0, ⟨#[]⟩⟩ ∧ m = 0 ∧ b = false := by
        have h : gotV (getV (k :: r)) = ((⟨0, 0, ⟨#[]⟩⟩ : SValue), 0, false) := by unfold getV; simp only [hg]; rfl
        rw [h] at hq
        simp only [Prod.mk.injEq] at hq
        exact ⟨hq.1.symm, hq.2.1.symm, hq.2.2.symm⟩
      have HG := Aside0.mk hg
      clear hg hq hw0
      go_enter Try.func68, Try.ntmps68
      go_wp2_with (go_at_call 43; refine (le_Get.no A1 _ r _ HG.out HBR.out (by omega) (Kd.C_below HD1.out (below_alloc (below_alloc (Below.refl _ _) _) _)) HL1.out).mono ?_; rintro e w1 ⟨rfl, hb1⟩; have HB1 := Aside0.mk (below_step (below_alloc (below_alloc (Below.refl _ _) _) _) hb1); have HKr1 := Aside0.mk (blk_below (blk_alloc (blk_new w (.cells #[.int .i64 0, .int .i64 0, .string ⟨#[]⟩] 38)) (.cells #[.int .i64 0, .int .i64 0, .string ⟨#[]⟩] 38)) hb1); obtain ⟨kr1, kr2, kr3, kr4⟩ := know HKr1.out; have HKn1 := Aside0.mk (blk_below (blk_new2 w (.cells #[.int .i64 0, .int .i64 0, .string ⟨#[]⟩] 38) (.cells #[.int .i64 0, .int .i64 0, .string ⟨#[]⟩] 38)) hb1); obtain ⟨kn1, kn2, kn3, kn4⟩ := know HKn1.out; clear hb1)
      have hz := blk_put3 HKr1.out (.int .i64 0) (.int .i64 0) (.string ⟨#[]⟩)
      have hbz := below_put3 HB1.out (Nat.le_refl _) (.int .i64 0) (.int .i64 0) (.string ⟨#[]⟩)
      generalize World.setCell (World.setCell (World.setCell _ _ _) _ _) _ _ = W3 at hz hbz ⊢
      have hz0 : W3.cell? ⟨w.heap.size, 0, none⟩ = some (.int .i64 0) := blk_cell hz 0
      have hz1 : W3.cell? ⟨w.heap.size, 1, none⟩ = some (.int .i64 0) := blk_cell hz 1
      have hz2 : W3.cell? ⟨w.heap.size, 2, none⟩ = some (.string ⟨#[]⟩) := blk_cell hz 2
      exact bodyPost_ret (v := .tuple #[.agg #[.int .i64 0, .int .i64 0, .string ⟨#[]⟩], .int .i64 0, .bool false]) (by simp [results, Try.results68, go_sem, hz0, hz1, hz2]) rfl ⟨rfl, hbz⟩
    | some p =>
      obtain ⟨n, u⟩ := p
      have hu := (getN_used hg).2
      have hnb : n < 18446744073709551616 := (getN_some HBR.out hg).1
      have HG := Aside0.mk hg
      by_cases hk3 : k = 0
      · subst hk3
        obtain ⟨rfl, rfl, rfl⟩ : x = ⟨0, zagN n, ⟨#[]⟩⟩ ∧ m = u + 1 ∧ b = true := by
          have h : gotV (getV (0 :: r)) = ((⟨0, zagN n, ⟨#[]⟩⟩ : SValue), u + 1, true) := by unfold getV; simp only [hg]; rfl
          rw [h] at hq
          simp only [Prod.mk.injEq] at hq
          exact ⟨hq.1.symm, hq.2.1.symm, hq.2.2.symm⟩
        have HZ := Aside0.mk (zag_is hnb)
        have HZB := Aside0.mk (zag_in hnb)
        have HM := Aside0.mk (show mayV ⟨0, zagN n, ⟨#[]⟩⟩ = true from mayV_iff.2 (.inl ⟨rfl, (by decide +kernel : (⟨#[]⟩ : ByteArray).toList = [])⟩))
        generalize zagN n = z at *
        clear hg hq hw0
        go_enter Try.func68, Try.ntmps68
        go_wp2_with (first
          | (go_at_call 43; refine (le_Get.yes A1 _ r _ HG.out HBR.out (by omega) (Kd.C_below HD1.out (below_alloc (below_alloc (Below.refl _ _) _) _)) HL1.out).mono ?_; rintro e w1 ⟨rfl, hb1⟩; have HB1 := Aside0.mk (below_step (below_alloc (below_alloc (Below.refl _ _) _) _) hb1); have HKr1 := Aside0.mk (blk_below (blk_alloc (blk_new w (.cells #[.int .i64 0, .int .i64 0, .string ⟨#[]⟩] 38)) (.cells #[.int .i64 0, .int .i64 0, .string ⟨#[]⟩] 38)) hb1); obtain ⟨kr1, kr2, kr3, kr4⟩ := know HKr1.out; have HKn1 := Aside0.mk (blk_below (blk_new2 w (.cells #[.int .i64 0, .int .i64 0, .string ⟨#[]⟩] 38) (.cells #[.int .i64 0, .int .i64 0, .string ⟨#[]⟩] 38)) hb1); obtain ⟨kn1, kn2, kn3, kn4⟩ := know HKn1.out; have hx1 := pw_cell_below HB1.out HX.out; clear hb1)
          | (go_at_call 85; refine (le_Zag.calls (n : Int) _ _ HZ.out).mono ?_; rintro e w2 ⟨rfl, hd2⟩; have hb2 := hd2.below; have HB2 := Aside0.mk (below_step (below_alloc HB1.out _) hb2); have HKr2 := Aside0.mk (blk_below (blk_alloc HKr1.out _) hb2); have HKv2 := Aside0.mk (blk_below (blk_new w1 (.cells #[.int .i64 0, .int .i64 0, .string ⟨#[]⟩] 38)) hb2); have hcv2 := cells_of HKv2.out; have hfv2 := frozen_of HKv2.out; clear hb2 hd2)
          | (go_at_call 27; refine (mayV_told ⟨0, z, ⟨#[]⟩⟩ _ HZB.out HM.out).mono ?_; rintro e w3 ⟨rfl, hb3⟩; have HB3 := Aside0.mk (below_step (below_set (j := 1) (v := Value.int .i64 z) (g := w1.heap.size) HB2.out (below_size HB1.out)) hb3); have HKr3 := Aside0.mk (blk_below (blk_far HKr2.out (p := ⟨w1.heap.size, 1, none⟩) (Nat.ne_of_lt (blk_lt HKr1.out)) (Value.int .i64 z)) hb3); have HKv3 := Aside0.mk (blk_below (blk_set HKv2.out 1 (Value.int .i64 z)) hb3); have hcr3 := cells_of HKr3.out; have hfr3 := frozen_of HKr3.out; have hcv3 := cells_of HKv3.out; clear hb3))
        have hz := blk_put3 HKr3.out (.int .i64 0) (.int .i64 z) (.string ⟨#[]⟩)
        have hbz := below_put3 HB3.out (Nat.le_refl _) (.int .i64 0) (.int .i64 z) (.string ⟨#[]⟩)
        generalize World.setCell (World.setCell (World.setCell _ _ _) _ _) _ _ = W3 at hz hbz ⊢
        have hz0 : W3.cell? ⟨w.heap.size, 0, none⟩ = some (.int .i64 0) := blk_cell hz 0
        have hz1 : W3.cell? ⟨w.heap.size, 1, none⟩ = some (.int .i64 z) := blk_cell hz 1
        have hz2 : W3.cell? ⟨w.heap.size, 2, none⟩ = some (.string ⟨#[]⟩) := blk_cell hz 2
        exact bodyPost_ret (v := .tuple #[.agg #[.int .i64 0, .int .i64 z, .string ⟨#[]⟩], .int .i64 ((u + 1 : Nat) : Int), .bool true]) (by simp [results, Try.results68, go_sem, hz0, hz1, hz2]) rfl ⟨rfl, hbz⟩
      · by_cases hk4 : k = 2
        · subst hk4
          have hq2 : gotV (getV (2 :: r)) = if n ≤ 40 ∧ n ≤ r.length - u then (⟨2, 0, strOfNums ((r.drop u).take n)⟩, u + 1 + n, true) else (⟨0, 0, ⟨#[]⟩⟩, 0, false) := by
            have h : getV (2 :: r) = if n ≤ 40 ∧ n ≤ r.length - u then some (⟨2, 0, strOfNums ((r.drop u).take n)⟩, u + 1 + n) else none := by
              unfold getV
              simp only [hg]
              rfl
            rw [h]
            split <;> rfl
          rw [hq2] at hq
          clear hq2 hk3
          have hwe : IntKind.wrap .u64 ((r.length : Int) + 1 - ((u : Int) + 1)) = (r.length : Int) + 1 - ((u : Int) + 1) := by rw [wrap_u64]; omega
          by_cases hfit : n ≤ r.length - u
          · have hwn : IntKind.wrap .i64 (n : Int) = (n : Int) := IntWalk.i64_in _ (by omega)
            obtain ⟨A2, hcut2, hD2, hln2⟩ := mid_row (P := Try.prog) (d := Kd.int .u8) Try.underlying29 hi0 hsz0 (some ad) c (2 :: r) (u + 1) n ((u : Int) + 1) (((u : Int) + 1) + (n : Int)) (by omega) (by omega) (by rw [HLN.out]; omega) HC.out
            rw [List.drop_succ_cons] at hD2 hln2
            rw [HLN.out] at hcut2
            have HD2 := Aside0.mk (hD2 w (by rw [HLN.out]; exact HR.out))
            have hstr := fun (W : World) (h : Below w.heap.size w W) => Kd.C_string (P := Try.prog) (c := c - (u + 1)) Try.underlying29 Try.underlying5 Try.underlying9 (Kd.C_below HD2.out h)
            have hsz : (strOfNums ((r.drop u).take n)).size = n := by rw [strOfNums_size]; exact hln2
            have HSTR := Aside0.mk hstr
            have HSZ := Aside0.mk hsz
            have hf1 : (n : Int) ≤ (r.length : Int) + 1 - ((u : Int) + 1) := by omega
            clear hD2 hln2 hstr hsz
            by_cases h40 : n ≤ 40
            · skip
              obtain ⟨rfl, rfl, rfl⟩ : x = ⟨2, 0, strOfNums ((r.drop u).take n)⟩ ∧ m = u + 1 + n ∧ b = true := by
                rw [if_pos ⟨h40, hfit⟩] at hq
                simp only [Prod.mk.injEq] at hq
                exact ⟨hq.1.symm, hq.2.1.symm, hq.2.2.symm⟩
              have HM := Aside0.mk (show mayV ⟨2, 0, strOfNums ((r.drop u).take n)⟩ = true from by exact mayV_iff.2 (.inr (.inr (.inl ⟨rfl, rfl, by rw [HSZ.out]; omega⟩))))
              generalize strOfNums ((r.drop u).take n) = t at *
              clear hg hq hi0 hsz0
              go_enter Try.func68, Try.ntmps68
              go_wp2_with (first
                | (go_at_call 43; refine (le_Get.yes A1 _ r _ HG.out HBR.out (by omega) (Kd.C_below HD1.out (below_alloc (below_alloc (Below.refl _ _) _) _)) HL1.out).mono ?_; rintro e w1 ⟨rfl, hb1⟩; have HB1 := Aside0.mk (below_step (below_alloc (below_alloc (Below.refl _ _) _) _) hb1); have HKr1 := Aside0.mk (blk_below (blk_alloc (blk_new w (.cells #[.int .i64 0, .int .i64 0, .string ⟨#[]⟩] 38)) (.cells #[.int .i64 0, .int .i64 0, .string ⟨#[]⟩] 38)) hb1); obtain ⟨kr1, kr2, kr3, kr4⟩ := know HKr1.out; have HKn1 := Aside0.mk (blk_below (blk_new2 w (.cells #[.int .i64 0, .int .i64 0, .string ⟨#[]⟩] 38) (.cells #[.int .i64 0, .int .i64 0, .string ⟨#[]⟩] 38)) hb1); obtain ⟨kn1, kn2, kn3, kn4⟩ := know HKn1.out; have hx1 := pw_cell_below HB1.out HX.out; have hstr1 := HSTR.out _ (below_alloc HB1.out (.cells #[.int .i64 2, .int .i64 0, .string ⟨#[]⟩] 38)); clear hb1)
                | (go_at_call 27; refine (mayV_told ⟨2, 0, t⟩ _ zero_i64 HM.out).mono ?_; rintro e w3 ⟨rfl, hb3⟩; have HB3 := Aside0.mk (below_step (below_alloc HB1.out _) hb3); have HKr3 := Aside0.mk (blk_below (blk_alloc HKr1.out _) hb3); have HKv3 := Aside0.mk (blk_below (blk_new w1 (.cells #[.int .i64 2, .int .i64 0, .string t] 38)) hb3); have hcr3 := cells_of HKr3.out; have hfr3 := frozen_of HKr3.out; have hcv3 := cells_of HKv3.out; have HKn3 := Aside0.mk (blk_below (blk_alloc HKn1.out _) hb3); have hcn3 := cells_of HKn3.out; clear hb3))
              have hz := blk_put3 HKr3.out (.int .i64 2) (.int .i64 0) (.string t)
              have hbz := below_put3 HB3.out (Nat.le_refl _) (.int .i64 2) (.int .i64 0) (.string t)
              generalize World.setCell (World.setCell (World.setCell _ _ _) _ _) _ _ = W3 at hz hbz ⊢
              have hz0 : W3.cell? ⟨w.heap.size, 0, none⟩ = some (.int .i64 2) := blk_cell hz 0
              have hz1 : W3.cell? ⟨w.heap.size, 1, none⟩ = some (.int .i64 0) := blk_cell hz 1
              have hz2 : W3.cell? ⟨w.heap.size, 2, none⟩ = some (.string t) := blk_cell hz 2
              exact bodyPost_ret (v := .tuple #[.agg #[.int .i64 2, .int .i64 0, .string t], .int .i64 ((u + 1 + n : Nat) : Int), .bool true]) (by simp [results, Try.results68, go_sem, hz0, hz1, hz2]) rfl ⟨rfl, hbz⟩
            skip
            · skip
              obtain ⟨rfl, rfl, rfl⟩ : x = ⟨0, 0, ⟨#[]⟩⟩ ∧ m = 0 ∧ b = false := by
                rw [if_neg (by omega)] at hq
                simp only [Prod.mk.injEq] at hq
                exact ⟨hq.1.symm, hq.2.1.symm, hq.2.2.symm⟩
              have HM := Aside0.mk (show mayV ⟨2, 0, strOfNums ((r.drop u).take n)⟩ = false from by rw [← Bool.not_eq_true, mayV_iff]; simp only [HSZ.out]; omega)
              generalize strOfNums ((r.drop u).take n) = t at *
              clear hg hq hi0 hsz0
              go_enter Try.func68, Try.ntmps68
              go_wp2_with (first
                | (go_at_call 43; refine (le_Get.yes A1 _ r _ HG.out HBR.out (by omega) (Kd.C_below HD1.out (below_alloc (below_alloc (Below.refl _ _) _) _)) HL1.out).mono ?_; rintro e w1 ⟨rfl, hb1⟩; have HB1 := Aside0.mk (below_step (below_alloc (below_alloc (Below.refl _ _) _) _) hb1); have HKr1 := Aside0.mk (blk_below (blk_alloc (blk_new w (.cells #[.int .i64 0, .int .i64 0, .string ⟨#[]⟩] 38)) (.cells #[.int .i64 0, .int .i64 0, .string ⟨#[]⟩] 38)) hb1); obtain ⟨kr1, kr2, kr3, kr4⟩ := know HKr1.out; have HKn1 := Aside0.mk (blk_below (blk_new2 w (.cells #[.int .i64 0, .int .i64 0, .string ⟨#[]⟩] 38) (.cells #[.int .i64 0, .int .i64 0, .string ⟨#[]⟩] 38)) hb1); obtain ⟨kn1, kn2, kn3, kn4⟩ := know HKn1.out; have hx1 := pw_cell_below HB1.out HX.out; have hstr1 := HSTR.out _ (below_alloc HB1.out (.cells #[.int .i64 2, .int .i64 0, .string ⟨#[]⟩] 38)); clear hb1)
                | (go_at_call 27; refine (mayV_told ⟨2, 0, t⟩ _ zero_i64 HM.out).mono ?_; rintro e w3 ⟨rfl, hb3⟩; have HB3 := Aside0.mk (below_step (below_alloc HB1.out _) hb3); have HKr3 := Aside0.mk (blk_below (blk_alloc HKr1.out _) hb3); have HKv3 := Aside0.mk (blk_below (blk_new w1 (.cells #[.int .i64 2, .int .i64 0, .string t] 38)) hb3); have hcr3 := cells_of HKr3.out; have hfr3 := frozen_of HKr3.out; have hcv3 := cells_of HKv3.out; have HKn3 := Aside0.mk (blk_below (blk_alloc HKn1.out _) hb3); have hcn3 := cells_of HKn3.out; clear hb3))
              have hz := blk_put3 HKr3.out (.int .i64 0) (.int .i64 0) (.string ⟨#[]⟩)
              have hbz := below_put3 HB3.out (Nat.le_refl _) (.int .i64 0) (.int .i64 0) (.string ⟨#[]⟩)
              generalize World.setCell (World.setCell (World.setCell _ _ _) _ _) _ _ = W3 at hz hbz ⊢
              have hz0 : W3.cell? ⟨w.heap.size, 0, none⟩ = some (.int .i64 0) := blk_cell hz 0
              have hz1 : W3.cell? ⟨w.heap.size, 1, none⟩ = some (.int .i64 0) := blk_cell hz 1
              have hz2 : W3.cell? ⟨w.heap.size, 2, none⟩ = some (.string ⟨#[]⟩) := blk_cell hz 2
              exact bodyPost_ret (v := .tuple #[.agg #[.int .i64 0, .int .i64 0, .string ⟨#[]⟩], .int .i64 0, .bool false]) (by simp [results, Try.results68, go_sem, hz0, hz1, hz2]) rfl ⟨rfl, hbz⟩
          · obtain ⟨rfl, rfl, rfl⟩ : x = ⟨0, 0, ⟨#[]⟩⟩ ∧ m = 0 ∧ b = false := by
              rw [if_neg (by omega)] at hq
              simp only [Prod.mk.injEq] at hq
              exact ⟨hq.1.symm, hq.2.1.symm, hq.2.2.symm⟩
            have hf1 : (r.length : Int) + 1 - ((u : Int) + 1) < (n : Int) := by omega
            clear hg hq hi0 hsz0
            go_enter Try.func68, Try.ntmps68
            go_wp2_with (go_at_call 43; refine (le_Get.yes A1 _ r _ HG.out HBR.out (by omega) (Kd.C_below HD1.out (below_alloc (below_alloc (Below.refl _ _) _) _)) HL1.out).mono ?_; rintro e w1 ⟨rfl, hb1⟩; have HB1 := Aside0.mk (below_step (below_alloc (below_alloc (Below.refl _ _) _) _) hb1); have HKr1 := Aside0.mk (blk_below (blk_alloc (blk_new w (.cells #[.int .i64 0, .int .i64 0, .string ⟨#[]⟩] 38)) (.cells #[.int .i64 0, .int .i64 0, .string ⟨#[]⟩] 38)) hb1); obtain ⟨kr1, kr2, kr3, kr4⟩ := know HKr1.out; have HKn1 := Aside0.mk (blk_below (blk_new2 w (.cells #[.int .i64 0, .int .i64 0, .string ⟨#[]⟩] 38) (.cells #[.int .i64 0, .int .i64 0, .string ⟨#[]⟩] 38)) hb1); obtain ⟨kn1, kn2, kn3, kn4⟩ := know HKn1.out; have hx1 := pw_cell_below HB1.out HX.out; clear hb1)
            have hz := blk_put3 (blk_alloc HKr1.out (.cells #[.int .i64 2, .int .i64 0, .string ⟨#[]⟩] 38)) (.int .i64 0) (.int .i64 0) (.string ⟨#[]⟩)
            have hbz := below_put3 (below_alloc HB1.out (.cells #[.int .i64 2, .int .i64 0, .string ⟨#[]⟩] 38)) (Nat.le_refl _) (.int .i64 0) (.int .i64 0) (.string ⟨#[]⟩)
            generalize World.setCell (World.setCell (World.setCell _ _ _) _ _) _ _ = W3 at hz hbz ⊢
            have hz0 : W3.cell? ⟨w.heap.size, 0, none⟩ = some (.int .i64 0) := blk_cell hz 0
            have hz1 : W3.cell? ⟨w.heap.size, 1, none⟩ = some (.int .i64 0) := blk_cell hz 1
            have hz2 : W3.cell? ⟨w.heap.size, 2, none⟩ = some (.string ⟨#[]⟩) := blk_cell hz 2
            exact bodyPost_ret (v := .tuple #[.agg #[.int .i64 0, .int .i64 0, .string ⟨#[]⟩], .int .i64 0, .bool false]) (by simp [results, Try.results68, go_sem, hz0, hz1, hz2]) rfl ⟨rfl, hbz⟩
        · have hq2 := getV_rest hg hk3 hk4 hnb
          rw [hq] at hq2
          clear hq
          have hqb : -9223372036854775808 ≤ IntKind.wrap .i64 (n : Int) ∧ IntKind.wrap .i64 (n : Int) ≤ 9223372036854775807 := by rw [wrap_i64]; unfold wrap64; omega
          obtain ⟨q, hwn⟩ : ∃ q, IntKind.wrap .i64 (n : Int) = q := ⟨_, rfl⟩
          rw [hwn] at hq2 hqb
          have HQB := Aside0.mk hqb
          have e0 : (k == 0) = false := by simpa using hk3
          have e2 : (k == 2) = false := by simpa using hk4
          clear hqb hg hi0 hsz0 hk3 hk4
          cases hm : mayV ⟨k, q, ⟨#[]⟩⟩ with
          | false =>
            rw [hm] at hq2
            obtain ⟨rfl, rfl, rfl⟩ : x = ⟨0, 0, ⟨#[]⟩⟩ ∧ m = 0 ∧ b = false := by
              have h : (x, m, b) = ((⟨0, 0, ⟨#[]⟩⟩ : SValue), 0, false) := hq2
              simp only [Prod.mk.injEq] at h
              exact h
            have HM := Aside0.mk hm
            clear hm hq2
            go_enter Try.func68, Try.ntmps68
            go_wp2_with (first
              | (go_at_call 43; refine (le_Get.yes A1 _ r _ HG.out HBR.out (by omega) (Kd.C_below HD1.out (below_alloc (below_alloc (Below.refl _ _) _) _)) HL1.out).mono ?_; rintro e w1 ⟨rfl, hb1⟩; have HB1 := Aside0.mk (below_step (below_alloc (below_alloc (Below.refl _ _) _) _) hb1); have HKr1 := Aside0.mk (blk_below (blk_alloc (blk_new w (.cells #[.int .i64 0, .int .i64 0, .string ⟨#[]⟩] 38)) (.cells #[.int .i64 0, .int .i64 0, .string ⟨#[]⟩] 38)) hb1); obtain ⟨kr1, kr2, kr3, kr4⟩ := know HKr1.out; have HKn1 := Aside0.mk (blk_below (blk_new2 w (.cells #[.int .i64 0, .int .i64 0, .string ⟨#[]⟩] 38) (.cells #[.int .i64 0, .int .i64 0, .string ⟨#[]⟩] 38)) hb1); obtain ⟨kn1, kn2, kn3, kn4⟩ := know HKn1.out; have hx1 := pw_cell_below HB1.out HX.out; clear hb1)
              | (go_at_call 27; refine (mayV_told ⟨k, q, ⟨#[]⟩⟩ _ HQB.out HM.out).mono ?_; rintro e w3 ⟨rfl, hb3⟩; have HB3 := Aside0.mk (below_step (below_alloc HB1.out _) hb3); have HKr3 := Aside0.mk (blk_below (blk_alloc HKr1.out _) hb3); have HKv3 := Aside0.mk (blk_below (blk_new w1 (.cells #[.int .i64 k, .int .i64 q, .string ⟨#[]⟩] 38)) hb3); have hcr3 := cells_of HKr3.out; have hfr3 := frozen_of HKr3.out; have hcv3 := cells_of HKv3.out; have HKn3 := Aside0.mk (blk_below (blk_alloc HKn1.out _) hb3); have hcn3 := cells_of HKn3.out; clear hb3))
            have hz := blk_put3 HKr3.out (.int .i64 0) (.int .i64 0) (.string ⟨#[]⟩)
            have hbz := below_put3 HB3.out (Nat.le_refl _) (.int .i64 0) (.int .i64 0) (.string ⟨#[]⟩)
            generalize World.setCell (World.setCell (World.setCell _ _ _) _ _) _ _ = W3 at hz hbz ⊢
            have hz0 : W3.cell? ⟨w.heap.size, 0, none⟩ = some (.int .i64 0) := blk_cell hz 0
            have hz1 : W3.cell? ⟨w.heap.size, 1, none⟩ = some (.int .i64 0) := blk_cell hz 1
            have hz2 : W3.cell? ⟨w.heap.size, 2, none⟩ = some (.string ⟨#[]⟩) := blk_cell hz 2
            exact bodyPost_ret (v := .tuple #[.agg #[.int .i64 0, .int .i64 0, .string ⟨#[]⟩], .int .i64 0, .bool false]) (by simp [results, Try.results68, go_sem, hz0, hz1, hz2]) rfl ⟨rfl, hbz⟩
          | true =>
            rw [hm] at hq2
            obtain ⟨rfl, rfl, rfl⟩ : x = ⟨k, q, ⟨#[]⟩⟩ ∧ m = u + 1 ∧ b = true := by
              have h : (x, m, b) = ((⟨k, q, ⟨#[]⟩⟩ : SValue), u + 1, true) := hq2
              simp only [Prod.mk.injEq] at h
              exact h
            have HM := Aside0.mk hm
            clear hm hq2
            go_enter Try.func68, Try.ntmps68
            go_wp2_with (first
              | (go_at_call 43; refine (le_Get.yes A1 _ r _ HG.out HBR.out (by omega) (Kd.C_below HD1.out (below_alloc (below_alloc (Below.refl _ _) _) _)) HL1.out).mono ?_; rintro e w1 ⟨rfl, hb1⟩; have HB1 := Aside0.mk (below_step (below_alloc (below_alloc (Below.refl _ _) _) _) hb1); have HKr1 := Aside0.mk (blk_below (blk_alloc (blk_new w (.cells #[.int .i64 0, .int .i64 0, .string ⟨#[]⟩] 38)) (.cells #[.int .i64 0, .int .i64 0, .string ⟨#[]⟩] 38)) hb1); obtain ⟨kr1, kr2, kr3, kr4⟩ := know HKr1.out; have HKn1 := Aside0.mk (blk_below (blk_new2 w (.cells #[.int .i64 0, .int .i64 0, .string ⟨#[]⟩] 38) (.cells #[.int .i64 0, .int .i64 0, .string ⟨#[]⟩] 38)) hb1); obtain ⟨kn1, kn2, kn3, kn4⟩ := know HKn1.out; have hx1 := pw_cell_below HB1.out HX.out; clear hb1)
              | (go_at_call 27; refine (mayV_told ⟨k, q, ⟨#[]⟩⟩ _ HQB.out HM.out).mono ?_; rintro e w3 ⟨rfl, hb3⟩; have HB3 := Aside0.mk (below_step (below_alloc HB1.out _) hb3); have HKr3 := Aside0.mk (blk_below (blk_alloc HKr1.out _) hb3); have HKv3 := Aside0.mk (blk_below (blk_new w1 (.cells #[.int .i64 k, .int .i64 q, .string ⟨#[]⟩] 38)) hb3); have hcr3 := cells_of HKr3.out; have hfr3 := frozen_of HKr3.out; have hcv3 := cells_of HKv3.out; have HKn3 := Aside0.mk (blk_below (blk_alloc HKn1.out _) hb3); have hcn3 := cells_of HKn3.out; clear hb3))
            have hz := blk_put3 HKr3.out (.int .i64 k) (.int .i64 q) (.string ⟨#[]⟩)
            have hbz := below_put3 HB3.out (Nat.le_refl _) (.int .i64 k) (.int .i64 q) (.string ⟨#[]⟩)
            generalize World.setCell (World.setCell (World.setCell _ _ _) _ _) _ _ = W3 at hz hbz ⊢
            have hz0 : W3.cell? ⟨w.heap.size, 0, none⟩ = some (.int .i64 k) := blk_cell hz 0
            have hz1 : W3.cell? ⟨w.heap.size, 1, none⟩ = some (.int .i64 q) := blk_cell hz 1
            have hz2 : W3.cell? ⟨w.heap.size, 2, none⟩ = some (.string ⟨#[]⟩) := blk_cell hz 2
            exact bodyPost_ret (v := .tuple #[.agg #[.int .i64 k, .int .i64 q, .string ⟨#[]⟩], .int .i64 ((u + 1 : Nat) : Int), .bool true]) (by simp [results, Try.results68, go_sem, hz0, hz1, hz2]) rfl ⟨rfl, hbz⟩
end Go.Proofs.Ytncllbokeofdjaa.P

namespace Go.Proofs.Ytncllbokeofdjaa.P
open Go.RowKit Go.Proofs.YtncllbokeofdjaaW.PrintWords Go.Proofs.YtncllbokeofdjaaW.PrintLast Go.Proofs.YtncllbokeofdjaaW.PrintMore
attribute [local go_sem] max2_int min2_int max_two min_two max_three min_three max_four min_four   -- for this text's walks alone
set_option linter.unusedVariables false
set_option linter.unusedSimpArgs false
def cellsP (x : SOp) : Array Value := #[.int .i64 x.f0, .int .i64 x.f1, .int .i64 x.f2.f0, .int .i64 x.f2.f1, .string x.f2.f2]
def partBPost (r : Option (SOp × Nat)) (w : World) (e : Ending) (w' : World) : Prop := (match r with
  | some (x, n) => e = .returned (.tuple #[.agg (cellsP x), .int .i64 (n : Int), .bool true])
  | none => ∃ (x : SOp) (n : Int), e = .returned (.tuple #[.agg (cellsP x), .int .i64 n, .bool false])) ∧ Below w.heap.size w w'
theorem blk_put5 {W : World} {g : Nat} {t : TypeId} {a b c d e : Value} (h : W.heap[g]? = some (.cells #[a, b, c, d, e] t (0, 0))) (x y z u v : Value) : (((((W.setCell ⟨g, 0, none⟩ x).setCell ⟨g, 1, none⟩ y).setCell ⟨g, 2, none⟩ z).setCell ⟨g, 3, none⟩ u).setCell ⟨g, 4, none⟩ v).heap[g]? = some (.cells #[x, y, z, u, v] t (0, 0)) :=
  blk_put (blk_put (blk_put (blk_put (blk_put h 0 x rfl) 1 y rfl) 2 z rfl) 3 u rfl) 4 v rfl
theorem below_put5 {B : Nat} {w W : World} {g : Nat} (h : Below B w W) (hg : B ≤ g) (x y z u v : Value) : Below B w (((((W.setCell ⟨g, 0, none⟩ x).setCell ⟨g, 1, none⟩ y).setCell ⟨g, 2, none⟩ z).setCell ⟨g, 3, none⟩ u).setCell ⟨g, 4, none⟩ v) :=
  ((((h.setCell (p := ⟨g, 0, none⟩) hg x).setCell (p := ⟨g, 1, none⟩) hg y).setCell (p := ⟨g, 2, none⟩) hg z).setCell (p := ⟨g, 3, none⟩) hg u).setCell (p := ⟨g, 4, none⟩) hg v
set_option maxHeartbeats 1000000 in
set_option maxRecDepth 100000 in
theorem partb_nil (A : Option Addr) (c : Nat) (w : World) : Calls Try.prog 44 #[.slice A 0 c] w (partBPost none w) := by
  go_enter Try.func44, Try.ntmps44
  go_wp2_with fail
  exact bodyPost_ret (v := .tuple #[.agg #[.int .i64 0, .int .i64 0, .int .i64 0, .int .i64 0, .string ⟨#[]⟩], .int .i64 0, .bool false]) (by simp [results, Try.results44, go_sem]) rfl ⟨⟨⟨0, 0, ⟨0, 0, ⟨#[]⟩⟩⟩, 0, rfl⟩, below_alloc (Below.refl _ _) _⟩
set_option maxHeartbeats 1000000 in
set_option maxRecDepth 100000 in
theorem partb_code (k : Int) (r : List Int) (A : Option Addr) (c : Nat) (w : World) (hr : Kd.C (Kd.int .u8) w A (r.length + 1) (k :: r)) (hc : r.length + 1 ≤ c) (hb : byteL (k :: r)) (hl : (k :: r).length < 4611686018427387904) (h0 : ¬ k = 0) (h1 : ¬ k = 1) : Calls Try.prog 44 #[.slice A (r.length + 1) c] w (partBPost (some (⟨k, 0, zeroV⟩, 1)) w) := by
  obtain ⟨ad, e, z0⟩ := Kd.at_int hr 0 (by decide) (by omega)
  subst e
  have z1 : w.cell? ad = some (.int .u8 k) := by have h := z0; rw [show (0 : Int).toNat = 0 from rfl, addr_zero] at h; exact h
  have z2 : w.cell? (ad.add 0) = some (.int .u8 k) := z0
  have z3 : ∀ o, (w.alloc o).cell? ad = some (.int .u8 k) := fun o => cell_later o z1
  have z4 : ∀ o, (w.alloc o).cell? (ad.add 0) = some (.int .u8 k) := fun o => cell_later o z2
  obtain ⟨hk0, hk1⟩ := hb k (by simp)
  have hwk : IntKind.i64.wrap k = k := IntWalk.i64_in _ (by omega)
  have hlen : (((r.length + 1 : Nat) : Int) == 0) = false := beq_eq_false_iff_ne.2 (by omega)
  have hlen2 : ((r.length : Int) + 1 == 0) = false := beq_eq_false_iff_ne.2 (by omega)
  have hlen3 : ¬ (r.length : Int) + 1 = 0 := by omega
  have h0b : (k == 0) = false := beq_eq_false_iff_ne.2 h0
  have h1b : (k == 1) = false := beq_eq_false_iff_ne.2 h1
  clear z0 hr hc hb hl h0 h1
  go_enter Try.func44, Try.ntmps44
  go_wp2_with fail
  exact bodyPost_ret (v := .tuple #[.agg #[.int .i64 k, .int .i64 0, .int .i64 0, .int .i64 0, .string ⟨#[]⟩], .int .i64 1, .bool true]) (by simp [results, Try.results44, go_sem]) rfl ⟨rfl, below_alloc (below_alloc (Below.refl _ _) _) _⟩
set_option maxHeartbeats 1000000 in
set_option maxRecDepth 100000 in
theorem partb_short (k : Int) (r : List Int) (A : Option Addr) (c : Nat) (w : World) (hr : Kd.C (Kd.int .u8) w A (r.length + 1) (k :: r)) (hc : r.length + 1 ≤ c) (hb : byteL (k :: r)) (hl : (k :: r).length < 4611686018427387904) (h1 : k = 1) (h2 : r = []) : Calls Try.prog 44 #[.slice A (r.length + 1) c] w (partBPost none w) := by
  obtain ⟨ad, e, z0⟩ := Kd.at_int hr 0 (by decide) (by omega)
  subst e
  have z1 : w.cell? ad = some (.int .u8 k) := by have h := z0; rw [show (0 : Int).toNat = 0 from rfl, addr_zero] at h; exact h
  have z2 : w.cell? (ad.add 0) = some (.int .u8 k) := z0
  have z3 : ∀ o, (w.alloc o).cell? ad = some (.int .u8 k) := fun o => cell_later o z1
  have z4 : ∀ o, (w.alloc o).cell? (ad.add 0) = some (.int .u8 k) := fun o => cell_later o z2
  obtain ⟨hk0, hk1⟩ := hb k (by simp)
  have hwk : IntKind.i64.wrap k = k := IntWalk.i64_in _ (by omega)
  have hlen : (((r.length + 1 : Nat) : Int) == 0) = false := beq_eq_false_iff_ne.2 (by omega)
  have hlen2 : ((r.length : Int) + 1 == 0) = false := beq_eq_false_iff_ne.2 (by omega)
  have hlen3 : ¬ (r.length : Int) + 1 = 0 := by omega
  subst h1 h2
  clear z0 hr hc hb hl hlen hlen2 hlen3
  go_enter Try.func44, Try.ntmps44
  go_wp2_with fail
  exact bodyPost_ret (v := .tuple #[.agg #[.int .i64 1, .int .i64 0, .int .i64 0, .int .i64 0, .string ⟨#[]⟩], .int .i64 0, .bool false]) (by simp [results, Try.results44, go_sem]) rfl ⟨⟨⟨1, 0, ⟨0, 0, ⟨#[]⟩⟩⟩, 0, rfl⟩, below_alloc (below_alloc (Below.refl _ _) _) _⟩
set_option maxHeartbeats 1000000 in
set_option maxRecDepth 100000 in
theorem partb_load (a : Int) (r : List Int) (A : Option Addr) (c : Nat) (w : World) (hr : Kd.C (Kd.int .u8) w A (r.length + 1 + 1) (1 :: a :: r)) (hc : r.length + 1 + 1 ≤ c) (hb : byteL (1 :: a :: r)) (hl : (1 :: a :: r).length < 4611686018427387904) : Calls Try.prog 44 #[.slice A (r.length + 1 + 1) c] w (partBPost (some (⟨1, a, zeroV⟩, 2)) w) := by
  obtain ⟨ad, e, z0⟩ := Kd.at_int hr 0 (by decide) (by omega)
  subst e
  have z1 : w.cell? ad = some (.int .u8 1) := by have h := z0; rw [show (0 : Int).toNat = 0 from rfl, addr_zero] at h; exact h
  have z2 : w.cell? (ad.add 0) = some (.int .u8 1) := z0
  have z3 : ∀ o, (w.alloc o).cell? ad = some (.int .u8 1) := fun o => cell_later o z1
  have z4 : ∀ o, (w.alloc o).cell? (ad.add 0) = some (.int .u8 1) := fun o => cell_later o z2
  obtain ⟨hk0, hk1⟩ := hb a (by simp)
  have hwk : IntKind.i64.wrap a = a := IntWalk.i64_in _ (by omega)
  have hlen : (((r.length + 1 + 1 : Nat) : Int) == 0) = false := beq_eq_false_iff_ne.2 (by omega)
  have hlen2 : ((r.length : Int) + 1 + 1 == 0) = false := beq_eq_false_iff_ne.2 (by omega)
  have hlen3 : ¬ (r.length : Int) + 1 + 1 = 0 := by omega
  obtain ⟨ad2, e2, y0⟩ := Kd.at_int hr 1 (by decide) (by omega)
  cases e2
  have y1 : w.cell? ⟨ad.block, ad.off + 1, none⟩ = some (.int .u8 a) := by have h := y0; rw [show (1 : Int).toNat = 1 from rfl, add_field _ _ 1 (by omega)] at h; exact h
  have y2 : w.cell? (ad.add 1) = some (.int .u8 a) := y0
  have y3 : ∀ o o2, ((w.alloc o).alloc o2).cell? ⟨ad.block, ad.off + 1, none⟩ = some (.int .u8 a) := fun o o2 => cell_later o2 (cell_later o y1)
  have y4 : ∀ o o2, ((w.alloc o).alloc o2).cell? (ad.add 1) = some (.int .u8 a) := fun o o2 => cell_later o2 (cell_later o y2)
  have hw1 : IntKind.i64.wrap 1 = 1 := by decide
  have hge : ¬ (r.length : Int) + 1 + 1 < 2 := by omega
  have hged : decide ((r.length : Int) + 1 + 1 < 2) = false := decide_eq_false hge
  have hlt1 : (1 : Int) < (r.length : Int) + 1 + 1 := by omega
  clear z0 hr hc hb hl y0
  go_enter Try.func44, Try.ntmps44
  go_wp2_with fail
  exact bodyPost_ret (v := .tuple #[.agg #[.int .i64 1, .int .i64 a, .int .i64 0, .int .i64 0, .string ⟨#[]⟩], .int .i64 2, .bool true]) (by simp [results, Try.results44, go_sem]) rfl ⟨rfl, below_alloc (below_alloc (Below.refl _ _) _) _⟩
set_option maxHeartbeats 1000000 in
set_option maxRecDepth 100000 in
theorem partb_push {x : SValue} {m : Nat} (r : List Int) (A : Option Addr) (c : Nat) (w : World) (hr : Kd.C (Kd.int .u8) w A (r.length + 1) (0 :: r)) (hc : r.length + 1 ≤ c) (hb : byteL (0 :: r)) (hl : (0 :: r).length < 4611686018427387904) (hg : gotV (getV r) = (x, m, true)) : Calls Try.prog 44 #[.slice A (r.length + 1) c] w (partBPost (some (⟨0, 0, x⟩, m + 1)) w) := by
  obtain ⟨ad, e, z0⟩ := Kd.at_int hr 0 (by decide) (by omega)
  subst e
  have z1 : w.cell? ad = some (.int .u8 0) := by have h := z0; rw [show (0 : Int).toNat = 0 from rfl, addr_zero] at h; exact h
  have z2 : w.cell? (ad.add 0) = some (.int .u8 0) := z0
  have z3 : ∀ o, (w.alloc o).cell? ad = some (.int .u8 0) := fun o => cell_later o z1
  have z4 : ∀ o, (w.alloc o).cell? (ad.add 0) = some (.int .u8 0) := fun o => cell_later o z2
  obtain ⟨hk0, hk1⟩ := hb 0 (by simp)
  have hwk : IntKind.i64.wrap 0 = 0 := IntWalk.i64_in _ (by omega)
  have hlen : (((r.length + 1 : Nat) : Int) == 0) = false := beq_eq_false_iff_ne.2 (by omega)
  have hlen2 : ((r.length : Int) + 1 == 0) = false := beq_eq_false_iff_ne.2 (by omega)
  have hlen3 : ¬ (r.length : Int) + 1 = 0 := by omega
  obtain ⟨i0, hi0, _, hsz0, _⟩ := info_parts info5
  obtain ⟨A', hcut, hC', hlc⟩ := drop_row (P := Try.prog) (d := Kd.int .u8) Try.underlying29 hi0 hsz0 (some ad) c (0 :: r) 1 1 rfl (by simp) (by simpa using hc)
  have HROW := Aside0.mk (hC' w hr)
  have HLC := Aside0.mk hlc
  have hcut2 : ∀ W : World, (Instr.slice 29 (.slice (some ad) (r.length + 1) c) (some (.int .i64 1)) none none).run Try.prog W = .ok (.slice A' r.length (c - 1)) W := hcut
  have HBY := Aside0.mk (show byteL r from fun z hz => hb z (by simp [hz]))
  have hlr : r.length < 4611686018427387904 := by simp only [List.length_cons] at hl; omega
  have hm := gotV_len hg
  have hwm : IntKind.i64.wrap ((m : Int) + 1) = ((m + 1 : Nat) : Int) := by rw [IntWalk.i64_in _ (by omega)]; rfl
  have HG := Aside0.mk hg
  clear z0 hr hc hb hl hC' hi0 hsz0 hcut hlc hg
  go_enter Try.func44, Try.ntmps44
  go_wp2_with fail
  go_at_call 68
  refine (value_Get.told _ A' (c - 1) r (Kd.C_below HROW.out (below_alloc (below_alloc (Below.refl _ _) _) _)) HLC.out HBY.out hlr HG.out).mono ?_
  rintro e w1 ⟨rfl, hb1⟩
  have HB1 := Aside0.mk (below_step (below_alloc (below_alloc (Below.refl _ _) _) _) hb1)
  have HT := Aside0.mk (blk_alloc (blk_below (blk_alloc (blk_new w (.cells #[.int .i64 0, .int .i64 0, .int .i64 0, .int .i64 0, .string ⟨#[]⟩] 50)) (.cells #[.int .i64 0, .int .i64 0, .int .i64 0, .int .i64 0, .string ⟨#[]⟩] 50)) hb1) (.cells #[.int .i64 x.f0, .int .i64 x.f1, .string x.f2] 38))
  have HX := Aside0.mk (blk_alloc (blk_below (blk_new2 w (.cells #[.int .i64 0, .int .i64 0, .int .i64 0, .int .i64 0, .string ⟨#[]⟩] 50) (.cells #[.int .i64 0, .int .i64 0, .int .i64 0, .int .i64 0, .string ⟨#[]⟩] 50)) hb1) (.cells #[.int .i64 x.f0, .int .i64 x.f1, .string x.f2] 38))
  have HBV := Aside0.mk (below_alloc HB1.out (.cells #[.int .i64 x.f0, .int .i64 x.f1, .string x.f2] 38))
  clear hb1
  go_upto_region 7 with fail
  go_cut [] (fun wx => wx.heap[w.heap.size]? = some (.cells #[.int .i64 0, .int .i64 0, .int .i64 0, .int .i64 0, .string ⟨#[]⟩] 50) ∧ wx.heap[w.heap.size + 1]? = some (.cells #[.int .i64 0, .int .i64 0, .int .i64 x.f0, .int .i64 x.f1, .string x.f2] 50) ∧ Below w.heap.size w wx)
  case first =>
    obtain ⟨k1, _, k3, _⟩ := know HX.out
    go_wp2_with fail
    go_meet
    exact ⟨blk_far (blk_far (blk_far HT.out (p := ⟨w.heap.size + 1, 2, none⟩) (show w.heap.size ≠ w.heap.size + 1 by omega) (.int .i64 x.f0)) (p := ⟨w.heap.size + 1, 3, none⟩) (show w.heap.size ≠ w.heap.size + 1 by omega) (.int .i64 x.f1)) (p := ⟨w.heap.size + 1, 4, none⟩) (show w.heap.size ≠ w.heap.size + 1 by omega) (.string x.f2), blk_put (blk_put (blk_put HX.out 2 (.int .i64 x.f0) rfl) 3 (.int .i64 x.f1) rfl) 4 (.string x.f2) rfl, Below.setCell (p := ⟨w.heap.size + 1, 4, none⟩) (Below.setCell (p := ⟨w.heap.size + 1, 3, none⟩) (Below.setCell (p := ⟨w.heap.size + 1, 2, none⟩) HBV.out (Nat.le_succ _) _) (Nat.le_succ _) _) (Nat.le_succ _) _⟩
  case rest =>
  obtain ⟨hkt, hkx, hbw⟩ := hcut
  obtain ⟨w9, rfl⟩ : ∃ w9, w9 = wc := ⟨_, rfl⟩
  have HKT := Aside0.mk hkt
  have HBW := Aside0.mk hbw
  obtain ⟨j1, _, j3, _⟩ := know hkx
  obtain ⟨i1, _, i3, _⟩ := know hkt
  clear hkt hkx hbw
  have hfz := blk_put5 (HKT.out) (.int .i64 0) (.int .i64 0) (.int .i64 x.f0) (.int .i64 x.f1) (.string x.f2)
  have hz0 := blk_cell hfz 0
  have hz1 := blk_cell hfz 1
  have hz2 := blk_cell hfz 2
  have hz3 := blk_cell hfz 3
  have hz4 := blk_cell hfz 4
  go_wp2_with fail
  exact bodyPost_ret (v := .tuple #[.agg #[.int .i64 0, .int .i64 0, .int .i64 x.f0, .int .i64 x.f1, .string x.f2], .int .i64 ((m + 1 : Nat) : Int), .bool true]) (by simp [results, Try.results44, go_sem, hz0, hz1, hz2, hz3, hz4]) rfl ⟨rfl, below_put5 (HBW.out) (Nat.le_refl _) _ _ _ _ _⟩
set_option maxHeartbeats 1000000 in
set_option maxRecDepth 100000 in
theorem partb_bad {x : SValue} {m : Nat} (r : List Int) (A : Option Addr) (c : Nat) (w : World) (hr : Kd.C (Kd.int .u8) w A (r.length + 1) (0 :: r)) (hc : r.length + 1 ≤ c) (hb : byteL (0 :: r)) (hl : (0 :: r).length < 4611686018427387904) (hg : gotV (getV r) = (x, m, false)) : Calls Try.prog 44 #[.slice A (r.length + 1) c] w (partBPost none w) := by
  obtain ⟨ad, e, z0⟩ := Kd.at_int hr 0 (by decide) (by omega)
  subst e
  have z1 : w.cell? ad = some (.int .u8 0) := by have h := z0; rw [show (0 : Int).toNat = 0 from rfl, addr_zero] at h; exact h
  have z2 : w.cell? (ad.add 0) = some (.int .u8 0) := z0
  have z3 : ∀ o, (w.alloc o).cell? ad = some (.int .u8 0) := fun o => cell_later o z1
  have z4 : ∀ o, (w.alloc o).cell? (ad.add 0) = some (.int .u8 0) := fun o => cell_later o z2
  obtain ⟨hk0, hk1⟩ := hb 0 (by simp)
  have hwk : IntKind.i64.wrap 0 = 0 := IntWalk.i64_in _ (by omega)
  have hlen : (((r.length + 1 : Nat) : Int) == 0) = false := beq_eq_false_iff_ne.2 (by omega)
  have hlen2 : ((r.length : Int) + 1 == 0) = false := beq_eq_false_iff_ne.2 (by omega)
  have hlen3 : ¬ (r.length : Int) + 1 = 0 := by omega
  obtain ⟨i0, hi0, _, hsz0, _⟩ := info_parts info5
  obtain ⟨A', hcut, hC', hlc⟩ := drop_row (P := Try.prog) (d := Kd.int .u8) Try.underlying29 hi0 hsz0 (some ad) c (0 :: r) 1 1 rfl (by simp) (by simpa using hc)
  have HROW := Aside0.mk (hC' w hr)
  have HLC := Aside0.mk hlc
  have hcut2 : ∀ W : World, (Instr.slice 29 (.slice (some ad) (r.length + 1) c) (some (.int .i64 1)) none none).run Try.prog W = .ok (.slice A' r.length (c - 1)) W := hcut
  have HBY := Aside0.mk (show byteL r from fun z hz => hb z (by simp [hz]))
  have hlr : r.length < 4611686018427387904 := by simp only [List.length_cons] at hl; omega
  have hm := gotV_len hg
  have hwm : IntKind.i64.wrap ((m : Int) + 1) = ((m + 1 : Nat) : Int) := by rw [IntWalk.i64_in _ (by omega)]; rfl
  have HG := Aside0.mk hg
  clear z0 hr hc hb hl hC' hi0 hsz0 hcut hlc hg
  go_enter Try.func44, Try.ntmps44
  go_wp2_with fail
  go_at_call 68
  refine (value_Get.told _ A' (c - 1) r (Kd.C_below HROW.out (below_alloc (below_alloc (Below.refl _ _) _) _)) HLC.out HBY.out hlr HG.out).mono ?_
  rintro e w1 ⟨rfl, hb1⟩
  have HB1 := Aside0.mk (below_step (below_alloc (below_alloc (Below.refl _ _) _) _) hb1)
  have HT := Aside0.mk (blk_alloc (blk_below (blk_alloc (blk_new w (.cells #[.int .i64 0, .int .i64 0, .int .i64 0, .int .i64 0, .string ⟨#[]⟩] 50)) (.cells #[.int .i64 0, .int .i64 0, .int .i64 0, .int .i64 0, .string ⟨#[]⟩] 50)) hb1) (.cells #[.int .i64 x.f0, .int .i64 x.f1, .string x.f2] 38))
  have HX := Aside0.mk (blk_alloc (blk_below (blk_new2 w (.cells #[.int .i64 0, .int .i64 0, .int .i64 0, .int .i64 0, .string ⟨#[]⟩] 50) (.cells #[.int .i64 0, .int .i64 0, .int .i64 0, .int .i64 0, .string ⟨#[]⟩] 50)) hb1) (.cells #[.int .i64 x.f0, .int .i64 x.f1, .string x.f2] 38))
  have HBV := Aside0.mk (below_alloc HB1.out (.cells #[.int .i64 x.f0, .int .i64 x.f1, .string x.f2] 38))
  clear hb1
  go_upto_region 7 with fail
  go_cut [] (fun wx => wx.heap[w.heap.size]? = some (.cells #[.int .i64 0, .int .i64 0, .int .i64 0, .int .i64 0, .string ⟨#[]⟩] 50) ∧ wx.heap[w.heap.size + 1]? = some (.cells #[.int .i64 0, .int .i64 0, .int .i64 x.f0, .int .i64 x.f1, .string x.f2] 50) ∧ Below w.heap.size w wx)
  case first =>
    obtain ⟨k1, _, k3, _⟩ := know HX.out
    go_wp2_with fail
    go_meet
    exact ⟨blk_far (blk_far (blk_far HT.out (p := ⟨w.heap.size + 1, 2, none⟩) (show w.heap.size ≠ w.heap.size + 1 by omega) (.int .i64 x.f0)) (p := ⟨w.heap.size + 1, 3, none⟩) (show w.heap.size ≠ w.heap.size + 1 by omega) (.int .i64 x.f1)) (p := ⟨w.heap.size + 1, 4, none⟩) (show w.heap.size ≠ w.heap.size + 1 by omega) (.string x.f2), blk_put (blk_put (blk_put HX.out 2 (.int .i64 x.f0) rfl) 3 (.int .i64 x.f1) rfl) 4 (.string x.f2) rfl, Below.setCell (p := ⟨w.heap.size + 1, 4, none⟩) (Below.setCell (p := ⟨w.heap.size + 1, 3, none⟩) (Below.setCell (p := ⟨w.heap.size + 1, 2, none⟩) HBV.out (Nat.le_succ _) _) (Nat.le_succ _) _) (Nat.le_succ _) _⟩
  case rest =>
  obtain ⟨hkt, hkx, hbw⟩ := hcut
  obtain ⟨w9, rfl⟩ : ∃ w9, w9 = wc := ⟨_, rfl⟩
  have HKT := Aside0.mk hkt
  have HBW := Aside0.mk hbw
  obtain ⟨j1, _, j3, _⟩ := know hkx
  obtain ⟨i1, _, i3, _⟩ := know hkt
  clear hkt hkx hbw
  have hfz := blk_put5 (HKT.out) (.int .i64 0) (.int .i64 0) (.int .i64 x.f0) (.int .i64 x.f1) (.string x.f2)
  have hz0 := blk_cell hfz 0
  have hz1 := blk_cell hfz 1
  have hz2 := blk_cell hfz 2
  have hz3 := blk_cell hfz 3
  have hz4 := blk_cell hfz 4
  go_wp2_with fail
  exact bodyPost_ret (v := .tuple #[.agg #[.int .i64 0, .int .i64 0, .int .i64 x.f0, .int .i64 x.f1, .string x.f2], .int .i64 ((m + 1 : Nat) : Int), .bool false]) (by simp [results, Try.results44, go_sem, hz0, hz1, hz2, hz3, hz4]) rfl ⟨⟨⟨0, 0, x⟩, _, rfl⟩, below_put5 (HBW.out) (Nat.le_refl _) _ _ _ _ _⟩
theorem partb_told (l : List Int) (A : Option Addr) (c : Nat) (w : World) (hr : Kd.C (Kd.int .u8) w A l.length l) (hc : l.length ≤ c) (hb : byteL l) (hl : l.length < 4611686018427387904) {r : Option (SOp × Nat)} (hq : getP l = r) : Calls Try.prog 44 #[.slice A l.length c] w (partBPost r w) := by
  cases l with
  | nil =>
    subst hq
    exact partb_nil A c w
  | cons k r' =>
    simp only [getP] at hq
    by_cases h0 : k = 0
    · subst h0
      rw [if_pos rfl] at hq
      obtain ⟨⟨x, m, b⟩, hg⟩ : ∃ q, gotV (getV r') = q := ⟨_, rfl⟩
      cases hv : getV r' with
      | none =>
        rw [hv] at hq hg
        subst hq
        simp only [gotV, Prod.mk.injEq] at hg
        obtain ⟨rfl, rfl, rfl⟩ := hg
        exact partb_bad r' A c w hr hc hb hl (by rw [hv]; rfl)
      | some p =>
        obtain ⟨y, j⟩ := p
        rw [hv] at hq hg
        subst hq
        simp only [gotV, Prod.mk.injEq] at hg
        obtain ⟨rfl, rfl, rfl⟩ := hg
        exact partb_push r' A c w hr hc hb hl (by rw [hv]; rfl)
    · rw [if_neg h0] at hq
      by_cases h1 : k = 1
      · rw [if_pos h1] at hq
        subst h1
        cases r' with
        | nil => subst hq; exact partb_short 1 [] A c w hr hc hb hl rfl rfl
        | cons a r'' => subst hq; exact partb_load a r'' A c w hr hc hb hl
      · rw [if_neg h1] at hq
        subst hq
        exact partb_code k r' A c w hr hc hb hl h0 h1
end Go.Proofs.Ytncllbokeofdjaa.P

namespace Go.Proofs.Ytncllbokeofdjaa.P
open Go.RowKit Go.Proofs.YtncllbokeofdjaaW.PrintWords Go.Proofs.YtncllbokeofdjaaW.PrintLast Go.Proofs.YtncllbokeofdjaaW.PrintMore
attribute [local go_sem] max2_int min2_int max_two min_two max_three min_three max_four min_four   -- for this text's walks alone
set_option linter.unusedVariables false
set_option linter.unusedSimpArgs false
def opsPost3 (x : List SOp) (n : Nat) (b : Bool) (w : World) (e : Ending) (w' : World) : Prop := ∃ A c, (e = .returned (.tuple #[.slice A x.length c, .int .i64 (n : Int), .bool b]) ∧ x.length ≤ c ∧ Kd.C kOp w' A x.length x) ∧ Below w.heap.size w w'
def getORel (l : List Int) (n : Nat) (w : World) (k : Nat) (at_ v8 : Value) (w' : World) : Prop := ∃ (a : Nat) (fs : List SOp), at_ = .int .i64 (a : Int) ∧ k ≤ n ∧ a ≤ l.length ∧ fs.length = k ∧ (∀ x ∈ fs, i64V x.f2) ∧ getO l = contO l (n - k) a fs ∧ Kd.R kOp 50 w' w.heap.size (fun _ => True) v8 fs ∧ Below w.heap.size w w'
theorem none_ops {w : World} {e : Ending} {w' : World} (he : e = .returned (.tuple #[.slice none 0 0, .int .i64 0, .bool false])) (hb : Below w.heap.size w w') : opsPost3 [] 0 false w e w' := ⟨none, 0, ⟨he, Nat.le_refl _, Kd.C_nil _ _⟩, hb⟩
set_option maxHeartbeats 1000000 in
set_option maxRecDepth 100000 in
theorem getO_no1 (w : World) (A : Option Addr) (c : Nat) (l : List Int) (hr : Kd.C (Kd.int .u8) w A l.length l) (hc : l.length ≤ c) (hb : byteL l) (hl : l.length < 4611686018427387904) (hg : getN l = none) : Calls Try.prog 21 #[.slice A l.length c] w (opsPost3 [] 0 false w) := by
  go_enter Try.func21, Try.ntmps21
  go_wp2_with fail
  go_at_call 43
  refine (le_Get.no A c l _ hg hb hl hr hc).mono ?_
  rintro e w1 ⟨rfl, hb1⟩
  go_wp2_with fail
  go_ret3
  exact none_ops rfl hb1
set_option maxHeartbeats 1000000 in
set_option maxRecDepth 100000 in
theorem getO_no2 (w : World) (A : Option Addr) (c : Nat) (l : List Int) (hr : Kd.C (Kd.int .u8) w A l.length l) (hc : l.length ≤ c) (hb : byteL l) (hl : l.length < 4611686018427387904) {n u : Nat} (hg : getN l = some (n, u)) (hn : ¬ n ≤ 12) : Calls Try.prog 21 #[.slice A l.length c] w (opsPost3 [] 0 false w) := by
  have hgt : (n : Int) > 12 := by omega
  have hgt2 : (12 : Int) < (n : Int) := by omega
  have hd : decide ((12 : Int) < (n : Int)) = true := decide_eq_true hgt2
  go_enter Try.func21, Try.ntmps21
  go_wp2_with fail
  go_at_call 43
  refine (le_Get.yes A c l _ hg hb hl hr hc).mono ?_
  rintro e w1 ⟨rfl, hb1⟩
  go_wp2_with fail
  go_ret3
  exact none_ops rfl hb1
set_option maxHeartbeats 8000000 in
set_option maxRecDepth 100000 in
theorem getO_go (w : World) (A : Option Addr) (c : Nat) (l : List Int) (hr : Kd.C (Kd.int .u8) w A l.length l) (hc : l.length ≤ c) (hb : byteL l) (hl : l.length < 4611686018427387904) {n u : Nat} (hg : getN l = some (n, u)) (hn : n ≤ 12) {x : List SOp} {m : Nat} {b : Bool} (hq : gotO (getO l) = (x, m, b)) : Calls Try.prog 21 #[.slice A l.length c] w (opsPost3 x m b w) := by
  obtain ⟨i0, hi0, _, hsz0, _⟩ := info_parts info5
  have HR := Aside0.mk hr
  have HC := Aside0.mk hc
  have HBY := Aside0.mk hb
  have HG := Aside0.mk hg
  have HQ := Aside0.mk hq
  have hngt : ¬ (12 : Int) < (n : Int) := by omega
  have hd : decide ((12 : Int) < (n : Int)) = false := decide_eq_false hngt
  have hul := (getN_used hg).2.1
  have HST := Aside0.mk (getO_some (show getM l 12 = some (n, u) from by rw [getM_some hg, if_pos hn]))
  clear hr hc hb hg hq
  go_enter Try.func21, Try.ntmps21
  go_wp2_with fail
  go_at_call 43
  refine (le_Get.yes A c l _ HG.out HBY.out hl HR.out HC.out).mono ?_
  rintro e w1 ⟨rfl, hb1⟩
  have HB1 := Aside0.mk hb1
  clear hb1
  go_wp2_with fail
  go_loopw [6, 8, 9, 10, 11, 25] (fun v6 v8 _ _ _ v25 w' => ∃ k : Nat, v25 = .int .u64 (k : Int) ∧ getORel l n w k v6 v8 w') (fun _ _ _ _ _ i _ => n - (intOf i).toNat)
  case atStart => exact ⟨0, rfl, u, [], rfl, Nat.zero_le _, hul, rfl, (fun _ h => by cases h), by rw [Nat.sub_zero]; exact HST.out, Kd.R_nil _ _ _ _ _, HB1.out⟩
  case round =>
    obtain ⟨k, rfl, a, fs, rfl, hk, ha, hfl, hfi, hcont, ho, hbw⟩ := hrel
    have HO := Aside0.mk ho
    have HB := Aside0.mk hbw
    have HFI := Aside0.mk hfi
    have HCT := Aside0.mk hcont
    have HFL := Aside0.mk hfl
    have hfl12 : fs.length ≤ 12 := by omega
    clear ho hbw hfi hcont HB1 hfl
    by_cases hlt : k < n
    · obtain ⟨A4, hcut4, hD4, hlc4⟩ := drop_row (P := Try.prog) (d := Kd.int .u8) Try.underlying29 hi0 hsz0 A c l a (a : Int) rfl ha HC.out
      have HD4 := Aside0.mk (hD4 w HR.out)
      have HL4 := Aside0.mk hlc4
      have hln4 : a + (l.drop a).length = l.length := by rw [List.length_drop]; omega
      have hstep := contO_step l (n - k - 1) a fs
      rw [show n - k - 1 + 1 = n - k from by omega] at hstep
      have HBD := Aside0.mk (byteL_drop HBY.out a)
      have hld : (l.drop a).length < 4611686018427387904 := by omega
      have hlti : (k : Int) < (n : Int) := by omega
      have hltd : decide ((k : Int) < (n : Int)) = true := decide_eq_true hlti
      clear hD4 hlc4
      cases hg4 : getP (l.drop a) with
      | none =>
        have HN : Aside0 (getO l = none) := ⟨by rw [HCT.out, hstep, hg4]⟩
        have HG4 := Aside0.mk hg4
        have hq2 := HQ.out
        rw [HN.out] at hq2
        simp only [gotO, Prod.mk.injEq] at hq2
        obtain ⟨rfl, rfl, rfl⟩ := hq2
        clear hg4 hstep hi0 hsz0
        generalize l.drop a = ld4 at *
        go_wp2_with fail
        go_at_call 44
        refine (partb_told ld4 A4 _ _ (Kd.C_below HD4.out HB.out) HL4.out HBD.out hld HG4.out).mono ?_
        rintro e w4 ⟨⟨z, zn, rfl⟩, hb4⟩
        unfold cellsP
        go_wp2_with fail
        go_ret3
        exact none_ops rfl (below_alloc (below_step HB.out hb4) _)
      | some p4 =>
        obtain ⟨z, zn⟩ := p4
        obtain ⟨hz1, hz2, hz3⟩ := getP_used HBD.out hg4
        rw [hg4] at hstep
        simp only at hstep
        have HST4 := Aside0.mk (HCT.out.trans hstep)
        have HG4 := Aside0.mk hg4
        have HZ1 := Aside0.mk hz1
        have hsum : IntKind.i64.wrap ((a : Int) + (zn : Int)) = ((a + zn : Nat) : Int) := by rw [IntWalk.i64_in _ (by omega)]; rfl
        have hwk : IntKind.u64.wrap ((k : Int) + 1) = ((k + 1 : Nat) : Int) := by rw [show (k : Int) + 1 = ((k + 1 : Nat) : Int) from rfl]; exact u64_small' (by omega)
        clear hg4 hstep hi0 hsz0 hz1
        generalize l.drop a = ld4 at *
        go_wp2_with fail
        go_at_call 44
        refine (partb_told ld4 A4 _ _ (Kd.C_below HD4.out HB.out) HL4.out HBD.out hld HG4.out).mono ?_
        rintro e w4 ⟨rfl, hb4⟩
        unfold cellsP
        have HB4 := Aside0.mk (below_alloc (below_step HB.out hb4) (.cells #[.int .i64 z.f0, .int .i64 z.f1, .int .i64 z.f2.f0, .int .i64 z.f2.f1, .string z.f2.f2] 50))
        have HO4 := Aside0.mk (Kd.R_alloc (Kd.R_below HO.out hb4) (.cells #[.int .i64 z.f0, .int .i64 z.f1, .int .i64 z.f2.f0, .int .i64 z.f2.f1, .string z.f2.f2] 50))
        have HS4 := Aside0.mk (World.size_alloc w4 (.cells #[.int .i64 z.f0, .int .i64 z.f1, .int .i64 z.f2.f0, .int .i64 z.f2.f1, .string z.f2.f2] 50))
        clear hb4
        go_wp2_with ((with_reducible refine gate_builtin (b := .append) (xs := #[.tmp 37, .tmp 39]) rfl ?_); at_builtin; refine Kd.R_append kOp (w0 := w) w.heap.size rfl (.tmp 37) (.tmp 39) 28 50 (.agg #[.int .i64 0, .int .i64 0, .int .i64 0, .int .i64 0, .string ⟨#[]⟩]) 48 rfl Try.underlying28 infoOp rfl ?h1 ?h2 u8 fs z [.int .i64 z.f0, .int .i64 z.f1, .int .i64 z.f2.f0, .int .i64 z.f2.f1, .string z.f2.f2] (fun _ => True) (fun _ => False) ?hs ?hx ?aP (fun _ hk => hk.elim) (fun _ _ => trivial) ?aO ?aB ?aS ?aL ?_; (case h1 => decide); (case h2 => decide); (case hs => rfl); (case hx => first | rfl | (show Value.slice (some ⟨w4.heap.size + 1, 0, none⟩) 1 1 = _; rw [World.size_alloc])); (case aP => exact kOp_mkM _ _ _ z); (case aO => exact HO4.out); (case aB => exact HB4.out); (case aS => exact below_size HB4.out); (case aL => omega); intro v5 w5 ho5 hb5 hg5 hat5; have HO5 := Aside0.mk ho5; have HB5 := Aside0.mk hb5; clear ho5 hb5 hg5 hat5)
        go_roundw
        case rel => exact ⟨k + 1, by first | go_num | (rw [hwk]) | rfl, a + zn, fs ++ [z], by first | go_num | rfl, by omega, by omega, by rw [List.length_append, HFL.out]; rfl, fun y hy => by rcases List.mem_append.1 hy with h | h; exact HFI.out y h; rw [List.mem_singleton.1 h]; exact HZ1.out, by rw [show n - (k + 1) = n - k - 1 from by omega]; exact HST4.out, HO5.out, HB5.out⟩
        case measure => simp [intOf]; omega
    · obtain rfl : k = n := by omega
      have hnl : ¬ (k : Int) < (k : Int) := by omega
      have hcte := HCT.out
      rw [Nat.sub_self, contO_end] at hcte
      obtain ⟨A5, c5, rfl, hc5, hr5⟩ := Kd.R_reads HO.out
      have HC5 := Aside0.mk hc5
      have HR5 := Aside0.mk hr5
      have hq2 := HQ.out
      rw [hcte] at hq2
      clear hc5 hr5 hcte hi0 hsz0
      cases hmf : mayO fs with
      | false =>
        rw [hmf, if_neg (by decide)] at hq2
        simp only [gotO, Prod.mk.injEq] at hq2
        obtain ⟨rfl, rfl, rfl⟩ := hq2
        have HMF := Aside0.mk hmf
        clear hmf
        go_wp2_with fail
        go_at_call 32
        refine (mayO_told fs A5 c5 _ HR5.out HC5.out HFI.out HMF.out).mono ?_
        rintro e w6 ⟨rfl, hb6⟩
        go_wp2_with fail
        go_ret3
        exact none_ops rfl (below_step HB.out hb6)
      | true =>
        rw [hmf, if_pos rfl] at hq2
        simp only [gotO, Prod.mk.injEq] at hq2
        obtain ⟨rfl, rfl, rfl⟩ := hq2
        have HMF := Aside0.mk hmf
        clear hmf
        go_wp2_with fail
        go_at_call 32
        refine (mayO_told fs A5 c5 _ HR5.out HC5.out HFI.out HMF.out).mono ?_
        rintro e w6 ⟨rfl, hb6⟩
        go_wp2_with fail
        go_ret3
        exact ⟨A5, c5, ⟨rfl, HC5.out, Kd.C_below HR5.out hb6⟩, below_step HB.out hb6⟩
theorem getO_told (w : World) (A : Option Addr) (c : Nat) (l : List Int) (hr : Kd.C (Kd.int .u8) w A l.length l) (hc : l.length ≤ c) (hb : byteL l) (hl : l.length < 4611686018427387904) {x : List SOp} {m : Nat} {b : Bool} (hq : gotO (getO l) = (x, m, b)) : Calls Try.prog 21 #[.slice A l.length c] w (opsPost3 x m b w) := by
  cases hg : getN l with
  | none =>
    rw [getO_none (getM_none hg)] at hq
    simp only [gotO, Prod.mk.injEq] at hq
    obtain ⟨rfl, rfl, rfl⟩ := hq
    exact getO_no1 w A c l hr hc hb hl hg
  | some p =>
    obtain ⟨n, u⟩ := p
    by_cases hn : n ≤ 12
    · exact getO_go w A c l hr hc hb hl hg hn hq
    · rw [getO_none (show getM l 12 = none from by rw [getM_some hg, if_neg hn])] at hq
      simp only [gotO, Prod.mk.injEq] at hq
      obtain ⟨rfl, rfl, rfl⟩ := hq
      exact getO_no2 w A c l hr hc hb hl hg hn
end Go.Proofs.Ytncllbokeofdjaa.P

namespace Go.Proofs.Ytncllbokeofdjaa.P
open Go.RowKit Go.Proofs.YtncllbokeofdjaaW.PrintWords Go.Proofs.YtncllbokeofdjaaW.PrintLast Go.Proofs.YtncllbokeofdjaaW.PrintMore
attribute [local go_sem] max2_int min2_int max_two min_two max_three min_three max_four min_four   -- for this text's walks alone
set_option linter.unusedVariables false
set_option linter.unusedSimpArgs false
attribute [local go_sem high] eqAValue
attribute [local go_sem high] eqAValue
set_option maxHeartbeats 1000000 in
set_option maxRecDepth 100000 in
theorem holds_told (x : SEvent) (A : Option Addr) (c : Nat) (l : List SOp) (Al : Option Addr) (cl : Nat) (w : World) (hr : Kd.C kValue w A x.f2.length x.f2) (hc : x.f2.length ≤ c) (hwf : ∀ v ∈ x.f2, i64V v) (hl : Kd.C kOp w Al l.length l) (hlc : l.length ≤ cl) (hwl : ∀ x ∈ l, i64V x.f2) {b : Bool} (hb : holdsV x l = b) : Calls Try.prog 25 #[.agg #[.string x.f0, .int .i64 x.f1, .slice A x.f2.length c], .slice Al l.length cl] w (boolPost b w) := by
  obtain ⟨y, n, hyn⟩ : ∃ y n, evalV x l = (y, n) := ⟨_, _, rfl⟩
  have HEV := Aside0.mk (fun W (h : Below w.heap.size w W) => eval_told x A c l Al cl W (Kd.C_below hr h) hc hwf (Kd.C_below hl h) hlc hwl hyn)
  unfold holdsV at hb
  rw [hyn] at hb
  have heq : (y.f0 == 1 && (y.f1 == 1 && y.f2.toList.isEmpty)) = eqV y (truV true) := by unfold eqV truV; rw [show (⟨#[]⟩ : ByteArray).toList = [] from by decide +kernel]; cases y.f2.toList <;> rfl
  clear hr hc hwf hl hlc hwl hyn
  obtain ⟨len, hlen⟩ : ∃ len, l.length = len := ⟨_, rfl⟩
  rw [hlen] at HEV hb ⊢
  clear hlen
  by_cases h0 : len = 0
  · rw [decide_eq_true h0, Bool.true_or] at hb
    subst hb
    have h0i : ((len : Int) == 0) = true := by rw [h0]; rfl
    clear h0
    go_enter Try.func25, Try.ntmps25
    go_wp2_with fail
    go_at_call 17
    refine (HEV.out _ (below_alloc (Below.refl _ _) _)).mono ?_
    rintro e w1 ⟨rfl, hb1⟩
    have HB1 := Aside0.mk (below_alloc (below_step (below_alloc (Below.refl _ _) _) hb1) (.cells #[.int .i64 y.f0, .int .i64 y.f1, .string y.f2] 38))
    have hz : ∀ m i, ((w1.alloc (.cells #[.int .i64 y.f0, .int .i64 y.f1, .string y.f2] 38)).drewN m).cell? ⟨w1.heap.size, i, none⟩ = (#[.int .i64 y.f0, .int .i64 y.f1, .string y.f2] : Array Value)[i]? := fun m i => blk_cell (blk_drewN (blk_new w1 (.cells #[.int .i64 y.f0, .int .i64 y.f1, .string y.f2] 38)) m) i
    obtain ⟨q1_, q2_, q3_, q4_⟩ := know (blk_new w1 (.cells #[.int .i64 y.f0, .int .i64 y.f1, .string y.f2] 38))
    clear hb1
    go_wp2_with fail
    go_quiet (fail)
    go_wp2_with fail
    go_ret
    exact ⟨rfl, pw_below_drewN HB1.out _⟩
  · rw [decide_eq_false h0, Bool.false_or] at hb
    have h0i : ((len : Int) == 0) = false := beq_eq_false_iff_ne.2 (by omega)
    clear h0
    by_cases hn : n = 0
    · subst hn
      rw [show ((0 : Int) == 0) = true from rfl, Bool.true_and] at hb
      replace hb : eqV y (truV true) = b := hb
      rw [hb] at heq
      clear hb
      go_enter Try.func25, Try.ntmps25
      go_wp2_with fail
      go_at_call 17
      refine (HEV.out _ (below_alloc (Below.refl _ _) _)).mono ?_
      rintro e w1 ⟨rfl, hb1⟩
      have HB1 := Aside0.mk (below_alloc (below_step (below_alloc (Below.refl _ _) _) hb1) (.cells #[.int .i64 y.f0, .int .i64 y.f1, .string y.f2] 38))
      have hz : ∀ m i, ((w1.alloc (.cells #[.int .i64 y.f0, .int .i64 y.f1, .string y.f2] 38)).drewN m).cell? ⟨w1.heap.size, i, none⟩ = (#[.int .i64 y.f0, .int .i64 y.f1, .string y.f2] : Array Value)[i]? := fun m i => blk_cell (blk_drewN (blk_new w1 (.cells #[.int .i64 y.f0, .int .i64 y.f1, .string y.f2] 38)) m) i
      obtain ⟨q1_, q2_, q3_, q4_⟩ := know (blk_new w1 (.cells #[.int .i64 y.f0, .int .i64 y.f1, .string y.f2] 38))
      clear hb1
      go_wp2_with fail
      go_region_held3 (fun w' => w'.cell? ⟨w1.heap.size, 0, none⟩ = some (.int .i64 y.f0) ∧ w'.cell? ⟨w1.heap.size, 1, none⟩ = some (.int .i64 y.f1) ∧ w'.cell? ⟨w1.heap.size, 2, none⟩ = some (.string y.f2))
        (first | go_keep | (go_split_ands; refine ⟨?_, ?_, ?_⟩ <;> (first | exact hz 1 0 | exact hz 1 1 | exact hz 1 2 | (apply pw_cell_below; (first | exact hb2); assumption))))
        (first
          | (go_at_call 47; refine (valTru_told true _).mono ?_; rintro e w2 ⟨rfl, hb2⟩))
      all_goals
        go_wp2_with fail
        go_ret
        exact ⟨rfl, below_step (below_drew HB1.out) hb2⟩
    · have hn1 : (n == 0) = false := beq_eq_false_iff_ne.2 hn
      rw [hn1, Bool.false_and] at hb
      subst hb
      go_enter Try.func25, Try.ntmps25
      go_wp2_with fail
      go_at_call 17
      refine (HEV.out _ (below_alloc (Below.refl _ _) _)).mono ?_
      rintro e w1 ⟨rfl, hb1⟩
      have HB1 := Aside0.mk (below_alloc (below_step (below_alloc (Below.refl _ _) _) hb1) (.cells #[.int .i64 y.f0, .int .i64 y.f1, .string y.f2] 38))
      have hz : ∀ m i, ((w1.alloc (.cells #[.int .i64 y.f0, .int .i64 y.f1, .string y.f2] 38)).drewN m).cell? ⟨w1.heap.size, i, none⟩ = (#[.int .i64 y.f0, .int .i64 y.f1, .string y.f2] : Array Value)[i]? := fun m i => blk_cell (blk_drewN (blk_new w1 (.cells #[.int .i64 y.f0, .int .i64 y.f1, .string y.f2] 38)) m) i
      obtain ⟨q1_, q2_, q3_, q4_⟩ := know (blk_new w1 (.cells #[.int .i64 y.f0, .int .i64 y.f1, .string y.f2] 38))
      clear hb1
      go_wp2_with fail
      go_quiet (fail)
      go_wp2_with fail
      go_ret
      exact ⟨rfl, pw_below_drewN HB1.out _⟩
end Go.Proofs.Ytncllbokeofdjaa.P

namespace Go.Proofs.Ytncllbokeofdjaa.P
open Go.RowKit Go.Proofs.YtncllbokeofdjaaW.PrintWords Go.Proofs.YtncllbokeofdjaaW.PrintLast Go.Proofs.YtncllbokeofdjaaW.PrintMore
set_option linter.unusedVariables false
theorem C_sole {α : Type} {d : Kd α} {W : World} {B T : Nat} {x : α} {cs : List Value} (h : W.heap[B]? = some (.cells cs.toArray T (0, 0))) (hk : d.K W x cs) (hl : cs.length = d.sz) : Kd.C d W (some ⟨B, 0, none⟩) 1 [x] := by
  refine ⟨rfl, by decide, fun _ => ⟨_, rfl, fun j l hj => ?_⟩⟩
  match j with
  | j + 1 => simp at hj
  | 0 =>
    simp at hj
    subst hj
    refine ⟨cs, hl, hk, fun i u hu => ?_⟩
    rw [Nat.zero_mul, add_plain, blk_cell h]
    simpa using hu
def ex8E : SEvent := ⟨⟨#[97]⟩, 0, [⟨0, 4, ⟨#[]⟩⟩]⟩
def ex8S : SSchema := ⟨⟨#[97]⟩, 1, [⟨⟨#[120]⟩, 0⟩]⟩
theorem ex8_five : holdsV ex8E (belowL 5) = true := by decide +kernel
theorem ex8_four : holdsV ex8E (belowL 4) = false := by decide +kernel
theorem ex8_kind : kindV ex8S (belowL 5) = (1, 0) := by decide +kernel
theorem ex8_may : mayO (belowL 5) = true := by decide +kernel
theorem ex8_bytes : bytesO (belowL 5) = [3, 1, 0, 0, 0, 10, 5] := by
  unfold bytesO
  rw [show (belowL 5).length = 3 from rfl, lePut_small (by decide)]
  have e1 : bytesP ⟨1, 0, zeroV⟩ = [1, 0] := by unfold bytesP; rw [if_neg (by decide), if_pos rfl]
  have e2 : bytesP ⟨0, 0, ⟨0, 5, ⟨#[]⟩⟩⟩ = [0, 0, 10] := by
    unfold bytesP bytesV
    rw [if_pos rfl, show numV ⟨0, 5, ⟨#[]⟩⟩ = 10 from by decide +kernel, lePut_small (by decide)]
    rfl
  have e3 : bytesP ⟨5, 0, zeroV⟩ = [5] := by unfold bytesP; rw [if_neg (by decide), if_neg (by decide)]
  unfold opsL belowL
  rw [List.map_cons, List.map_cons, List.map_cons, List.map_nil, e1, e2, e3]
  rfl
theorem ex8_get : gotO (getO [3, 1, 0, 0, 0, 10, 5]) = (belowL 5, 7, true) := by
  have h := getO_put (l := belowL 5) [] ex8_may (belowL_i64 (by decide))
  rw [List.append_nil, ex8_bytes] at h
  exact gotO_some h
theorem ex8_vals : ∀ v ∈ ex8E.f2, i64V v := by
  intro v hv
  rw [show ex8E.f2 = [⟨0, 4, ⟨#[]⟩⟩] from rfl, List.mem_singleton] at hv
  subst hv
  unfold i64V
  decide
theorem five_i64 : ∀ x ∈ belowL 5, i64V x.f2 := belowL_i64 (by decide)
theorem four_i64 : ∀ x ∈ belowL 4, i64V x.f2 := belowL_i64 (by decide)
set_option maxHeartbeats 8000000 in
set_option maxRecDepth 100000 in
theorem awake8_told (w : World) : Calls Try.prog 11 #[] w (boolPost true w) := by
  have HPUT := Aside0.mk (fun W A c hr hc => putO_told (belowL 5) A c W hr hc five_i64 ex8_may ((if_pos rfl).trans ex8_bytes))
  have HV := Aside0.mk (show Kd.C kValue ((w.alloc (.cells #[.int .i64 0, .int .i64 4, .string ⟨#[]⟩] 38)).alloc (.cells #[.string ⟨#[97]⟩, .int .i64 0, .slice (some ⟨w.heap.size, 0, none⟩) 1 1] 27)) (some ⟨w.heap.size, 0, none⟩) 1 ex8E.f2 from C_sole (T := 38) (cs := [.int .i64 0, .int .i64 4, .string ⟨#[]⟩]) (blk_alloc (blk_new w _) _) (kValue_mk _ ⟨0, 4, ⟨#[]⟩⟩) rfl)
  have HE := Aside0.mk (blk_new2 w (.cells #[.int .i64 0, .int .i64 4, .string ⟨#[]⟩] 38) (.cells #[.string ⟨#[97]⟩, .int .i64 0, .slice (some ⟨w.heap.size, 0, none⟩) 1 1] 27))
  have HB0 := Aside0.mk (below_alloc (below_alloc (Below.refl _ w) (.cells #[.int .i64 0, .int .i64 4, .string ⟨#[]⟩] 38)) (.cells #[.string ⟨#[97]⟩, .int .i64 0, .slice (some ⟨w.heap.size, 0, none⟩) 1 1] 27))
  go_enter Try.func11, Try.ntmps11
  go_wp2_with fail
  generalize (w.alloc (.cells #[.int .i64 0, .int .i64 4, .string ⟨#[]⟩] 38)).alloc (.cells #[.string ⟨#[97]⟩, .int .i64 0, .slice (some ⟨w.heap.size, 0, none⟩) 1 1] 27) = W0 at HV HE HB0 ⊢
  go_at_call 30
  refine (below_told 5 _).mono ?_
  rintro e w1 ⟨v1, rfl, ho1, hb1⟩
  obtain ⟨A1, c1, hv1, hc1, hr1⟩ := Kd.R_reads ho1
  subst hv1
  have HR1 := Aside0.mk hr1
  have HC1 := Aside0.mk hc1
  have HBY := Aside0.mk hb1
  clear ho1 hr1 hc1 hb1
  go_wp2_with fail
  go_at_call 19
  refine (HPUT.out _ A1 c1 HR1.out HC1.out).mono ?_
  rintro e w2 ⟨v2, rfl, ho2, hb2⟩
  obtain ⟨A2, c2, hv2, hc2, hr2⟩ := Own8.reads ho2
  subst hv2
  have HR2 := Aside0.mk hr2
  have HC2 := Aside0.mk hc2
  have HBY := Aside0.mk (below_step HBY.out hb2)
  clear ho2 hr2 hc2 hb2
  go_wp2_with fail
  go_at_call 21
  refine (getO_told _ A2 c2 [3, 1, 0, 0, 0, 10, 5] HR2.out HC2.out (by decide) (by decide) ex8_get).mono ?_
  rintro e w3 ⟨A3, c3, ⟨rfl, hc3, hr3⟩, hb3⟩
  have HC3 := Aside0.mk hc3
  have HF := Aside0.mk (show Kd.C kField (w3.alloc (.cells #[.string ⟨#[120]⟩, .int .i64 0] 63)) (some ⟨w3.heap.size, 0, none⟩) 1 ex8S.f2 from C_sole (T := 63) (cs := [.string ⟨#[120]⟩, .int .i64 0]) (blk_new w3 _) (kField_mk _ ⟨⟨#[120]⟩, 0⟩) rfl)
  have HBY := Aside0.mk (below_alloc (below_step HBY.out hb3) (.cells #[.string ⟨#[120]⟩, .int .i64 0] 63))
  have HL3 := Aside0.mk (Kd.C_alloc hr3 (.cells #[.string ⟨#[120]⟩, .int .i64 0] 63))
  clear hr3 hc3 hb3
  go_wp2_with fail
  generalize w3.alloc (.cells #[.string ⟨#[120]⟩, .int .i64 0] 63) = W3 at HF HBY HL3 ⊢
  go_at_call 30
  refine (below_told 5 _).mono ?_
  rintro e w4 ⟨v4, rfl, ho4, hb4⟩
  obtain ⟨A4, c4, hv4, hc4, hr4⟩ := Kd.R_reads ho4
  subst hv4
  have HR4 := Aside0.mk hr4
  have HC4 := Aside0.mk hc4
  have HBY := Aside0.mk (below_step HBY.out hb4)
  have HL3 := Aside0.mk (Kd.C_below HL3.out hb4)
  have HF := Aside0.mk (Kd.C_below HF.out hb4)
  clear ho4 hr4 hc4 hb4
  go_wp2_with fail
  go_at_call 15
  refine (kind_told ex8S (some ⟨w3.heap.size, 0, none⟩) 1 (belowL 5) A4 c4 _ HF.out (by decide) HR4.out HC4.out five_i64 ex8_kind).mono ?_
  rintro e w5 ⟨rfl, hb5⟩
  have HBY := Aside0.mk (below_step HBY.out hb5)
  have HL3 := Aside0.mk (Kd.C_below HL3.out hb5)
  have HE5 := Aside0.mk (blk_below HE.out HBY.out)
  have he0 := blk_cell HE5.out 0
  have he1 := blk_cell HE5.out 1
  have he2 := blk_cell HE5.out 2
  have HBY := Aside0.mk (below_drew HBY.out)
  have HL3 := Aside0.mk (Kd.C_drew HL3.out)
  clear hb5
  go_wp2_with fail
  go_region_held3 (fun w' => w'.cell? ⟨w.heap.size + 1, 0, none⟩ = some (.string ⟨#[97]⟩) ∧ w'.cell? ⟨w.heap.size + 1, 1, none⟩ = some (.int .i64 0) ∧ w'.cell? ⟨w.heap.size + 1, 2, none⟩ = some (.slice (some ⟨w.heap.size, 0, none⟩) 1 1))
    (first | go_keep | (go_split_ands; refine ⟨?_, ?_, ?_⟩ <;> (first | assumption | (exact blk_cell (blk_below HE.out HBY.out) 0) | (exact blk_cell (blk_below HE.out HBY.out) 1) | (exact blk_cell (blk_below HE.out HBY.out) 2))))
    (first
      | (go_at_call_of 30 (Value.int .i64 5); refine (below_told 5 _).mono ?_; rintro e w6 ⟨v6, rfl, ho6, hb6⟩; obtain ⟨A6, c6, hv6, hc6, hr6⟩ := Kd.R_reads ho6; subst hv6; have HR6 := Aside0.mk hr6; have HC6 := Aside0.mk hc6; have HBY := Aside0.mk (below_step HBY.out hb6); have HL3 := Aside0.mk (Kd.C_below HL3.out hb6); clear ho6 hr6 hc6)
      | (go_at_call_of 30 (Value.int .i64 4); refine (below_told 4 _).mono ?_; rintro e w8 ⟨v8, rfl, ho8, hb8⟩; obtain ⟨A8, c8, hv8, hc8, hr8⟩ := Kd.R_reads ho8; subst hv8; have HR8 := Aside0.mk hr8; have HC8 := Aside0.mk hc8; have HBY := Aside0.mk (below_step HBY.out hb8); have HL3 := Aside0.mk (Kd.C_below HL3.out hb8); clear ho8 hr8 hc8)
      | (go_at_call 25; refine (holds_told ex8E (some ⟨w.heap.size, 0, none⟩) 1 (belowL 5) A6 c6 _ (Kd.C_below HV.out HBY.out) (by decide) ex8_vals HR6.out HC6.out five_i64 ex8_five).mono ?_; rintro e w7 ⟨rfl, hb7⟩; have HBY := Aside0.mk (below_step HBY.out hb7); have HL3 := Aside0.mk (Kd.C_below HL3.out hb7))
      | (go_at_call 25; refine (holds_told ex8E (some ⟨w.heap.size, 0, none⟩) 1 (belowL 4) A8 c8 _ (Kd.C_below HV.out HBY.out) (by decide) ex8_vals HR8.out HC8.out four_i64 ex8_four).mono ?_; rintro e w9 ⟨rfl, hb9⟩; have HBY := Aside0.mk (below_step HBY.out hb9); have HL3 := Aside0.mk (Kd.C_below HL3.out hb9))
      | (go_at_call 26; refine (sameO_told (belowL 5) (belowL 5) A3 c3 A6 c6 _ HL3.out HC3.out HR6.out HC6.out (eqO_iff.2 rfl)).mono ?_; rintro e w11 ⟨rfl, hb11⟩; have HBY := Aside0.mk (below_step HBY.out hb11); have HL3 := Aside0.mk (Kd.C_below HL3.out hb11)))
  all_goals
    go_wp2_with fail
    go_ret
    exact ⟨rfl, below_step HB0.out HBY.out⟩
end Go.Proofs.Ytncllbokeofdjaa.P

namespace Go.Proofs.Ytncllbokeofdjaa.P
open Go.RowKit Go.Proofs.YtncllbokeofdjaaW.PrintWords Go.Proofs.YtncllbokeofdjaaW.PrintLast Go.Proofs.YtncllbokeofdjaaW.PrintMore
set_option linter.unusedVariables false
theorem mayP_code {c : Int} (h0 : 0 ≤ c) (h1 : c < 10) : mayP ⟨c, 0, zeroV⟩ = true := mayP_iff.2 ⟨h0, h1, show (0 : Int) ≤ 0 by decide, show (0 : Int) < 6 by decide, .inr rfl, .inr rfl, okV_zero.1⟩
theorem stepV_top (v : List SValue) (k : Bool) {c : Int} (x : Int) (f : SValue) (q : List SValue) (a b : SValue) (h0 : c ≠ 0) (h1 : c ≠ 1) (h9 : c ≠ 9) : stepV v k ⟨c, x, f⟩ (q ++ [a, b]) = (match twoV c a b with | .ok y => .ok (q ++ [y]) | .error e => if k = true ∧ e = 6 then .ok (q ++ [zeroV]) else .error e) := by
  unfold stepV
  have hl : (q ++ [a, b]).length = q.length + 2 := by simp
  have g0 : (q ++ [a, b]).getD (q.length + 2 - 2) zValue = a := by simp [List.getD]
  have g1 : (q ++ [a, b]).getD (q.length + 2 - 1) zValue = b := by simp [List.getD]
  have g2 : (q ++ [a, b]).take (q.length + 2 - 2) = q := by simp
  simp only [hl, g0, g1, g2]
  rw [if_neg h0, if_neg h1, if_neg h9, if_neg (by omega)]
  rfl
theorem stepV_not (v : List SValue) (k : Bool) (x : Int) (f : SValue) (q : List SValue) (a : SValue) : stepV v k ⟨9, x, f⟩ (q ++ [a]) = if a.f0 = 1 then .ok (q ++ [truV (!(a.f1 == 1))]) else .error 5 := by
  unfold stepV
  have hl : (q ++ [a]).length = q.length + 1 := by simp
  have g1 : (q ++ [a]).getD (q.length + 1 - 1) zValue = a := by simp [List.getD]
  have g2 : (q ++ [a]).take (q.length + 1 - 1) = q := by simp
  simp only [hl, g1, g2]
  rw [if_neg (show ¬ (9 : Int) = 0 by decide), if_neg (show ¬ (9 : Int) = 1 by decide), if_pos trivial, if_neg (by omega)]
end Go.Proofs.Ytncllbokeofdjaa.P

namespace Go.Proofs.Ytncllbokeofdjaa.P
open Go.RowKit Go.Proofs.YtncllbokeofdjaaW.PrintWords Go.Proofs.YtncllbokeofdjaaW.PrintLast Go.Proofs.YtncllbokeofdjaaW.PrintMore
set_option linter.unusedVariables false
theorem eqV_tru (p : Bool) : eqV (truV p) (truV true) = p := by cases p <;> decide +kernel
end Go.Proofs.Ytncllbokeofdjaa.P

namespace Go.Proofs.Ytncllbokeofdjaa.P
open Go.RowKit Go.Proofs.YtncllbokeofdjaaW.PrintWords Go.Proofs.YtncllbokeofdjaaW.PrintLast Go.Proofs.YtncllbokeofdjaaW.PrintMore
set_option linter.unusedVariables false
theorem getD_right {α : Type} (p q : List α) (z : α) (i : Nat) (h : p.length ≤ i) : (p ++ q).getD i z = q.getD (i - p.length) z := by
  simp only [List.getD_eq_getElem?_getD]
  rw [List.getElem?_append_right h]
theorem take_right {α : Type} (p q : List α) (i : Nat) (h : p.length ≤ i) : (p ++ q).take i = p ++ q.take (i - p.length) := by
  rw [List.take_append, List.take_of_length_le h]
theorem stepV_frame {v : List SValue} {k : Bool} {x : SOp} {q r : List SValue} (p : List SValue) (h : stepV v k x q = .ok r) : stepV v k x (p ++ q) = .ok (p ++ r) := by
  unfold stepV at h ⊢
  by_cases c0 : x.f0 = 0
  · rw [if_pos c0] at h ⊢
    obtain rfl := Except.ok.inj h
    rw [List.append_assoc]
  rw [if_neg c0] at h ⊢
  by_cases c1 : x.f0 = 1
  · rw [if_pos c1] at h ⊢
    by_cases hi : x.f1.toNat < v.length
    · rw [if_pos hi] at h ⊢
      obtain rfl := Except.ok.inj h
      rw [List.append_assoc]
    · rw [if_neg hi] at h; cases h
  rw [if_neg c1] at h ⊢
  by_cases c9 : x.f0 = 9
  · rw [if_pos c9] at h ⊢
    by_cases hn : q.length < 1
    · rw [if_pos hn] at h; cases h
    · rw [if_neg hn] at h
      rw [if_neg (by rw [List.length_append]; omega)]
      have e : (p ++ q).length - 1 = p.length + (q.length - 1) := by rw [List.length_append]; omega
      rw [e, getD_right _ _ _ _ (by omega), take_right _ _ _ (by omega), show p.length + (q.length - 1) - p.length = q.length - 1 from by omega]
      by_cases hb : (q.getD (q.length - 1) zValue).f0 = 1
      · rw [if_pos hb] at h ⊢
        obtain rfl := Except.ok.inj h
        rw [List.append_assoc]
      · rw [if_neg hb] at h; cases h
  rw [if_neg c9] at h ⊢
  by_cases hn : q.length < 2
  · rw [if_pos hn] at h; cases h
  rw [if_neg hn] at h
  rw [if_neg (by rw [List.length_append]; omega)]
  have e1 : (p ++ q).length - 1 = p.length + (q.length - 1) := by rw [List.length_append]; omega
  have e2 : (p ++ q).length - 2 = p.length + (q.length - 2) := by rw [List.length_append]; omega
  rw [e1, e2, getD_right _ _ _ _ (by omega), getD_right _ _ _ _ (by omega), take_right _ _ _ (by omega), show p.length + (q.length - 1) - p.length = q.length - 1 from by omega, show p.length + (q.length - 2) - p.length = q.length - 2 from by omega]
  cases ht : twoV x.f0 (q.getD (q.length - 2) zValue) (q.getD (q.length - 1) zValue) with
  | ok y =>
    rw [ht] at h
    obtain rfl := Except.ok.inj h
    simp only [List.append_assoc]
  | error n =>
    rw [ht] at h
    by_cases hk : k = true ∧ n = 6
    · replace h : (if k = true ∧ n = 6 then .ok (q.take (q.length - 2) ++ [zeroV]) else .error n : Except Int (List SValue)) = .ok r := h
      rw [if_pos hk] at h
      obtain rfl := Except.ok.inj h
      show (if k = true ∧ n = 6 then .ok (p ++ q.take (q.length - 2) ++ [zeroV]) else .error n : Except Int (List SValue)) = _
      rw [if_pos hk, List.append_assoc]
    · replace h : (if k = true ∧ n = 6 then .ok (q.take (q.length - 2) ++ [zeroV]) else .error n : Except Int (List SValue)) = .ok r := h
      rw [if_neg hk] at h
      cases h
theorem runV_frame {v : List SValue} {k : Bool} : ∀ (l : List SOp) {q r : List SValue} (p : List SValue), runV v k l q = .ok r → runV v k l (p ++ q) = .ok (p ++ r)
  | [], q, r, p, h => by
    obtain rfl := Except.ok.inj h
    rfl
  | x :: l, q, r, p, h => by
    cases hs : stepV v k x q with
    | error e => rw [runV_stop hs] at h; cases h
    | ok s =>
      rw [runV_cons hs] at h
      rw [runV_cons (stepV_frame p hs)]
      exact runV_frame l p h
theorem runV_then {v : List SValue} {k : Bool} : ∀ (l m : List SOp) {p q : List SValue}, runV v k l p = .ok q → runV v k (l ++ m) p = runV v k m q
  | [], m, p, q, h => by
    obtain rfl := Except.ok.inj h
    rfl
  | x :: l, m, p, q, h => by
    cases hs : stepV v k x p with
    | error e => rw [runV_stop hs] at h; cases h
    | ok s =>
      rw [runV_cons hs] at h
      rw [List.cons_append, runV_cons hs]
      exact runV_then l m h
theorem runV_ok {v : List SValue} {k : Bool} : ∀ (l : List SOp) {p q : List SValue}, okVs v → (∀ x ∈ l, okV x.f2) → okVs p → runV v k l p = .ok q → okVs q
  | [], p, q, _, _, hp, h => by
    obtain rfl := Except.ok.inj h
    exact hp
  | x :: l, p, q, hv, hl, hp, h => by
    cases hs : stepV v k x p with
    | error e => rw [runV_stop hs] at h; cases h
    | ok s =>
      rw [runV_cons hs] at h
      exact runV_ok l hv (fun y hy => hl y (by simp [hy])) (stepV_ok hv (hl x (by simp)) hp hs) h
theorem evalV_zero {e : SEvent} {l : List SOp} {v : SValue} (h : evalV e l = (v, 0)) : mayO l = true ∧ mayE e = true ∧ runV e.f2 false l [] = .ok [v] := by
  unfold evalV at h
  by_cases hm : mayO l = true ∧ mayE e = true
  · rw [if_pos hm] at h
    refine ⟨hm.1, hm.2, ?_⟩
    cases hr : runV e.f2 false l [] with
    | error n =>
      rw [hr] at h
      simp only [endV, Prod.mk.injEq] at h
      exfalso
      have : ∀ (l : List SOp) (p : List SValue), runV e.f2 false l p ≠ .error 0 := by
        intro l
        induction l with
        | nil => intro p h; cases h
        | cons x l ih =>
          intro p h
          cases hs : stepV e.f2 false x p with
          | error n => rw [runV_stop hs] at h; obtain rfl := Except.error.inj h; exact stepV_err hs rfl
          | ok s => rw [runV_cons hs] at h; exact ih s h
      rw [h.2] at hr
      exact this _ _ hr
    | ok q =>
      rw [hr] at h
      match q, h with
      | [], h => simp [endV] at h
      | [y], h => simp only [endV, Prod.mk.injEq, and_true] at h; rw [h]
      | y :: z :: q, h => simp [endV] at h
  · rw [if_neg hm] at h
    simp at h
theorem truth_is {v : SValue} (h : okV v) (h1 : v.f0 = 1) : v = truV (v.f1 == 1) := by
  obtain ⟨k, n, s⟩ := v
  simp only at h1
  subst h1
  rcases mayV_iff.1 h.1 with ⟨h2, _⟩ | ⟨_, h2, h3, h4⟩ | ⟨h2, _⟩ | ⟨h2, _⟩
  · exact absurd (show (1 : Int) = 0 from h2) (by decide)
  · obtain rfl := toList_nil h2
    simp only at h3 h4
    unfold truV
    by_cases hn : n = 1
    · subst hn; rfl
    · obtain rfl : n = 0 := by omega
      rfl
  · exact absurd (show (1 : Int) = 2 from h2) (by decide)
  · exact absurd (show (1 : Int) = 3 from h2) (by decide)
theorem made_of {e : SEvent} {a b : List SOp} {p q : Bool} (he : ∀ v ∈ e.f2, i64V v) (ha : evalV e a = (truV p, 0)) (hb : evalV e b = (truV q, 0)) (la : a.length ≤ 5) (lb : b.length ≤ 5) :
    holdsV e a = p ∧ holdsV e b = q ∧ holdsV e (a ++ [⟨9, 0, zeroV⟩]) = !p ∧ holdsV e ((a ++ b) ++ [⟨7, 0, zeroV⟩]) = (p && q) ∧ holdsV e ((a ++ b) ++ [⟨8, 0, zeroV⟩]) = (p || q) := by
  obtain ⟨ma, me, ra⟩ := evalV_zero ha
  obtain ⟨mb, _, rb⟩ := evalV_zero hb
  obtain ⟨_, pa⟩ := mayO_iff.1 ma
  obtain ⟨_, pb⟩ := mayO_iff.1 mb
  have na : a.length ≠ 0 := by rintro h; rw [List.length_eq_zero_iff] at h; subst h; cases Except.ok.inj ra
  have nb : b.length ≠ 0 := by rintro h; rw [List.length_eq_zero_iff] at h; subst h; cases Except.ok.inj rb
  have hold : ∀ (l : List SOp) (r : Bool), l.length ≠ 0 → evalV e l = (truV r, 0) → holdsV e l = r := by
    intro l r hl h
    unfold holdsV
    rw [h, decide_eq_false hl, Bool.false_or]
    exact eqV_tru r
  have mk : ∀ (l : List SOp) (c : Int) (r : Bool), 0 ≤ c → c < 10 → l.length ≤ 10 → (∀ x ∈ l, mayP x = true) → runV e.f2 false (l ++ [⟨c, 0, zeroV⟩]) [] = .ok [truV r] → holdsV e (l ++ [⟨c, 0, zeroV⟩]) = r := by
    intro l c r h0 h1 hl hp hrun
    refine hold _ r (by simp) ?_
    have hm : mayO (l ++ [⟨c, 0, zeroV⟩]) = true := mayO_iff.2 ⟨by rw [List.length_append, List.length_singleton]; omega, fun x hx => by
      rcases List.mem_append.1 hx with h | h
      · exact hp x h
      · rw [List.mem_singleton.1 h]; exact mayP_code h0 h1⟩
    unfold evalV
    rw [if_pos ⟨hm, me⟩, hrun]
    rfl
  have rab : runV e.f2 false (a ++ b) [] = .ok [truV p, truV q] := by
    rw [runV_then a b ra]
    have := runV_frame b [truV p] rb
    rwa [List.append_nil] at this
  have pab : ∀ x ∈ a ++ b, mayP x = true := fun x hx => by rcases List.mem_append.1 hx with h | h; exact pa x h; exact pb x h
  have hp1 : ((truV p).f1 == 1) = p := by cases p <;> rfl
  have hq1 : ((truV q).f1 == 1) = q := by cases q <;> rfl
  refine ⟨hold a p na ha, hold b q nb hb, ?_, ?_, ?_⟩
  · refine mk a 9 (!p) (by decide) (by decide) (by omega) pa ?_
    rw [runV_then a _ ra]
    have := stepV_not e.f2 false 0 zeroV [] (truV p)
    rw [if_pos (show (truV p).f0 = 1 from rfl), hp1] at this
    show runV e.f2 false [⟨9, 0, zeroV⟩] ([] ++ [truV p]) = _
    rw [runV_cons this]
    rfl
  · refine mk (a ++ b) 7 (p && q) (by decide) (by decide) (by rw [List.length_append]; omega) pab ?_
    rw [runV_then _ _ rab]
    have := stepV_top e.f2 false 0 zeroV [] (truV p) (truV q) (c := 7) (by decide) (by decide) (by decide)
    have ht : twoV 7 (truV p) (truV q) = .ok (truV (p && q)) := by
      unfold twoV
      rw [if_neg (show ¬ (truV p).f0 ≠ (truV q).f0 from fun h => h rfl), if_neg (by decide), if_neg (by decide), if_pos (.inl rfl), if_pos (show (truV p).f0 = 1 from rfl), if_pos rfl, hp1, hq1]
    rw [ht] at this
    show runV e.f2 false [⟨7, 0, zeroV⟩] ([] ++ [truV p, truV q]) = _
    rw [runV_cons this]
    rfl
  · refine mk (a ++ b) 8 (p || q) (by decide) (by decide) (by rw [List.length_append]; omega) pab ?_
    rw [runV_then _ _ rab]
    have := stepV_top e.f2 false 0 zeroV [] (truV p) (truV q) (c := 8) (by decide) (by decide) (by decide)
    have ht : twoV 8 (truV p) (truV q) = .ok (truV (p || q)) := by
      unfold twoV
      rw [if_neg (show ¬ (truV p).f0 ≠ (truV q).f0 from fun h => h rfl), if_neg (by decide), if_neg (by decide), if_pos (.inr rfl), if_pos (show (truV p).f0 = 1 from rfl), if_neg (by decide), hp1, hq1]
    rw [ht] at this
    show runV e.f2 false [⟨8, 0, zeroV⟩] ([] ++ [truV p, truV q]) = _
    rw [runV_cons this]
    rfl
end Go.Proofs.Ytncllbokeofdjaa.P

namespace Go.Proofs.Ytncllbokeofdjaa.P
open Go.RowKit Go.Proofs.YtncllbokeofdjaaW.PrintWords Go.Proofs.YtncllbokeofdjaaW.PrintLast Go.Proofs.YtncllbokeofdjaaW.PrintMore
set_option linter.unusedVariables false
theorem wfE_vals {x : SEvent} (h : wfEvent x) : ∀ v ∈ x.f2, i64V v := fun v hv => i64V_of (h.2.2.2 v hv)
theorem wfE_few {x : SEvent} (h : wfEvent x) : x.f2.length < 4611686018427387904 := by have := h.2.2.1; omega
end Go.Proofs.Ytncllbokeofdjaa.P

namespace Go.Proofs.Ytncllbokeofdjaa.P
open Go.RowKit Go.Proofs.YtncllbokeofdjaaW.PrintWords Go.Proofs.YtncllbokeofdjaaW.PrintLast Go.Proofs.YtncllbokeofdjaaW.PrintMore
attribute [local go_sem] max2_int min2_int max_two min_two max_three min_three max_four min_four   -- for this text's walks alone
set_option linter.unusedVariables false
set_option linter.unusedSimpArgs false
theorem openArg0_ExprNot : Opens Try.prog 27 kEvent wfEvent := openEvent
theorem openArg1_ExprNot : Opens Try.prog 28 (Kd.slice 50 kOp) (fun x_ : List (SOp) => x_.length * 48 ≤ 140737488351232 ∧ ∀ y_ ∈ x_, wfOp y_) := (opens_slice Try.underlying28 openOp (by kernel_rfl) (by kernel_rfl))
theorem openArg2_ExprNot : Opens Try.prog 28 (Kd.slice 50 kOp) (fun x_ : List (SOp) => x_.length * 48 ≤ 140737488351232 ∧ ∀ y_ ∈ x_, wfOp y_) := (opens_slice Try.underlying28 openOp (by kernel_rfl) (by kernel_rfl))
def ExprNot.Stmt : Prop := ∀ (W : World) (x0 : SEvent) (cs0 : List Value) (K0 : kEvent.K W x0 cs0) (w0 : wfEvent x0) (x1 : List (SOp)) (A1 : Option Addr) (c1 : Nat) (hc1 : x1.length ≤ c1) (hr1 : Kd.C kOp W A1 x1.length x1) (w1 : x1.length * 48 ≤ 140737488351232 ∧ ∀ y_ ∈ x1, wfOp y_) (x2 : List (SOp)) (A2 : Option Addr) (c2 : Nat) (hc2 : x2.length ≤ c2) (hr2 : Kd.C kOp W A2 x2.length x2) (w2 : x2.length * 48 ≤ 140737488351232 ∧ ∀ y_ ∈ x2, wfOp y_),
    Calls Try.prog 6 #[.agg cs0.toArray, .slice A1 x1.length c1, .slice A2 x2.length c2] W fun e w' => e = .returned (.bool true) ∧ Below W.heap.size W w'
end Go.Proofs.Ytncllbokeofdjaa.P

namespace Go.Proofs.Ytncllbokeofdjaa.P
open Go.RowKit Go.Proofs.YtncllbokeofdjaaW.PrintWords Go.Proofs.YtncllbokeofdjaaW.PrintLast Go.Proofs.YtncllbokeofdjaaW.PrintMore
set_option linter.unusedVariables false
set_option linter.unusedSimpArgs false
set_option maxHeartbeats 40000000 in
set_option maxRecDepth 100000 in
theorem ExprNot.walk : ExprNot.Stmt := by
  intro W x0 cs0 K0 w0 x1 A1 c1 hc1 hr1 w1 x2 A2 c2 hc2 hr2 w2
  obtain ⟨A0, c0, rfl, hc0, hr0⟩ := kEvent_open K0
  have HR0 := Aside0.mk hr0
  have HC0 := Aside0.mk hc0
  have HV0 := Aside0.mk (wfE_vals w0)
  have HL0 := Aside0.mk (wfE_few w0)
  obtain ⟨p, hp10, hpC⟩ := few6_told x0
  have HPC := Aside0.mk hpC
  have HR1 := Aside0.mk hr1
  have HC1 := Aside0.mk hc1
  have HI1 := Aside0.mk (show ∀ x ∈ x1, i64V x.f2 from fun x hx => i64V_of (w1.2 x hx).2.2)
  obtain ⟨q, hq20, hqC⟩ := few8_told x1
  have HQC := Aside0.mk hqC
  have HR2 := Aside0.mk hr2
  have HC2 := Aside0.mk hc2
  have HI2 := Aside0.mk (show ∀ x ∈ x2, i64V x.f2 from fun x hx => i64V_of (w2.2 x hx).2.2)
  obtain ⟨r, hr20, hrC⟩ := few8_told x2
  have HRC := Aside0.mk hrC
  have infoO_ := infoOp
  clear hr0 hc0 w0 K0 hpC hp10 hr1 hc1 w1 hr2 hc2 w2 hqC hq20 hrC hr20
  by_cases hgo : p = true ∧ q = true ∧ r = true ∧ x1.length ≤ 5 ∧ x2.length ≤ 5
  · obtain ⟨rfl, rfl, rfl, h1, h2⟩ := hgo
    have g1 : ¬ (x1.length : Int) > 5 := by omega
    have g2 : ¬ (x2.length : Int) > 5 := by omega
    obtain ⟨y1, n1, hy1⟩ : ∃ y n, evalV x0 x1 = (y, n) := ⟨_, _, rfl⟩
    obtain ⟨y2, n2, hy2⟩ : ∃ y n, evalV x0 x2 = (y, n) := ⟨_, _, rfl⟩
    have HE1 := Aside0.mk hy1
    have HE2 := Aside0.mk hy2
    by_cases hall : n1 = 0 ∧ n2 = 0 ∧ y1.f0 = 1 ∧ y2.f0 = 1
    · obtain ⟨rfl, rfl, f1, f2⟩ := hall
      obtain ⟨_, _, e1⟩ := evalV_zero hy1
      obtain ⟨_, me, e2⟩ := evalV_zero hy2
      have okE := mayE_oks me HV0.out
      have o1 := runV_ok x1 okE (fun x hx => ⟨(mayP_iff.1 ((mayO_iff.1 (evalV_zero hy1).1).2 x hx)).2.2.2.2.2.2, HI1.out x hx⟩) okVs_nil e1 y1 (List.mem_singleton.2 rfl)
      have o2 := runV_ok x2 okE (fun x hx => ⟨(mayP_iff.1 ((mayO_iff.1 (evalV_zero hy2).1).2 x hx)).2.2.2.2.2.2, HI2.out x hx⟩) okVs_nil e2 y2 (List.mem_singleton.2 rfl)
      obtain ⟨s1, hs1⟩ : ∃ s, (y1.f1 == 1) = s := ⟨_, rfl⟩
      obtain ⟨s2, hs2⟩ : ∃ s, (y2.f1 == 1) = s := ⟨_, rfl⟩
      have t1 := truth_is o1 f1
      have t2 := truth_is o2 f2
      rw [hs1] at t1
      rw [hs2] at t2
      obtain ⟨m1, m2, m9, m7, m8⟩ := made_of HV0.out (by rw [hy1, ← t1]) (by rw [hy2, ← t2]) h1 h2
      obtain ⟨L9, l9⟩ : ∃ l, x1 ++ [(⟨9, 0, zeroV⟩ : SOp)] = l := ⟨_, rfl⟩
      obtain ⟨AB, lab⟩ : ∃ l, x1 ++ x2 = l := ⟨_, rfl⟩
      rw [lab] at m7 m8
      obtain ⟨L7, l7⟩ : ∃ l, AB ++ [(⟨7, 0, zeroV⟩ : SOp)] = l := ⟨_, rfl⟩
      obtain ⟨L8, l8⟩ : ∃ l, AB ++ [(⟨8, 0, zeroV⟩ : SOp)] = l := ⟨_, rfl⟩
      rw [l9] at m9
      rw [l7] at m7
      rw [l8] at m8
      have hAB : AB.length ≤ 10 := by rw [← lab, List.length_append]; omega
      have iAB : ∀ x ∈ AB, i64V x.f2 := fun x hx => by rw [← lab] at hx; rcases List.mem_append.1 hx with h | h; exact HI1.out x h; exact HI2.out x h
      have iop : ∀ (l : List SOp) (c : Int), (∀ x ∈ l, i64V x.f2) → ∀ x ∈ l ++ [(⟨c, 0, zeroV⟩ : SOp)], i64V x.f2 := fun l c h x hx => by rcases List.mem_append.1 hx with h2 | h2; exact h x h2; rw [List.mem_singleton.1 h2]; exact okV_zero.2
      have HIL9 := Aside0.mk (show ∀ x ∈ L9, i64V x.f2 from by rw [← l9]; exact iop x1 9 HI1.out)
      have HIL7 := Aside0.mk (show ∀ x ∈ L7, i64V x.f2 from by rw [← l7]; exact iop AB 7 iAB)
      have HIL8 := Aside0.mk (show ∀ x ∈ L8, i64V x.f2 from by rw [← l8]; exact iop AB 8 iAB)
      have HH1 := Aside0.mk m1
      have HH2 := Aside0.mk m2
      have HHL9 := Aside0.mk m9
      have HHL7 := Aside0.mk m7
      have HHL8 := Aside0.mk m8
      have HL9 := Aside0.mk l9
      have HLAB := Aside0.mk lab
      have HL7 := Aside0.mk l7
      have HL8 := Aside0.mk l8
      have fb1 : (y1.f0 == 1) = true := beq_iff_eq.2 f1
      have fb2 : (y2.f0 == 1) = true := beq_iff_eq.2 f2
      have fn1 : (y1.f0 != 1) = false := by rw [bne, fb1]; rfl
      have fn2 : (y2.f0 != 1) = false := by rw [bne, fb2]; rfl
      clear hy1 hy2 f1 f2 e1 e2 o1 o2 okE me t1 t2 m1 m2 m9 m7 m8 l9 lab l7 l8 iAB iop hs1 hs2
      cases s1 <;> cases s2
      all_goals
        go_enter Try.func6, Try.ntmps6
        go_wp2_with fail
        go_at_call 11
        refine (awake8_told _).mono ?_
        rintro e w1_ ⟨rfl, hb1_⟩
        have HB1_ := Aside0.mk (below_step (below_alloc (Below.refl _ _) _) hb1_)
        have HKx01_ := Aside0.mk (blk_below (blk_new _ _) hb1_)
        obtain ⟨kx01a_, kx01b_, kx01c_, kx01d_⟩ := know HKx01_.out
        clear hb1_
        go_wp2_with fail
        go_at_call_of 13 (Value.agg #[.string x0.f0, .int .i64 x0.f1, .slice A0 x0.f2.length c0])
        refine (HPC.out A0 c0 _ (Kd.C_below HR0.out (HB1_.out)) HC0.out).mono ?_
        rintro e w2_ ⟨rfl, hb2_⟩
        have HB2_ := Aside0.mk (below_step (HB1_.out) hb2_)
        have HKx02_ := Aside0.mk (blk_below (HKx01_.out) hb2_)
        obtain ⟨kx02a_, kx02b_, kx02c_, kx02d_⟩ := know HKx02_.out
        clear kx01a_ kx01b_ kx01c_ kx01d_
        clear hb2_
        go_wp2_with fail
        go_at_call_of 14 (Value.slice A1 x1.length c1)
        refine (HQC.out A1 c1 _ (Kd.C_below HR1.out (HB2_.out)) HC1.out).mono ?_
        rintro e w3_ ⟨rfl, hb3_⟩
        have HB3_ := Aside0.mk (below_step (HB2_.out) hb3_)
        have HKx03_ := Aside0.mk (blk_below (HKx02_.out) hb3_)
        obtain ⟨kx03a_, kx03b_, kx03c_, kx03d_⟩ := know HKx03_.out
        clear kx02a_ kx02b_ kx02c_ kx02d_
        clear hb3_
        go_wp2_with fail
        go_at_call_of 14 (Value.slice A2 x2.length c2)
        refine (HRC.out A2 c2 _ (Kd.C_below HR2.out (HB3_.out)) HC2.out).mono ?_
        rintro e w4_ ⟨rfl, hb4_⟩
        have HB4_ := Aside0.mk (below_step (HB3_.out) hb4_)
        have HKx04_ := Aside0.mk (blk_below (HKx03_.out) hb4_)
        obtain ⟨kx04a_, kx04b_, kx04c_, kx04d_⟩ := know HKx04_.out
        clear kx03a_ kx03b_ kx03c_ kx03d_
        clear hb4_
        go_wp2_with fail
        go_at_call 17
        refine (eval_told x0 A0 c0 x1 A1 c1 _ (Kd.C_below HR0.out (HB4_.out)) HC0.out HV0.out (Kd.C_below HR1.out (HB4_.out)) HC1.out HI1.out HE1.out).mono ?_
        rintro e w5_ ⟨rfl, hb5_⟩
        have HB5_ := Aside0.mk (below_step (HB4_.out) hb5_)
        have HKx05_ := Aside0.mk (blk_below (HKx04_.out) hb5_)
        obtain ⟨kx05a_, kx05b_, kx05c_, kx05d_⟩ := know HKx05_.out
        clear kx04a_ kx04b_ kx04c_ kx04d_
        clear hb5_
        go_wp2_with fail
        go_at_call 17
        refine (eval_told x0 A0 c0 x2 A2 c2 _ (Kd.C_below HR0.out (below_alloc (HB5_.out) _)) HC0.out HV0.out (Kd.C_below HR2.out (below_alloc (HB5_.out) _)) HC2.out HI2.out HE2.out).mono ?_
        rintro e w6_ ⟨rfl, hb6_⟩
        have HB6_ := Aside0.mk (below_step (below_alloc (HB5_.out) _) hb6_)
        have HKx06_ := Aside0.mk (blk_below (blk_alloc (HKx05_.out) _) hb6_)
        obtain ⟨kx06a_, kx06b_, kx06c_, kx06d_⟩ := know HKx06_.out
        have HKy16_ := Aside0.mk (blk_below (blk_new _ _) hb6_)
        obtain ⟨ky16a_, ky16b_, ky16c_, ky16d_⟩ := know HKy16_.out
        clear kx05a_ kx05b_ kx05c_ kx05d_
        clear hb6_
        go_wp2_with fail
        go_at_call 25
        refine (holds_told x0 A0 c0 x1 A1 c1 _ (Kd.C_below HR0.out (below_alloc (HB6_.out) _)) HC0.out HV0.out (Kd.C_below HR1.out (below_alloc (HB6_.out) _)) HC1.out HI1.out HH1.out).mono ?_
        rintro e w7_ ⟨rfl, hb7_⟩
        have HB7_ := Aside0.mk (below_step (below_alloc (HB6_.out) _) hb7_)
        have HKx07_ := Aside0.mk (blk_below (blk_alloc (HKx06_.out) _) hb7_)
        obtain ⟨kx07a_, kx07b_, kx07c_, kx07d_⟩ := know HKx07_.out
        have HKy17_ := Aside0.mk (blk_below (blk_alloc (HKy16_.out) _) hb7_)
        obtain ⟨ky17a_, ky17b_, ky17c_, ky17d_⟩ := know HKy17_.out
        have HKy27_ := Aside0.mk (blk_below (blk_new _ _) hb7_)
        obtain ⟨ky27a_, ky27b_, ky27c_, ky27d_⟩ := know HKy27_.out
        clear kx06a_ kx06b_ kx06c_ kx06d_ ky16a_ ky16b_ ky16c_ ky16d_
        clear hb7_
        go_wp2_with fail
        go_at_call 25
        refine (holds_told x0 A0 c0 x2 A2 c2 _ (Kd.C_below HR0.out (HB7_.out)) HC0.out HV0.out (Kd.C_below HR2.out (HB7_.out)) HC2.out HI2.out HH2.out).mono ?_
        rintro e w8_ ⟨rfl, hb8_⟩
        have HB8_ := Aside0.mk (below_step (HB7_.out) hb8_)
        have HKx08_ := Aside0.mk (blk_below (HKx07_.out) hb8_)
        obtain ⟨kx08a_, kx08b_, kx08c_, kx08d_⟩ := know HKx08_.out
        have HKy18_ := Aside0.mk (blk_below (HKy17_.out) hb8_)
        obtain ⟨ky18a_, ky18b_, ky18c_, ky18d_⟩ := know HKy18_.out
        have HKy28_ := Aside0.mk (blk_below (HKy27_.out) hb8_)
        obtain ⟨ky28a_, ky28b_, ky28c_, ky28d_⟩ := know HKy28_.out
        clear kx07a_ kx07b_ kx07c_ kx07d_ ky17a_ ky17b_ ky17c_ ky17d_ ky27a_ ky27b_ ky27c_ ky27d_
        clear hb8_
        go_wp2_with (first
          | ((with_reducible refine gate_builtin (b := .append) (xs := #[.const (.slice none 0 0), .tmp 87]) rfl ?_); at_builtin; refine Kd.R_append_rows (kOp) (Rr := Kd.K (kOp) _) _ rfl (.const (.slice none 0 0)) (.tmp 87) 28 50 (.agg #[.int .i64 0, .int .i64 0, .int .i64 0, .int .i64 0, .string ⟨#[]⟩]) 48 rfl Try.underlying28 infoOp rfl (by decide) (by decide) (.slice none 0 0) [] x1 A1 x1.length c1 (fun _ => True) (fun _ => False) rfl rfl (Kd.R_nil _ _ _ _ _) ((Kd.C_below HR1.out (HB8_.out))) ?aK (fun _ h => h.elim) (fun _ _ => trivial) (Below.refl _ _) (Nat.le_refl _) (by simp only [List.length_nil]; omega) ?_; (case aK => exact (fun x cs h => by rw [kOp_open h]; exact kOp_mkM _ _ _ x)); intro v9a_ w9a_ ho9a_ hb9a_ hg9a_ hat9a_; simp only [List.nil_append] at ho9a_; have HO9a_ := Aside0.mk ho9a_; have HBA9_ := Aside0.mk hb9a_; clear ho9a_ hb9a_ hg9a_ hat9a_)
          | ((with_reducible refine gate_builtin (b := .append) (xs := #[.tmp 88, .tmp 90]) rfl ?_); at_builtin; refine Kd.R_append (kOp) _ rfl (.tmp 88) (.tmp 90) 28 50 (.agg #[.int .i64 0, .int .i64 0, .int .i64 0, .int .i64 0, .string ⟨#[]⟩]) 48 rfl Try.underlying28 infoOp rfl (by decide) (by decide) v9a_ x1 (⟨9, 0, zeroV⟩ : SOp) [.int .i64 9, .int .i64 0, .int .i64 0, .int .i64 0, .string ⟨#[]⟩] (fun _ => True) (fun _ => False) rfl rfl (kOp_mkM _ _ _ (⟨9, 0, zeroV⟩ : SOp)) (fun _ h => h.elim) (fun _ _ => trivial) HO9a_.out HBA9_.out (below_size HBA9_.out) (by omega) ?_; intro v9_ w9_ ho9_ hb9_ hg9_ hat9_; rw [HL9.out] at ho9_; obtain ⟨A9_, c9_, hv9_, hq9_, hp9_⟩ := Kd.R_reads ho9_; subst hv9_; have HP9_ := Aside0.mk hp9_; have HQ9_ := Aside0.mk hq9_; clear ho9_ hp9_ hq9_ hg9_ hat9_ HO9a_ HBA9_; have HB9_ := Aside0.mk (below_step (HB8_.out) hb9_); have HKx09_ := Aside0.mk (blk_below (HKx08_.out) hb9_); have HKy19_ := Aside0.mk (blk_below (HKy18_.out) hb9_); have HKy29_ := Aside0.mk (blk_below (HKy28_.out) hb9_); clear hb9_)
          | ((with_reducible refine gate_builtin (b := .append) (xs := #[.const (.slice none 0 0), .tmp 92]) rfl ?_); at_builtin; refine Kd.R_append_rows (kOp) (Rr := Kd.K (kOp) _) _ rfl (.const (.slice none 0 0)) (.tmp 92) 28 50 (.agg #[.int .i64 0, .int .i64 0, .int .i64 0, .int .i64 0, .string ⟨#[]⟩]) 48 rfl Try.underlying28 infoOp rfl (by decide) (by decide) (.slice none 0 0) [] x1 A1 x1.length c1 (fun _ => True) (fun _ => False) rfl rfl (Kd.R_nil _ _ _ _ _) ((Kd.C_below HR1.out (HB9_.out))) ?aK (fun _ h => h.elim) (fun _ _ => trivial) (Below.refl _ _) (Nat.le_refl _) (by simp only [List.length_nil]; omega) ?_; (case aK => exact (fun x cs h => by rw [kOp_open h]; exact kOp_mkM _ _ _ x)); intro v10a_ w10a_ ho10a_ hb10a_ hg10a_ hat10a_; simp only [List.nil_append] at ho10a_; have HO10a_ := Aside0.mk ho10a_; have HBA10_ := Aside0.mk hb10a_; clear ho10a_ hb10a_ hg10a_ hat10a_)
          | ((with_reducible refine gate_builtin (b := .append) (xs := #[.tmp 93, .tmp 94]) rfl ?_); at_builtin; refine Kd.R_append_rows (kOp) (Rr := Kd.K (kOp) _) _ rfl (.tmp 93) (.tmp 94) 28 50 (.agg #[.int .i64 0, .int .i64 0, .int .i64 0, .int .i64 0, .string ⟨#[]⟩]) 48 rfl Try.underlying28 infoOp rfl (by decide) (by decide) v10a_ x1 x2 A2 x2.length c2 (fun _ => True) (fun _ => False) rfl rfl HO10a_.out (Kd.C_below (Kd.C_below HR2.out (HB9_.out)) HBA10_.out) ?aK (fun _ h => h.elim) (fun _ _ => trivial) HBA10_.out (below_size HBA10_.out) (by omega) ?_; (case aK => exact (fun x cs h => by rw [kOp_open h]; exact kOp_mkM _ _ _ x)); intro v10_ w10_ ho10_ hb10_ hg10_ hat10_; rw [HLAB.out] at ho10_; obtain ⟨A10_, c10_, hv10_, hq10_, hp10_⟩ := Kd.R_reads ho10_; subst hv10_; have HP10_ := Aside0.mk hp10_; have HQ10_ := Aside0.mk hq10_; clear ho10_ hp10_ hq10_ hg10_ hat10_ HO10a_ HBA10_; have HB10_ := Aside0.mk (below_step (HB9_.out) hb10_); have HKx010_ := Aside0.mk (blk_below (HKx09_.out) hb10_); have HKy110_ := Aside0.mk (blk_below (HKy19_.out) hb10_); have HKy210_ := Aside0.mk (blk_below (HKy29_.out) hb10_); have HRl910_ := Aside0.mk (Kd.C_below (HP9_.out) hb10_); clear hb10_)
          | ((with_reducible refine gate_builtin (b := .append) (xs := #[.const (.slice none 0 0), .tmp 96]) rfl ?_); at_builtin; refine Kd.R_append_rows (kOp) (Rr := Kd.K (kOp) _) _ rfl (.const (.slice none 0 0)) (.tmp 96) 28 50 (.agg #[.int .i64 0, .int .i64 0, .int .i64 0, .int .i64 0, .string ⟨#[]⟩]) 48 rfl Try.underlying28 infoOp rfl (by decide) (by decide) (.slice none 0 0) [] AB A10_ AB.length c10_ (fun _ => True) (fun _ => False) rfl rfl (Kd.R_nil _ _ _ _ _) ((HP10_.out)) ?aK (fun _ h => h.elim) (fun _ _ => trivial) (Below.refl _ _) (Nat.le_refl _) (by simp only [List.length_nil]; omega) ?_; (case aK => exact (fun x cs h => by rw [kOp_open h]; exact kOp_mkM _ _ _ x)); intro v11a_ w11a_ ho11a_ hb11a_ hg11a_ hat11a_; simp only [List.nil_append] at ho11a_; have HO11a_ := Aside0.mk ho11a_; have HBA11_ := Aside0.mk hb11a_; clear ho11a_ hb11a_ hg11a_ hat11a_)
          | ((with_reducible refine gate_builtin (b := .append) (xs := #[.tmp 97, .tmp 99]) rfl ?_); at_builtin; refine Kd.R_append (kOp) _ rfl (.tmp 97) (.tmp 99) 28 50 (.agg #[.int .i64 0, .int .i64 0, .int .i64 0, .int .i64 0, .string ⟨#[]⟩]) 48 rfl Try.underlying28 infoOp rfl (by decide) (by decide) v11a_ AB (⟨7, 0, zeroV⟩ : SOp) [.int .i64 7, .int .i64 0, .int .i64 0, .int .i64 0, .string ⟨#[]⟩] (fun _ => True) (fun _ => False) rfl rfl (kOp_mkM _ _ _ (⟨7, 0, zeroV⟩ : SOp)) (fun _ h => h.elim) (fun _ _ => trivial) HO11a_.out HBA11_.out (below_size HBA11_.out) (by omega) ?_; intro v11_ w11_ ho11_ hb11_ hg11_ hat11_; rw [HL7.out] at ho11_; obtain ⟨A11_, c11_, hv11_, hq11_, hp11_⟩ := Kd.R_reads ho11_; subst hv11_; have HP11_ := Aside0.mk hp11_; have HQ11_ := Aside0.mk hq11_; clear ho11_ hp11_ hq11_ hg11_ hat11_ HO11a_ HBA11_; have HB11_ := Aside0.mk (below_step (HB10_.out) hb11_); have HKx011_ := Aside0.mk (blk_below (HKx010_.out) hb11_); have HKy111_ := Aside0.mk (blk_below (HKy110_.out) hb11_); have HKy211_ := Aside0.mk (blk_below (HKy210_.out) hb11_); have HRl911_ := Aside0.mk (Kd.C_below (HRl910_.out) hb11_); have HRab11_ := Aside0.mk (Kd.C_below (HP10_.out) hb11_); clear hb11_)
          | ((with_reducible refine gate_builtin (b := .append) (xs := #[.const (.slice none 0 0), .tmp 101]) rfl ?_); at_builtin; refine Kd.R_append_rows (kOp) (Rr := Kd.K (kOp) _) _ rfl (.const (.slice none 0 0)) (.tmp 101) 28 50 (.agg #[.int .i64 0, .int .i64 0, .int .i64 0, .int .i64 0, .string ⟨#[]⟩]) 48 rfl Try.underlying28 infoOp rfl (by decide) (by decide) (.slice none 0 0) [] AB A10_ AB.length c10_ (fun _ => True) (fun _ => False) rfl rfl (Kd.R_nil _ _ _ _ _) ((HRab11_.out)) ?aK (fun _ h => h.elim) (fun _ _ => trivial) (Below.refl _ _) (Nat.le_refl _) (by simp only [List.length_nil]; omega) ?_; (case aK => exact (fun x cs h => by rw [kOp_open h]; exact kOp_mkM _ _ _ x)); intro v12a_ w12a_ ho12a_ hb12a_ hg12a_ hat12a_; simp only [List.nil_append] at ho12a_; have HO12a_ := Aside0.mk ho12a_; have HBA12_ := Aside0.mk hb12a_; clear ho12a_ hb12a_ hg12a_ hat12a_)
          | ((with_reducible refine gate_builtin (b := .append) (xs := #[.tmp 102, .tmp 104]) rfl ?_); at_builtin; refine Kd.R_append (kOp) _ rfl (.tmp 102) (.tmp 104) 28 50 (.agg #[.int .i64 0, .int .i64 0, .int .i64 0, .int .i64 0, .string ⟨#[]⟩]) 48 rfl Try.underlying28 infoOp rfl (by decide) (by decide) v12a_ AB (⟨8, 0, zeroV⟩ : SOp) [.int .i64 8, .int .i64 0, .int .i64 0, .int .i64 0, .string ⟨#[]⟩] (fun _ => True) (fun _ => False) rfl rfl (kOp_mkM _ _ _ (⟨8, 0, zeroV⟩ : SOp)) (fun _ h => h.elim) (fun _ _ => trivial) HO12a_.out HBA12_.out (below_size HBA12_.out) (by omega) ?_; intro v12_ w12_ ho12_ hb12_ hg12_ hat12_; rw [HL8.out] at ho12_; obtain ⟨A12_, c12_, hv12_, hq12_, hp12_⟩ := Kd.R_reads ho12_; subst hv12_; have HP12_ := Aside0.mk hp12_; have HQ12_ := Aside0.mk hq12_; clear ho12_ hp12_ hq12_ hg12_ hat12_ HO12a_ HBA12_; have HB12_ := Aside0.mk (below_step (HB11_.out) hb12_); have HKx012_ := Aside0.mk (blk_below (HKx011_.out) hb12_); have HKy112_ := Aside0.mk (blk_below (HKy111_.out) hb12_); have HKy212_ := Aside0.mk (blk_below (HKy211_.out) hb12_); have HRl912_ := Aside0.mk (Kd.C_below (HRl911_.out) hb12_); have HRab12_ := Aside0.mk (Kd.C_below (HRab11_.out) hb12_); have HRl712_ := Aside0.mk (Kd.C_below (HP11_.out) hb12_); clear hb12_; obtain ⟨zx1_, _, zx3_, _⟩ := know HKx012_.out))
        go_wp2_with fail
        go_at_call 25
        refine (holds_told x0 A0 c0 L9 A9_ c9_ _ (Kd.C_below HR0.out (HB12_.out)) HC0.out HV0.out (HRl912_.out) HQ9_.out HIL9.out HHL9.out).mono ?_
        rintro e w13_ ⟨rfl, hb13_⟩
        have HB13_ := Aside0.mk (below_step (HB12_.out) hb13_)
        have HKx013_ := Aside0.mk (blk_below (HKx012_.out) hb13_)
        obtain ⟨kx013a_, kx013b_, kx013c_, kx013d_⟩ := know HKx013_.out
        have HKy113_ := Aside0.mk (blk_below (HKy112_.out) hb13_)
        obtain ⟨ky113a_, ky113b_, ky113c_, ky113d_⟩ := know HKy113_.out
        have HKy213_ := Aside0.mk (blk_below (HKy212_.out) hb13_)
        obtain ⟨ky213a_, ky213b_, ky213c_, ky213d_⟩ := know HKy213_.out
        clear kx08a_ kx08b_ kx08c_ kx08d_ ky18a_ ky18b_ ky18c_ ky18d_ ky28a_ ky28b_ ky28c_ ky28d_
        have HRl913_ := Aside0.mk (Kd.C_below (HRl912_.out) hb13_)
        have HRab13_ := Aside0.mk (Kd.C_below (HRab12_.out) hb13_)
        have HRl713_ := Aside0.mk (Kd.C_below (HRl712_.out) hb13_)
        have HRl813_ := Aside0.mk (Kd.C_below (HP12_.out) hb13_)
        clear hb13_
        go_wp2_with fail
        go_at_call 25
        refine (holds_told x0 A0 c0 L7 A11_ c11_ _ (Kd.C_below HR0.out (HB13_.out)) HC0.out HV0.out (HRl713_.out) HQ11_.out HIL7.out HHL7.out).mono ?_
        rintro e w14_ ⟨rfl, hb14_⟩
        have HB14_ := Aside0.mk (below_step (HB13_.out) hb14_)
        have HKx014_ := Aside0.mk (blk_below (HKx013_.out) hb14_)
        obtain ⟨kx014a_, kx014b_, kx014c_, kx014d_⟩ := know HKx014_.out
        have HKy114_ := Aside0.mk (blk_below (HKy113_.out) hb14_)
        obtain ⟨ky114a_, ky114b_, ky114c_, ky114d_⟩ := know HKy114_.out
        have HKy214_ := Aside0.mk (blk_below (HKy213_.out) hb14_)
        obtain ⟨ky214a_, ky214b_, ky214c_, ky214d_⟩ := know HKy214_.out
        clear kx013a_ kx013b_ kx013c_ kx013d_ ky113a_ ky113b_ ky113c_ ky113d_ ky213a_ ky213b_ ky213c_ ky213d_
        have HRl914_ := Aside0.mk (Kd.C_below (HRl913_.out) hb14_)
        have HRab14_ := Aside0.mk (Kd.C_below (HRab13_.out) hb14_)
        have HRl714_ := Aside0.mk (Kd.C_below (HRl713_.out) hb14_)
        have HRl814_ := Aside0.mk (Kd.C_below (HRl813_.out) hb14_)
        clear hb14_
        go_wp2_with fail
        go_at_call 25
        refine (holds_told x0 A0 c0 L8 A12_ c12_ _ (Kd.C_below HR0.out (HB14_.out)) HC0.out HV0.out (HRl814_.out) HQ12_.out HIL8.out HHL8.out).mono ?_
        rintro e w15_ ⟨rfl, hb15_⟩
        have HB15_ := Aside0.mk (below_step (HB14_.out) hb15_)
        have HKx015_ := Aside0.mk (blk_below (HKx014_.out) hb15_)
        obtain ⟨kx015a_, kx015b_, kx015c_, kx015d_⟩ := know HKx015_.out
        have HKy115_ := Aside0.mk (blk_below (HKy114_.out) hb15_)
        obtain ⟨ky115a_, ky115b_, ky115c_, ky115d_⟩ := know HKy115_.out
        have HKy215_ := Aside0.mk (blk_below (HKy214_.out) hb15_)
        obtain ⟨ky215a_, ky215b_, ky215c_, ky215d_⟩ := know HKy215_.out
        clear kx014a_ kx014b_ kx014c_ kx014d_ ky114a_ ky114b_ ky114c_ ky114d_ ky214a_ ky214b_ ky214c_ ky214d_
        have HRl915_ := Aside0.mk (Kd.C_below (HRl914_.out) hb15_)
        have HRab15_ := Aside0.mk (Kd.C_below (HRab14_.out) hb15_)
        have HRl715_ := Aside0.mk (Kd.C_below (HRl714_.out) hb15_)
        have HRl815_ := Aside0.mk (Kd.C_below (HRl814_.out) hb15_)
        clear hb15_
        go_wp2_with fail
        go_ret
        exact ⟨by first | rfl | simp [*], HB15_.out⟩
    · have hcl : n1 ≠ 0 ∨ (n1 = 0 ∧ n2 ≠ 0) ∨ (n1 = 0 ∧ n2 = 0 ∧ y1.f0 ≠ 1) ∨ (n1 = 0 ∧ n2 = 0 ∧ y1.f0 = 1 ∧ y2.f0 ≠ 1) := by omega
      clear hall hy1 hy2
      rcases hcl with k1 | ⟨k1, k2⟩ | ⟨k1, k2, k3⟩ | ⟨k1, k2, k3, k4⟩
      all_goals first
        | (have j1 : (n1 != 0) = true := bne_iff_ne.2 k1)
        | (have j1 : (n1 != 0) = false := by rw [k1]; rfl)
      all_goals first
        | (have j2 : (n2 != 0) = true := bne_iff_ne.2 k2)
        | (have j2 : (n2 != 0) = false := by rw [k2]; rfl)
        | skip
      all_goals first
        | (have j3 : (y1.f0 != 1) = true := bne_iff_ne.2 k3)
        | (have j3 : (y1.f0 != 1) = false := by rw [k3]; rfl)
        | skip
      all_goals first
        | (have j4 : (y2.f0 != 1) = true := bne_iff_ne.2 k4)
        | skip
      all_goals
        go_enter Try.func6, Try.ntmps6
        go_wp2_with fail
        go_at_call 11
        refine (awake8_told _).mono ?_
        rintro e w1_ ⟨rfl, hb1_⟩
        have HB1_ := Aside0.mk (below_step (below_alloc (Below.refl _ _) _) hb1_)
        have HKx01_ := Aside0.mk (blk_below (blk_new _ _) hb1_)
        obtain ⟨kx01a_, kx01b_, kx01c_, kx01d_⟩ := know HKx01_.out
        clear hb1_
        go_wp2_with fail
        go_at_call_of 13 (Value.agg #[.string x0.f0, .int .i64 x0.f1, .slice A0 x0.f2.length c0])
        refine (HPC.out A0 c0 _ (Kd.C_below HR0.out (HB1_.out)) HC0.out).mono ?_
        rintro e w2_ ⟨rfl, hb2_⟩
        have HB2_ := Aside0.mk (below_step (HB1_.out) hb2_)
        have HKx02_ := Aside0.mk (blk_below (HKx01_.out) hb2_)
        obtain ⟨kx02a_, kx02b_, kx02c_, kx02d_⟩ := know HKx02_.out
        clear kx01a_ kx01b_ kx01c_ kx01d_
        clear hb2_
        go_wp2_with fail
        go_at_call_of 14 (Value.slice A1 x1.length c1)
        refine (HQC.out A1 c1 _ (Kd.C_below HR1.out (HB2_.out)) HC1.out).mono ?_
        rintro e w3_ ⟨rfl, hb3_⟩
        have HB3_ := Aside0.mk (below_step (HB2_.out) hb3_)
        have HKx03_ := Aside0.mk (blk_below (HKx02_.out) hb3_)
        obtain ⟨kx03a_, kx03b_, kx03c_, kx03d_⟩ := know HKx03_.out
        clear kx02a_ kx02b_ kx02c_ kx02d_
        clear hb3_
        go_wp2_with fail
        go_at_call_of 14 (Value.slice A2 x2.length c2)
        refine (HRC.out A2 c2 _ (Kd.C_below HR2.out (HB3_.out)) HC2.out).mono ?_
        rintro e w4_ ⟨rfl, hb4_⟩
        have HB4_ := Aside0.mk (below_step (HB3_.out) hb4_)
        have HKx04_ := Aside0.mk (blk_below (HKx03_.out) hb4_)
        obtain ⟨kx04a_, kx04b_, kx04c_, kx04d_⟩ := know HKx04_.out
        clear kx03a_ kx03b_ kx03c_ kx03d_
        clear hb4_
        go_wp2_with fail
        go_at_call 17
        refine (eval_told x0 A0 c0 x1 A1 c1 _ (Kd.C_below HR0.out (HB4_.out)) HC0.out HV0.out (Kd.C_below HR1.out (HB4_.out)) HC1.out HI1.out HE1.out).mono ?_
        rintro e w5_ ⟨rfl, hb5_⟩
        have HB5_ := Aside0.mk (below_step (HB4_.out) hb5_)
        have HKx05_ := Aside0.mk (blk_below (HKx04_.out) hb5_)
        obtain ⟨kx05a_, kx05b_, kx05c_, kx05d_⟩ := know HKx05_.out
        clear kx04a_ kx04b_ kx04c_ kx04d_
        clear hb5_
        go_wp2_with fail
        go_at_call 17
        refine (eval_told x0 A0 c0 x2 A2 c2 _ (Kd.C_below HR0.out (below_alloc (HB5_.out) _)) HC0.out HV0.out (Kd.C_below HR2.out (below_alloc (HB5_.out) _)) HC2.out HI2.out HE2.out).mono ?_
        rintro e w6_ ⟨rfl, hb6_⟩
        have HB6_ := Aside0.mk (below_step (below_alloc (HB5_.out) _) hb6_)
        have HKx06_ := Aside0.mk (blk_below (blk_alloc (HKx05_.out) _) hb6_)
        obtain ⟨kx06a_, kx06b_, kx06c_, kx06d_⟩ := know HKx06_.out
        have HKy16_ := Aside0.mk (blk_below (blk_new _ _) hb6_)
        obtain ⟨ky16a_, ky16b_, ky16c_, ky16d_⟩ := know HKy16_.out
        clear kx05a_ kx05b_ kx05c_ kx05d_
        clear hb6_
        go_wp2_with fail
        go_ret
        exact ⟨rfl, below_alloc (HB6_.out) _⟩
  · have HNO := Aside0.mk hgo
    clear hgo
    have hcl : 5 < x1.length ∨ (x1.length ≤ 5 ∧ 5 < x2.length) ∨ (x1.length ≤ 5 ∧ x2.length ≤ 5) := by omega
    rcases hcl with h4 | ⟨h4, h5⟩ | ⟨h4, h5⟩ <;> cases p <;> cases q <;> cases r
    all_goals first
      | (exfalso; apply HNO.out; refine ⟨rfl, rfl, rfl, ?_, ?_⟩ <;> assumption)
      | skip
    all_goals
      go_enter Try.func6, Try.ntmps6
      go_wp2_with fail
      go_at_call 11
      refine (awake8_told _).mono ?_
      rintro e w1_ ⟨rfl, hb1_⟩
      have HB1_ := Aside0.mk (below_step (below_alloc (Below.refl _ _) _) hb1_)
      have HKx01_ := Aside0.mk (blk_below (blk_new _ _) hb1_)
      obtain ⟨kx01a_, kx01b_, kx01c_, kx01d_⟩ := know HKx01_.out
      clear hb1_
      go_wp2_with fail
      go_at_call_of 13 (Value.agg #[.string x0.f0, .int .i64 x0.f1, .slice A0 x0.f2.length c0])
      refine (HPC.out A0 c0 _ (Kd.C_below HR0.out (HB1_.out)) HC0.out).mono ?_
      rintro e w2_ ⟨rfl, hb2_⟩
      have HB2_ := Aside0.mk (below_step (HB1_.out) hb2_)
      have HKx02_ := Aside0.mk (blk_below (HKx01_.out) hb2_)
      obtain ⟨kx02a_, kx02b_, kx02c_, kx02d_⟩ := know HKx02_.out
      clear kx01a_ kx01b_ kx01c_ kx01d_
      clear hb2_
      go_wp2_with fail
      go_at_call_of 14 (Value.slice A1 x1.length c1)
      refine (HQC.out A1 c1 _ (Kd.C_below HR1.out (HB2_.out)) HC1.out).mono ?_
      rintro e w3_ ⟨rfl, hb3_⟩
      have HB3_ := Aside0.mk (below_step (HB2_.out) hb3_)
      have HKx03_ := Aside0.mk (blk_below (HKx02_.out) hb3_)
      obtain ⟨kx03a_, kx03b_, kx03c_, kx03d_⟩ := know HKx03_.out
      clear kx02a_ kx02b_ kx02c_ kx02d_
      clear hb3_
      go_wp2_with fail
      go_at_call_of 14 (Value.slice A2 x2.length c2)
      refine (HRC.out A2 c2 _ (Kd.C_below HR2.out (HB3_.out)) HC2.out).mono ?_
      rintro e w4_ ⟨rfl, hb4_⟩
      have HB4_ := Aside0.mk (below_step (HB3_.out) hb4_)
      have HKx04_ := Aside0.mk (blk_below (HKx03_.out) hb4_)
      obtain ⟨kx04a_, kx04b_, kx04c_, kx04d_⟩ := know HKx04_.out
      clear kx03a_ kx03b_ kx03c_ kx03d_
      clear hb4_
      go_wp2_with fail
      go_ret
      exact ⟨rfl, HB4_.out⟩
end Go.Proofs.Ytncllbokeofdjaa.P
