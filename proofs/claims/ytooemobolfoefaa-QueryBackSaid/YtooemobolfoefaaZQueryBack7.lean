/- What QueryBack's row stands on: words, contracts of the functions that it reaches, plain facts, its walk (part 7): no condition but those that each theorem names. -/
import Derived.Test.YtooemobolfoefaaZQueryBack6
set_option linter.unusedVariables false
set_option linter.unusedSimpArgs false
namespace Go.Proofs.Ytooemobolfoefaa.P
open Go.RowKit Go.Proofs.YtooemobolfoefaaW.PrintWords Go.Proofs.YtooemobolfoefaaW.PrintLast Go.Proofs.YtooemobolfoefaaW.PrintMore
set_option linter.unusedVariables false
set_option linter.unusedSimpArgs false
theorem gotQ_false {l : List Int} {v : SQuery} {n : Nat} (h : gotQ (getQ l) = (v, n, false)) : v = zQuery ∧ n = 0 := by
  cases hg : getQ l with
  | none => rw [hg] at h; simp only [gotQ, Prod.mk.injEq] at h; exact ⟨h.1.symm, h.2.1.symm⟩
  | some p => obtain ⟨x, k⟩ := p; rw [hg] at h; simp [gotQ] at h
theorem gotQ_true {l : List Int} {v : SQuery} {n : Nat} (h : gotQ (getQ l) = (v, n, true)) : getQ l = some (v, n) := by
  cases hg : getQ l with
  | none => rw [hg] at h; simp [gotQ] at h
  | some p => obtain ⟨x, k⟩ := p; rw [hg] at h; simp only [gotQ, Prod.mk.injEq] at h; rw [h.1, h.2.1]
set_option maxHeartbeats 40000000 in
set_option maxRecDepth 100000 in
theorem QueryBack.walk : QueryBack.Stmt := by
  intro W x0 cs0 K0 w0 x1 A1 c1 hc1 hr1 w1
  obtain ⟨A0, c0, rfl, hc0, hr0⟩ := kQuery_cells K0
  have HR0 := Aside0.mk hr0
  have HC0 := Aside0.mk hc0
  have HOK0 := Aside0.mk (wfQ_ok w0).1
  have HLN0 := Aside0.mk (wfQ_ok w0).2
  obtain ⟨p, hp8, hpC⟩ := few9_told x0
  have HPC := Aside0.mk hpC
  have HR1 := Aside0.mk hr1
  have HC1 := Aside0.mk hc1
  have hl1 : x1.length < 4611686018427387904 := by have := w1.1; omega
  have hlq0 := HLN0.out
  have HBY := Aside0.mk (lit_byte w1.2)
  have infoU8_ := info5
  clear hr0 hc0 w0 K0 w1 hpC hp8 hr1 hc1
  by_cases hgo : p = true ∧ x1.length ≤ 800
  · obtain ⟨rfl, h400⟩ := hgo
    have h400i : ¬ (x1.length : Int) > 800 := by omega
    obtain ⟨m, hm⟩ : ∃ m, mayQ x0 = m := ⟨_, rfl⟩
    have HM := Aside0.mk hm
    obtain ⟨P, hP⟩ : ∃ P, (if m then bytesQ x0 else []) = P := ⟨_, rfl⟩
    have HPP := Aside0.mk hP
    obtain ⟨v, n, b, hg⟩ : ∃ v n b, gotQ (getQ x1) = (v, n, b) := ⟨_, _, _, rfl⟩
    have HG := Aside0.mk hg
    clear hg
    cases m with
    | false =>
      clear hP hm
      go_enter Try.func3, Try.ntmps3
      go_wp2_with fail
      go_at_call 9
      refine (awake9_told _).mono ?_
      rintro e w1_ ⟨rfl, hb1_⟩
      have HB1_ := Aside0.mk (below_step (below_alloc (Below.refl _ _) _) hb1_)
      have HKx01_ := Aside0.mk (blk_below (blk_new _ _) hb1_)
      obtain ⟨kx01a_, kx01b_, kx01c_, kx01d_⟩ := know HKx01_.out
      clear hb1_
      go_wp2_with fail
      go_at_call_of 10 (Value.agg #[.slice A0 x0.f0.length c0, .int .i64 x0.f1, .int .i64 x0.f2, .int .i64 x0.f3, .int .i64 x0.f4])
      refine (HPC.out A0 c0 _ (Kd.C_below HR0.out (HB1_.out)) HC0.out).mono ?_
      rintro e w2_ ⟨rfl, hb2_⟩
      have HB2_ := Aside0.mk (below_step (HB1_.out) hb2_)
      have HKx02_ := Aside0.mk (blk_below (HKx01_.out) hb2_)
      obtain ⟨kx02a_, kx02b_, kx02c_, kx02d_⟩ := know HKx02_.out
      clear kx01a_ kx01b_ kx01c_ kx01d_
      clear hb2_
      go_wp2_with fail
      go_at_call_of 11 (Value.agg #[.slice A0 x0.f0.length c0, .int .i64 x0.f1, .int .i64 x0.f2, .int .i64 x0.f3, .int .i64 x0.f4])
      refine (putQ_told x0 A0 c0 _ (Kd.C_below HR0.out (HB2_.out)) HC0.out HOK0.out HLN0.out HM.out HPP.out).mono ?_
      rintro e w3_ ⟨v3_, rfl, ho3_, hb3_⟩
      have HB3_ := Aside0.mk (below_step (HB2_.out) hb3_)
      have HKx03_ := Aside0.mk (blk_below (HKx02_.out) hb3_)
      obtain ⟨kx03a_, kx03b_, kx03c_, kx03d_⟩ := know HKx03_.out
      clear kx02a_ kx02b_ kx02c_ kx02d_
      clear hb3_
      obtain ⟨A3_, c3_, hv3_, hq3_, hp3_⟩ := Own8.reads ho3_
      subst hv3_
      have HP3_ := Aside0.mk hp3_
      have HQ3_ := Aside0.mk hq3_
      clear ho3_ hp3_ hq3_
      go_wp2_with fail
      go_at_call 12
      refine (getQ_told _ A1 c1 x1 (Kd.C_below HR1.out (HB3_.out)) HC1.out HBY.out hl1 HG.out).mono ?_
      rintro e w4_ ⟨v4_, rfl, ho4_, ok4_, hb4_⟩
      have HB4_ := Aside0.mk (below_step (HB3_.out) hb4_)
      have HKx04_ := Aside0.mk (blk_below (HKx03_.out) hb4_)
      obtain ⟨kx04a_, kx04b_, kx04c_, kx04d_⟩ := know HKx04_.out
      clear kx03a_ kx03b_ kx03c_ kx03d_
      clear hb4_
      obtain ⟨B4_, d4_, hv4_, hg4_, hh4_⟩ := Kd.R_reads ho4_
      subst hv4_
      have HG4_ := Aside0.mk hg4_
      have HH4_ := Aside0.mk hh4_
      have HOKG4_ := Aside0.mk ok4_
      clear ho4_ hg4_ hh4_ ok4_
      obtain ⟨g1_, g2_, g3_, g4_⟩ := know (blk_new w4_ (.cells #[.slice B4_ v.f0.length d4_, .int .i64 v.f1, .int .i64 v.f2, .int .i64 v.f3, .int .i64 v.f4] 24))
      cases b with
      | false =>
        obtain ⟨rfl, rfl⟩ := gotQ_false HG.out
        go_wp2_with fail
        go_ret
        exact ⟨by first | rfl | simp [*] | (simp [zQuery]), below_alloc (HB4_.out) _⟩
      | true =>
        obtain ⟨hmv, hov, hnl, htk, hnn⟩ := getQ_take HBY.out (gotQ_true HG.out)
        have HMV := Aside0.mk hmv
        have HOV := Aside0.mk hov
        have hvl : v.f0.length < 4611686018427387904 := by have := (mayQ_iff.1 hmv).2.2.2.2.2.2.2.2.2.1; omega
        obtain ⟨i0, hi0, _, hsz0, _⟩ := info_parts info5
        obtain ⟨hcut, hcC⟩ := take_row (P := Try.prog) (d := Kd.int .u8) Try.underlying25 hi0 A1 c1 x1 n (n : Int) rfl hnl HC1.out
        have HPV : Aside0 ((if true then bytesQ v else []) = x1.take n) := ⟨by rw [htk]; rfl⟩
        have HCC := Aside0.mk hcC
        have hc1 := HC1.out
        have hnle : (n : Int) ≤ (x1.length : Int) := by omega
        have HVL := Aside0.mk hvl
        clear hmv hov htk hnn hcC hvl
        go_wp2_with fail
        go_at_call 11
        refine (putQ_told v B4_ d4_ _ (Kd.C_alloc (HH4_.out) _) HG4_.out HOV.out HVL.out HMV.out HPV.out).mono ?_
        rintro e w5_ ⟨v5_, rfl, ho5_, hb5_⟩
        have HB5_ := Aside0.mk (below_step (below_alloc (HB4_.out) _) hb5_)
        have HKx05_ := Aside0.mk (blk_below (blk_alloc (HKx04_.out) _) hb5_)
        obtain ⟨kx05a_, kx05b_, kx05c_, kx05d_⟩ := know HKx05_.out
        have HKg5_ := Aside0.mk (blk_below (blk_new _ _) hb5_)
        obtain ⟨kg5a_, kg5b_, kg5c_, kg5d_⟩ := know HKg5_.out
        clear kx04a_ kx04b_ kx04c_ kx04d_
        have HRv5_ := Aside0.mk (Kd.C_below (Kd.C_alloc (HH4_.out) _) hb5_)
        clear hb5_
        obtain ⟨A5_, c5_, hv5_, hq5_, hp5_⟩ := Own8.reads ho5_
        subst hv5_
        have HP5_ := Aside0.mk hp5_
        have HQ5_ := Aside0.mk hq5_
        clear ho5_ hp5_ hq5_
        go_wp2_with fail
        have hs1 := fun m => Kd.C_string (P := Try.prog) (c := c5_) Try.underlying25 Try.underlying5 Try.underlying9 (Kd.C_drewN (HP5_.out) m)
        have hs2 := fun m => Kd.C_string (P := Try.prog) (c := c1) Try.underlying25 Try.underlying5 Try.underlying9 (Kd.C_drewN (HCC.out _ (Kd.C_below HR1.out (HB5_.out))) m)
        simp only [List.length_take, Nat.min_eq_left hnl] at hs1
        go_quiet (fail)
        go_wp2
        go_ret
        exact ⟨by simp, pw_below_drewN (HB5_.out) _⟩
    | true =>
      have hP2 : bytesQ x0 = P := hP
      have hlP : P.length ≤ 5700 := by rw [← hP2]; exact bytesQ_len hm HOK0.out
      obtain ⟨PX, hPX⟩ : ∃ PX, P ++ x1 = PX := ⟨_, rfl⟩
      have HGP : Aside0 (gotQ (getQ PX) = (x0, P.length, true)) := ⟨by rw [← hPX, ← hP2]; exact gotQ_some (getQ_put x1 hm HOK0.out)⟩
      have HBA : Aside0 (byteL PX) := ⟨by rw [← hPX]; exact byteL_append (by rw [← hP2]; exact bytesQ_byte hm) HBY.out⟩
      have hxa : PX.length < 4611686018427387904 := by rw [← hPX, List.length_append]; omega
      have HPX := Aside0.mk hPX
      clear hP hm hP2 hPX
      go_enter Try.func3, Try.ntmps3
      go_wp2_with fail
      go_at_call 9
      refine (awake9_told _).mono ?_
      rintro e w1_ ⟨rfl, hb1_⟩
      have HB1_ := Aside0.mk (below_step (below_alloc (Below.refl _ _) _) hb1_)
      have HKx01_ := Aside0.mk (blk_below (blk_new _ _) hb1_)
      obtain ⟨kx01a_, kx01b_, kx01c_, kx01d_⟩ := know HKx01_.out
      clear hb1_
      go_wp2_with fail
      go_at_call_of 10 (Value.agg #[.slice A0 x0.f0.length c0, .int .i64 x0.f1, .int .i64 x0.f2, .int .i64 x0.f3, .int .i64 x0.f4])
      refine (HPC.out A0 c0 _ (Kd.C_below HR0.out (HB1_.out)) HC0.out).mono ?_
      rintro e w2_ ⟨rfl, hb2_⟩
      have HB2_ := Aside0.mk (below_step (HB1_.out) hb2_)
      have HKx02_ := Aside0.mk (blk_below (HKx01_.out) hb2_)
      obtain ⟨kx02a_, kx02b_, kx02c_, kx02d_⟩ := know HKx02_.out
      clear kx01a_ kx01b_ kx01c_ kx01d_
      clear hb2_
      go_wp2_with fail
      go_at_call_of 11 (Value.agg #[.slice A0 x0.f0.length c0, .int .i64 x0.f1, .int .i64 x0.f2, .int .i64 x0.f3, .int .i64 x0.f4])
      refine (putQ_told x0 A0 c0 _ (Kd.C_below HR0.out (HB2_.out)) HC0.out HOK0.out HLN0.out HM.out HPP.out).mono ?_
      rintro e w3_ ⟨v3_, rfl, ho3_, hb3_⟩
      have HB3_ := Aside0.mk (below_step (HB2_.out) hb3_)
      have HKx03_ := Aside0.mk (blk_below (HKx02_.out) hb3_)
      obtain ⟨kx03a_, kx03b_, kx03c_, kx03d_⟩ := know HKx03_.out
      clear kx02a_ kx02b_ kx02c_ kx02d_
      clear hb3_
      obtain ⟨A3_, c3_, hv3_, hq3_, hp3_⟩ := Own8.reads ho3_
      subst hv3_
      have HP3_ := Aside0.mk hp3_
      have HQ3_ := Aside0.mk hq3_
      clear ho3_ hp3_ hq3_
      go_wp2_with (first
        | ((with_reducible refine gate_builtin (b := .append) (xs := #[.const (.slice none 0 0), .tmp 39]) rfl ?_); at_builtin; refine Kd.R_append_rows (Kd.int .u8) (Rr := Kd.K (Kd.int .u8) _) _ rfl (.const (.slice none 0 0)) (.tmp 39) 25 5 (.int .u8 0) 1 rfl Try.underlying25 info5 rfl (by decide) (by decide) (.slice none 0 0) [] P A3_ P.length c3_ (fun _ => True) (fun _ => False) rfl rfl (Kd.R_nil _ _ _ _ _) (HP3_.out) ?aK (fun _ h => h.elim) (fun _ _ => trivial) (Below.refl _ _) (Nat.le_refl _) (by simp only [List.length_nil]; omega) ?_; (case aK => exact (fun _ _ h => h)); intro v4a_ w4a_ ho4a_ hb4a_ hg4a_ hat4a_; simp only [List.nil_append] at ho4a_; have HO4a_ := Aside0.mk ho4a_; have HBA4_ := Aside0.mk hb4a_; clear ho4a_ hb4a_ hg4a_ hat4a_)
        | ((with_reducible refine gate_builtin (b := .append) (xs := #[.tmp 40, .tmp 41]) rfl ?_); at_builtin; refine Kd.R_append_rows (Kd.int .u8) (Rr := Kd.K (Kd.int .u8) _) _ rfl (.tmp 40) (.tmp 41) 25 5 (.int .u8 0) 1 rfl Try.underlying25 info5 rfl (by decide) (by decide) v4a_ P x1 A1 x1.length c1 (fun _ => True) (fun _ => False) rfl rfl HO4a_.out (Kd.C_below (Kd.C_below HR1.out (HB3_.out)) HBA4_.out) ?aK (fun _ h => h.elim) (fun _ _ => trivial) HBA4_.out (below_size HBA4_.out) (by omega) ?_; (case aK => exact (fun _ _ h => h)); intro v4_ w4_ ho4_ hb4_ hg4_ hat4_; rw [HPX.out] at ho4_; obtain ⟨A4_, c4_, hv4_, hq4_, hp4_⟩ := Kd.R_reads ho4_; subst hv4_; have HP4_ := Aside0.mk hp4_; have HQ4_ := Aside0.mk hq4_; clear ho4_ hp4_ hq4_ hg4_ hat4_ HO4a_ HBA4_; have HB4_ := Aside0.mk (below_step (HB3_.out) hb4_); have HKx04_ := Aside0.mk (blk_below (HKx03_.out) hb4_); have HRp4_ := Aside0.mk (Kd.C_below (HP3_.out) hb4_); clear hb4_))
      go_at_call 12
      refine (getQ_told _ A4_ c4_ PX (HP4_.out) HQ4_.out HBA.out hxa HGP.out).mono ?_
      rintro e w5_ ⟨v5_, rfl, ho5_, ok5_, hb5_⟩
      have HB5_ := Aside0.mk (below_step (HB4_.out) hb5_)
      have HKx05_ := Aside0.mk (blk_below (HKx04_.out) hb5_)
      obtain ⟨kx05a_, kx05b_, kx05c_, kx05d_⟩ := know HKx05_.out
      clear kx03a_ kx03b_ kx03c_ kx03d_
      have HRp5_ := Aside0.mk (Kd.C_below (HRp4_.out) hb5_)
      have HRa5_ := Aside0.mk (Kd.C_below (HP4_.out) hb5_)
      clear hb5_
      obtain ⟨B5_, d5_, hv5_, hg5_, hh5_⟩ := Kd.R_reads ho5_
      subst hv5_
      have HG5_ := Aside0.mk hg5_
      have HH5_ := Aside0.mk hh5_
      have HOKG5_ := Aside0.mk ok5_
      clear ho5_ hg5_ hh5_ ok5_
      go_wp2_with fail
      go_at_call 13
      refine (sameQ_told x0 x0 B5_ d5_ A0 c0 _ (Kd.C_alloc (HH5_.out) _) HG5_.out (Kd.C_below HR0.out (below_alloc (HB5_.out) _)) HC0.out (eqQ_refl x0)).mono ?_
      rintro e w6_ ⟨rfl, hb6_⟩
      have HB6_ := Aside0.mk (below_step (below_alloc (HB5_.out) _) hb6_)
      have HKx06_ := Aside0.mk (blk_below (blk_alloc (HKx05_.out) _) hb6_)
      obtain ⟨kx06a_, kx06b_, kx06c_, kx06d_⟩ := know HKx06_.out
      have HKh6_ := Aside0.mk (blk_below (blk_new _ _) hb6_)
      obtain ⟨kh6a_, kh6b_, kh6c_, kh6d_⟩ := know HKh6_.out
      clear kx05a_ kx05b_ kx05c_ kx05d_
      have HRp6_ := Aside0.mk (Kd.C_below (Kd.C_alloc (HRp5_.out) _) hb6_)
      have HRa6_ := Aside0.mk (Kd.C_below (Kd.C_alloc (HRa5_.out) _) hb6_)
      have HRv6_ := Aside0.mk (Kd.C_below (Kd.C_alloc (HH5_.out) _) hb6_)
      clear hb6_
      go_wp2_with fail
      go_at_call 12
      refine (getQ_told _ A1 c1 x1 (Kd.C_below HR1.out (HB6_.out)) HC1.out HBY.out hl1 HG.out).mono ?_
      rintro e w7_ ⟨v7_, rfl, ho7_, ok7_, hb7_⟩
      have HB7_ := Aside0.mk (below_step (HB6_.out) hb7_)
      have HKx07_ := Aside0.mk (blk_below (HKx06_.out) hb7_)
      obtain ⟨kx07a_, kx07b_, kx07c_, kx07d_⟩ := know HKx07_.out
      have HKh7_ := Aside0.mk (blk_below (HKh6_.out) hb7_)
      obtain ⟨kh7a_, kh7b_, kh7c_, kh7d_⟩ := know HKh7_.out
      clear kx06a_ kx06b_ kx06c_ kx06d_ kh6a_ kh6b_ kh6c_ kh6d_
      clear hb7_
      obtain ⟨B7_, d7_, hv7_, hg7_, hh7_⟩ := Kd.R_reads ho7_
      subst hv7_
      have HG7_ := Aside0.mk hg7_
      have HH7_ := Aside0.mk hh7_
      have HOKG7_ := Aside0.mk ok7_
      clear ho7_ hg7_ hh7_ ok7_
      obtain ⟨g1_, g2_, g3_, g4_⟩ := know (blk_new w7_ (.cells #[.slice B7_ v.f0.length d7_, .int .i64 v.f1, .int .i64 v.f2, .int .i64 v.f3, .int .i64 v.f4] 24))
      cases b with
      | false =>
        obtain ⟨rfl, rfl⟩ := gotQ_false HG.out
        go_wp2_with fail
        go_ret
        exact ⟨by first | rfl | simp [*] | (simp [zQuery]), below_alloc (HB7_.out) _⟩
      | true =>
        obtain ⟨hmv, hov, hnl, htk, hnn⟩ := getQ_take HBY.out (gotQ_true HG.out)
        have HMV := Aside0.mk hmv
        have HOV := Aside0.mk hov
        have hvl : v.f0.length < 4611686018427387904 := by have := (mayQ_iff.1 hmv).2.2.2.2.2.2.2.2.2.1; omega
        obtain ⟨i0, hi0, _, hsz0, _⟩ := info_parts info5
        obtain ⟨hcut, hcC⟩ := take_row (P := Try.prog) (d := Kd.int .u8) Try.underlying25 hi0 A1 c1 x1 n (n : Int) rfl hnl HC1.out
        have HPV : Aside0 ((if true then bytesQ v else []) = x1.take n) := ⟨by rw [htk]; rfl⟩
        have HCC := Aside0.mk hcC
        have hc1 := HC1.out
        have hnle : (n : Int) ≤ (x1.length : Int) := by omega
        have HVL := Aside0.mk hvl
        clear hmv hov htk hnn hcC hvl
        go_wp2_with fail
        go_at_call 11
        refine (putQ_told v B7_ d7_ _ (Kd.C_alloc (HH7_.out) _) HG7_.out HOV.out HVL.out HMV.out HPV.out).mono ?_
        rintro e w8_ ⟨v8_, rfl, ho8_, hb8_⟩
        have HB8_ := Aside0.mk (below_step (below_alloc (HB7_.out) _) hb8_)
        have HKx08_ := Aside0.mk (blk_below (blk_alloc (HKx07_.out) _) hb8_)
        obtain ⟨kx08a_, kx08b_, kx08c_, kx08d_⟩ := know HKx08_.out
        have HKh8_ := Aside0.mk (blk_below (blk_alloc (HKh7_.out) _) hb8_)
        obtain ⟨kh8a_, kh8b_, kh8c_, kh8d_⟩ := know HKh8_.out
        have HKg8_ := Aside0.mk (blk_below (blk_new _ _) hb8_)
        obtain ⟨kg8a_, kg8b_, kg8c_, kg8d_⟩ := know HKg8_.out
        clear kx07a_ kx07b_ kx07c_ kx07d_ kh7a_ kh7b_ kh7c_ kh7d_
        have HRv8_ := Aside0.mk (Kd.C_below (Kd.C_alloc (HH7_.out) _) hb8_)
        clear hb8_
        obtain ⟨A8_, c8_, hv8_, hq8_, hp8_⟩ := Own8.reads ho8_
        subst hv8_
        have HP8_ := Aside0.mk hp8_
        have HQ8_ := Aside0.mk hq8_
        clear ho8_ hp8_ hq8_
        go_wp2_with fail
        have hs1 := fun m => Kd.C_string (P := Try.prog) (c := c8_) Try.underlying25 Try.underlying5 Try.underlying9 (Kd.C_drewN (HP8_.out) m)
        have hs2 := fun m => Kd.C_string (P := Try.prog) (c := c1) Try.underlying25 Try.underlying5 Try.underlying9 (Kd.C_drewN (HCC.out _ (Kd.C_below HR1.out (HB8_.out))) m)
        simp only [List.length_take, Nat.min_eq_left hnl] at hs1
        go_quiet (fail)
        go_wp2
        go_ret
        exact ⟨by simp, pw_below_drewN (HB8_.out) _⟩
  · have HNO := Aside0.mk hgo
    clear hgo
    have hcl : x1.length ≤ 800 ∨ 800 < x1.length := by omega
    rcases hcl with h4 | h4 <;> cases p
    all_goals first
      | (exfalso; apply HNO.out; refine ⟨rfl, ?_⟩ <;> assumption)
      | skip
    all_goals
      go_enter Try.func3, Try.ntmps3
      go_wp2_with fail
      go_at_call 9
      refine (awake9_told _).mono ?_
      rintro e w1_ ⟨rfl, hb1_⟩
      have HB1_ := Aside0.mk (below_step (below_alloc (Below.refl _ _) _) hb1_)
      have HKx01_ := Aside0.mk (blk_below (blk_new _ _) hb1_)
      obtain ⟨kx01a_, kx01b_, kx01c_, kx01d_⟩ := know HKx01_.out
      clear hb1_
      go_wp2_with fail
      go_at_call_of 10 (Value.agg #[.slice A0 x0.f0.length c0, .int .i64 x0.f1, .int .i64 x0.f2, .int .i64 x0.f3, .int .i64 x0.f4])
      refine (HPC.out A0 c0 _ (Kd.C_below HR0.out (HB1_.out)) HC0.out).mono ?_
      rintro e w2_ ⟨rfl, hb2_⟩
      have HB2_ := Aside0.mk (below_step (HB1_.out) hb2_)
      have HKx02_ := Aside0.mk (blk_below (HKx01_.out) hb2_)
      obtain ⟨kx02a_, kx02b_, kx02c_, kx02d_⟩ := know HKx02_.out
      clear kx01a_ kx01b_ kx01c_ kx01d_
      clear hb2_
      go_wp2_with fail
      go_ret
      exact ⟨rfl, HB2_.out⟩
end Go.Proofs.Ytooemobolfoefaa.P
