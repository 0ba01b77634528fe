/- What ExprSums's row stands on: words, contracts of the functions that it reaches, plain facts, its walk (part 4): no condition but those that each theorem names. -/
import Derived.Test.YtncllbokeofdjaaZExprSums3
set_option linter.unusedVariables false
set_option linter.unusedSimpArgs false
namespace Go.Proofs.Ytncllbokeofdjaa.P
open Go.RowKit Go.Proofs.YtncllbokeofdjaaW.PrintWords Go.Proofs.YtncllbokeofdjaaW.PrintLast Go.Proofs.YtncllbokeofdjaaW.PrintMore
attribute [local go_sem] max2_int min2_int max_two min_two max_three min_three max_four min_four   -- for this text's walks alone
set_option linter.unusedVariables false
set_option linter.unusedSimpArgs false
def opsPost3 (x : List SOp) (n : Nat) (b : Bool) (w : World) (e : Ending) (w' : World) : Prop := ∃ A c, (e = .returned (.tuple #[.slice A x.length c, .int .i64 (n : Int), .bool b]) ∧ x.length ≤ c ∧ Kd.C kOp w' A x.length x) ∧ Below w.heap.size w w'
def getORel (l : List Int) (n : Nat) (w : World) (k : Nat) (at_ v8 : Value) (w' : World) : Prop := ∃ (a : Nat) (fs : List SOp), at_ = .int .i64 (a : Int) ∧ k ≤ n ∧ a ≤ l.length ∧ fs.length = k ∧ (∀ x ∈ fs, i64V x.f2) ∧ getO l = contO l (n - k) a fs ∧ Kd.R kOp 50 w' w.heap.size (fun _ => True) v8 fs ∧ Below w.heap.size w w'
theorem none_ops {w : World} {e : Ending} {w' : World} (he : e = .returned (.tuple #[.slice none 0 0, .int .i64 0, .bool false])) (hb : Below w.heap.size w w') : opsPost3 [] 0 false w e w' := ⟨none, 0, ⟨he, Nat.le_refl _, Kd.C_nil _ _⟩, hb⟩
set_option maxHeartbeats 1000000 in
set_option maxRecDepth 100000 in
theorem getO_no1 (w : World) (A : Option Addr) (c : Nat) (l : List Int) (hr : Kd.C (Kd.int .u8) w A l.length l) (hc : l.length ≤ c) (hb : byteL l) (hl : l.length < 4611686018427387904) (hg : getN l = none) : Calls Try.prog 21 #[.slice A l.length c] w (opsPost3 [] 0 false w) := by
  go_enter Try.func21, Try.ntmps21
  go_wp2_with fail
  go_at_call 43
  refine (le_Get.no A c l _ hg hb hl hr hc).mono ?_
  rintro e w1 ⟨rfl, hb1⟩
  go_wp2_with fail
  go_ret3
  exact none_ops rfl hb1
set_option maxHeartbeats 1000000 in
set_option maxRecDepth 100000 in
theorem getO_no2 (w : World) (A : Option Addr) (c : Nat) (l : List Int) (hr : Kd.C (Kd.int .u8) w A l.length l) (hc : l.length ≤ c) (hb : byteL l) (hl : l.length < 4611686018427387904) {n u : Nat} (hg : getN l = some (n, u)) (hn : ¬ n ≤ 12) : Calls Try.prog 21 #[.slice A l.length c] w (opsPost3 [] 0 false w) := by
  have hgt : (n : Int) > 12 := by omega
  have hgt2 : (12 : Int) < (n : Int) := by omega
  have hd : decide ((12 : Int) < (n : Int)) = true := decide_eq_true hgt2
  go_enter Try.func21, Try.ntmps21
  go_wp2_with fail
  go_at_call 43
  refine (le_Get.yes A c l _ hg hb hl hr hc).mono ?_
  rintro e w1 ⟨rfl, hb1⟩
  go_wp2_with fail
  go_ret3
  exact none_ops rfl hb1
set_option maxHeartbeats 8000000 in
set_option maxRecDepth 100000 in
theorem getO_go (w : World) (A : Option Addr) (c : Nat) (l : List Int) (hr : Kd.C (Kd.int .u8) w A l.length l) (hc : l.length ≤ c) (hb : byteL l) (hl : l.length < 4611686018427387904) {n u : Nat} (hg : getN l = some (n, u)) (hn : n ≤ 12) {x : List SOp} {m : Nat} {b : Bool} (hq : gotO (getO l) = (x, m, b)) : Calls Try.prog 21 #[.slice A l.length c] w (opsPost3 x m b w) := by
  obtain ⟨i0, hi0, _, hsz0, _⟩ := info_parts info5
  have HR := Aside0.mk hr
  have HC := Aside0.mk hc
  have HBY := Aside0.mk hb
  have HG := Aside0.mk hg
  have HQ := Aside0.mk hq
  have hngt : ¬ (12 : Int) < (n : Int) := by omega
  have hd : decide ((12 : Int) < (n : Int)) = false := decide_eq_false hngt
  have hul := (getN_used hg).2.1
  have HST := Aside0.mk (getO_some (show getM l 12 = some (n, u) from by rw [getM_some hg, if_pos hn]))
  clear hr hc hb hg hq
  go_enter Try.func21, Try.ntmps21
  go_wp2_with fail
  go_at_call 43
  refine (le_Get.yes A c l _ HG.out HBY.out hl HR.out HC.out).mono ?_
  rintro e w1 ⟨rfl, hb1⟩
  have HB1 := Aside0.mk hb1
  clear hb1
  go_wp2_with fail
  go_loopw [6, 8, 9, 10, 11, 25] (fun v6 v8 _ _ _ v25 w' => ∃ k : Nat, v25 = .int .u64 (k : Int) ∧ getORel l n w k v6 v8 w') (fun _ _ _ _ _ i _ => n - (intOf i).toNat)
  case atStart => exact ⟨0, rfl, u, [], rfl, Nat.zero_le _, hul, rfl, (fun _ h => by cases h), by rw [Nat.sub_zero]; exact HST.out, Kd.R_nil _ _ _ _ _, HB1.out⟩
  case round =>
    obtain ⟨k, rfl, a, fs, rfl, hk, ha, hfl, hfi, hcont, ho, hbw⟩ := hrel
    have HO := Aside0.mk ho
    have HB := Aside0.mk hbw
    have HFI := Aside0.mk hfi
    have HCT := Aside0.mk hcont
    have HFL := Aside0.mk hfl
    have hfl12 : fs.length ≤ 12 := by omega
    clear ho hbw hfi hcont HB1 hfl
    by_cases hlt : k < n
    · obtain ⟨A4, hcut4, hD4, hlc4⟩ := drop_row (P := Try.prog) (d := Kd.int .u8) Try.underlying29 hi0 hsz0 A c l a (a : Int) rfl ha HC.out
      have HD4 := Aside0.mk (hD4 w HR.out)
      have HL4 := Aside0.mk hlc4
      have hln4 : a + (l.drop a).length = l.length := by rw [List.length_drop]; omega
      have hstep := contO_step l (n - k - 1) a fs
      rw [show n - k - 1 + 1 = n - k from by omega] at hstep
      have HBD := Aside0.mk (byteL_drop HBY.out a)
      have hld : (l.drop a).length < 4611686018427387904 := by omega
      have hlti : (k : Int) < (n : Int) := by omega
      have hltd : decide ((k : Int) < (n : Int)) = true := decide_eq_true hlti
      clear hD4 hlc4
      cases hg4 : getP (l.drop a) with
      | none =>
        have HN : Aside0 (getO l = none) := ⟨by rw [HCT.out, hstep, hg4]⟩
        have HG4 := Aside0.mk hg4
        have hq2 := HQ.out
        rw [HN.out] at hq2
        simp only [gotO, Prod.mk.injEq] at hq2
        obtain ⟨rfl, rfl, rfl⟩ := hq2
        clear hg4 hstep hi0 hsz0
        generalize l.drop a = ld4 at *
        go_wp2_with fail
        go_at_call 44
        refine (partb_told ld4 A4 _ _ (Kd.C_below HD4.out HB.out) HL4.out HBD.out hld HG4.out).mono ?_
        rintro e w4 ⟨⟨z, zn, rfl⟩, hb4⟩
        unfold cellsP
        go_wp2_with fail
        go_ret3
        exact none_ops rfl (below_alloc (below_step HB.out hb4) _)
      | some p4 =>
        obtain ⟨z, zn⟩ := p4
        obtain ⟨hz1, hz2, hz3⟩ := getP_used HBD.out hg4
        rw [hg4] at hstep
        simp only at hstep
        have HST4 := Aside0.mk (HCT.out.trans hstep)
        have HG4 := Aside0.mk hg4
        have HZ1 := Aside0.mk hz1
        have hsum : IntKind.i64.wrap ((a : Int) + (zn : Int)) = ((a + zn : Nat) : Int) := by rw [IntWalk.i64_in _ (by omega)]; rfl
        have hwk : IntKind.u64.wrap ((k : Int) + 1) = ((k + 1 : Nat) : Int) := by rw [show (k : Int) + 1 = ((k + 1 : Nat) : Int) from rfl]; exact u64_small' (by omega)
        clear hg4 hstep hi0 hsz0 hz1
        generalize l.drop a = ld4 at *
        go_wp2_with fail
        go_at_call 44
        refine (partb_told ld4 A4 _ _ (Kd.C_below HD4.out HB.out) HL4.out HBD.out hld HG4.out).mono ?_
        rintro e w4 ⟨rfl, hb4⟩
        unfold cellsP
        have HB4 := Aside0.mk (below_alloc (below_step HB.out hb4) (.cells #[.int .i64 z.f0, .int .i64 z.f1, .int .i64 z.f2.f0, .int .i64 z.f2.f1, .string z.f2.f2] 50))
        have HO4 := Aside0.mk (Kd.R_alloc (Kd.R_below HO.out hb4) (.cells #[.int .i64 z.f0, .int .i64 z.f1, .int .i64 z.f2.f0, .int .i64 z.f2.f1, .string z.f2.f2] 50))
        have HS4 := Aside0.mk (World.size_alloc w4 (.cells #[.int .i64 z.f0, .int .i64 z.f1, .int .i64 z.f2.f0, .int .i64 z.f2.f1, .string z.f2.f2] 50))
        clear hb4
        go_wp2_with ((with_reducible refine gate_builtin (b := .append) (xs := #[.tmp 37, .tmp 39]) rfl ?_); at_builtin; refine Kd.R_append kOp (w0 := w) w.heap.size rfl (.tmp 37) (.tmp 39) 28 50 (.agg #[.int .i64 0, .int .i64 0, .int .i64 0, .int .i64 0, .string ⟨#[]⟩]) 48 rfl Try.underlying28 infoOp rfl ?h1 ?h2 u8 fs z [.int .i64 z.f0, .int .i64 z.f1, .int .i64 z.f2.f0, .int .i64 z.f2.f1, .string z.f2.f2] (fun _ => True) (fun _ => False) ?hs ?hx ?aP (fun _ hk => hk.elim) (fun _ _ => trivial) ?aO ?aB ?aS ?aL ?_; (case h1 => decide); (case h2 => decide); (case hs => rfl); (case hx => first | rfl | (show Value.slice (some ⟨w4.heap.size + 1, 0, none⟩) 1 1 = _; rw [World.size_alloc])); (case aP => exact kOp_mkM _ _ _ z); (case aO => exact HO4.out); (case aB => exact HB4.out); (case aS => exact below_size HB4.out); (case aL => omega); intro v5 w5 ho5 hb5 hg5 hat5; have HO5 := Aside0.mk ho5; have HB5 := Aside0.mk hb5; clear ho5 hb5 hg5 hat5)
        go_roundw
        case rel => exact ⟨k + 1, by first | go_num | (rw [hwk]) | rfl, a + zn, fs ++ [z], by first | go_num | rfl, by omega, by omega, by rw [List.length_append, HFL.out]; rfl, fun y hy => by rcases List.mem_append.1 hy with h | h; exact HFI.out y h; rw [List.mem_singleton.1 h]; exact HZ1.out, by rw [show n - (k + 1) = n - k - 1 from by omega]; exact HST4.out, HO5.out, HB5.out⟩
        case measure => simp [intOf]; omega
    · obtain rfl : k = n := by omega
      have hnl : ¬ (k : Int) < (k : Int) := by omega
      have hcte := HCT.out
      rw [Nat.sub_self, contO_end] at hcte
      obtain ⟨A5, c5, rfl, hc5, hr5⟩ := Kd.R_reads HO.out
      have HC5 := Aside0.mk hc5
      have HR5 := Aside0.mk hr5
      have hq2 := HQ.out
      rw [hcte] at hq2
      clear hc5 hr5 hcte hi0 hsz0
      cases hmf : mayO fs with
      | false =>
        rw [hmf, if_neg (by decide)] at hq2
        simp only [gotO, Prod.mk.injEq] at hq2
        obtain ⟨rfl, rfl, rfl⟩ := hq2
        have HMF := Aside0.mk hmf
        clear hmf
        go_wp2_with fail
        go_at_call 32
        refine (mayO_told fs A5 c5 _ HR5.out HC5.out HFI.out HMF.out).mono ?_
        rintro e w6 ⟨rfl, hb6⟩
        go_wp2_with fail
        go_ret3
        exact none_ops rfl (below_step HB.out hb6)
      | true =>
        rw [hmf, if_pos rfl] at hq2
        simp only [gotO, Prod.mk.injEq] at hq2
        obtain ⟨rfl, rfl, rfl⟩ := hq2
        have HMF := Aside0.mk hmf
        clear hmf
        go_wp2_with fail
        go_at_call 32
        refine (mayO_told fs A5 c5 _ HR5.out HC5.out HFI.out HMF.out).mono ?_
        rintro e w6 ⟨rfl, hb6⟩
        go_wp2_with fail
        go_ret3
        exact ⟨A5, c5, ⟨rfl, HC5.out, Kd.C_below HR5.out hb6⟩, below_step HB.out hb6⟩
theorem getO_told (w : World) (A : Option Addr) (c : Nat) (l : List Int) (hr : Kd.C (Kd.int .u8) w A l.length l) (hc : l.length ≤ c) (hb : byteL l) (hl : l.length < 4611686018427387904) {x : List SOp} {m : Nat} {b : Bool} (hq : gotO (getO l) = (x, m, b)) : Calls Try.prog 21 #[.slice A l.length c] w (opsPost3 x m b w) := by
  cases hg : getN l with
  | none =>
    rw [getO_none (getM_none hg)] at hq
    simp only [gotO, Prod.mk.injEq] at hq
    obtain ⟨rfl, rfl, rfl⟩ := hq
    exact getO_no1 w A c l hr hc hb hl hg
  | some p =>
    obtain ⟨n, u⟩ := p
    by_cases hn : n ≤ 12
    · exact getO_go w A c l hr hc hb hl hg hn hq
    · rw [getO_none (show getM l 12 = none from by rw [getM_some hg, if_neg hn])] at hq
      simp only [gotO, Prod.mk.injEq] at hq
      obtain ⟨rfl, rfl, rfl⟩ := hq
      exact getO_no2 w A c l hr hc hb hl hg hn
end Go.Proofs.Ytncllbokeofdjaa.P

namespace Go.Proofs.Ytncllbokeofdjaa.P
open Go.RowKit Go.Proofs.YtncllbokeofdjaaW.PrintWords Go.Proofs.YtncllbokeofdjaaW.PrintLast Go.Proofs.YtncllbokeofdjaaW.PrintMore
attribute [local go_sem] max2_int min2_int max_two min_two max_three min_three max_four min_four   -- for this text's walks alone
set_option linter.unusedVariables false
set_option linter.unusedSimpArgs false
attribute [local go_sem high] eqAValue
attribute [local go_sem high] eqAValue
set_option maxHeartbeats 1000000 in
set_option maxRecDepth 100000 in
theorem holds_told (x : SEvent) (A : Option Addr) (c : Nat) (l : List SOp) (Al : Option Addr) (cl : Nat) (w : World) (hr : Kd.C kValue w A x.f2.length x.f2) (hc : x.f2.length ≤ c) (hwf : ∀ v ∈ x.f2, i64V v) (hl : Kd.C kOp w Al l.length l) (hlc : l.length ≤ cl) (hwl : ∀ x ∈ l, i64V x.f2) {b : Bool} (hb : holdsV x l = b) : Calls Try.prog 25 #[.agg #[.string x.f0, .int .i64 x.f1, .slice A x.f2.length c], .slice Al l.length cl] w (boolPost b w) := by
  obtain ⟨y, n, hyn⟩ : ∃ y n, evalV x l = (y, n) := ⟨_, _, rfl⟩
  have HEV := Aside0.mk (fun W (h : Below w.heap.size w W) => eval_told x A c l Al cl W (Kd.C_below hr h) hc hwf (Kd.C_below hl h) hlc hwl hyn)
  unfold holdsV at hb
  rw [hyn] at hb
  have heq : (y.f0 == 1 && (y.f1 == 1 && y.f2.toList.isEmpty)) = eqV y (truV true) := by unfold eqV truV; rw [show (⟨#[]⟩ : ByteArray).toList = [] from by decide +kernel]; cases y.f2.toList <;> rfl
  clear hr hc hwf hl hlc hwl hyn
  obtain ⟨len, hlen⟩ : ∃ len, l.length = len := ⟨_, rfl⟩
  rw [hlen] at HEV hb ⊢
  clear hlen
  by_cases h0 : len = 0
  · rw [decide_eq_true h0, Bool.true_or] at hb
    subst hb
    have h0i : ((len : Int) == 0) = true := by rw [h0]; rfl
    clear h0
    go_enter Try.func25, Try.ntmps25
    go_wp2_with fail
    go_at_call 17
    refine (HEV.out _ (below_alloc (Below.refl _ _) _)).mono ?_
    rintro e w1 ⟨rfl, hb1⟩
    have HB1 := Aside0.mk (below_alloc (below_step (below_alloc (Below.refl _ _) _) hb1) (.cells #[.int .i64 y.f0, .int .i64 y.f1, .string y.f2] 38))
    have hz : ∀ m i, ((w1.alloc (.cells #[.int .i64 y.f0, .int .i64 y.f1, .string y.f2] 38)).drewN m).cell? ⟨w1.heap.size, i, none⟩ = (#[.int .i64 y.f0, .int .i64 y.f1, .string y.f2] : Array Value)[i]? := fun m i => blk_cell (blk_drewN (blk_new w1 (.cells #[.int .i64 y.f0, .int .i64 y.f1, .string y.f2] 38)) m) i
    obtain ⟨q1_, q2_, q3_, q4_⟩ := know (blk_new w1 (.cells #[.int .i64 y.f0, .int .i64 y.f1, .string y.f2] 38))
    clear hb1
    go_wp2_with fail
    go_quiet (fail)
    go_wp2_with fail
    go_ret
    exact ⟨rfl, pw_below_drewN HB1.out _⟩
  · rw [decide_eq_false h0, Bool.false_or] at hb
    have h0i : ((len : Int) == 0) = false := beq_eq_false_iff_ne.2 (by omega)
    clear h0
    by_cases hn : n = 0
    · subst hn
      rw [show ((0 : Int) == 0) = true from rfl, Bool.true_and] at hb
      replace hb : eqV y (truV true) = b := hb
      rw [hb] at heq
      clear hb
      go_enter Try.func25, Try.ntmps25
      go_wp2_with fail
      go_at_call 17
      refine (HEV.out _ (below_alloc (Below.refl _ _) _)).mono ?_
      rintro e w1 ⟨rfl, hb1⟩
      have HB1 := Aside0.mk (below_alloc (below_step (below_alloc (Below.refl _ _) _) hb1) (.cells #[.int .i64 y.f0, .int .i64 y.f1, .string y.f2] 38))
      have hz : ∀ m i, ((w1.alloc (.cells #[.int .i64 y.f0, .int .i64 y.f1, .string y.f2] 38)).drewN m).cell? ⟨w1.heap.size, i, none⟩ = (#[.int .i64 y.f0, .int .i64 y.f1, .string y.f2] : Array Value)[i]? := fun m i => blk_cell (blk_drewN (blk_new w1 (.cells #[.int .i64 y.f0, .int .i64 y.f1, .string y.f2] 38)) m) i
      obtain ⟨q1_, q2_, q3_, q4_⟩ := know (blk_new w1 (.cells #[.int .i64 y.f0, .int .i64 y.f1, .string y.f2] 38))
      clear hb1
      go_wp2_with fail
      go_region_held3 (fun w' => w'.cell? ⟨w1.heap.size, 0, none⟩ = some (.int .i64 y.f0) ∧ w'.cell? ⟨w1.heap.size, 1, none⟩ = some (.int .i64 y.f1) ∧ w'.cell? ⟨w1.heap.size, 2, none⟩ = some (.string y.f2))
        (first | go_keep | (go_split_ands; refine ⟨?_, ?_, ?_⟩ <;> (first | exact hz 1 0 | exact hz 1 1 | exact hz 1 2 | (apply pw_cell_below; (first | exact hb2); assumption))))
        (first
          | (go_at_call 47; refine (valTru_told true _).mono ?_; rintro e w2 ⟨rfl, hb2⟩))
      all_goals
        go_wp2_with fail
        go_ret
        exact ⟨rfl, below_step (below_drew HB1.out) hb2⟩
    · have hn1 : (n == 0) = false := beq_eq_false_iff_ne.2 hn
      rw [hn1, Bool.false_and] at hb
      subst hb
      go_enter Try.func25, Try.ntmps25
      go_wp2_with fail
      go_at_call 17
      refine (HEV.out _ (below_alloc (Below.refl _ _) _)).mono ?_
      rintro e w1 ⟨rfl, hb1⟩
      have HB1 := Aside0.mk (below_alloc (below_step (below_alloc (Below.refl _ _) _) hb1) (.cells #[.int .i64 y.f0, .int .i64 y.f1, .string y.f2] 38))
      have hz : ∀ m i, ((w1.alloc (.cells #[.int .i64 y.f0, .int .i64 y.f1, .string y.f2] 38)).drewN m).cell? ⟨w1.heap.size, i, none⟩ = (#[.int .i64 y.f0, .int .i64 y.f1, .string y.f2] : Array Value)[i]? := fun m i => blk_cell (blk_drewN (blk_new w1 (.cells #[.int .i64 y.f0, .int .i64 y.f1, .string y.f2] 38)) m) i
      obtain ⟨q1_, q2_, q3_, q4_⟩ := know (blk_new w1 (.cells #[.int .i64 y.f0, .int .i64 y.f1, .string y.f2] 38))
      clear hb1
      go_wp2_with fail
      go_quiet (fail)
      go_wp2_with fail
      go_ret
      exact ⟨rfl, pw_below_drewN HB1.out _⟩
end Go.Proofs.Ytncllbokeofdjaa.P

namespace Go.Proofs.Ytncllbokeofdjaa.P
open Go.RowKit Go.Proofs.YtncllbokeofdjaaW.PrintWords Go.Proofs.YtncllbokeofdjaaW.PrintLast Go.Proofs.YtncllbokeofdjaaW.PrintMore
set_option linter.unusedVariables false
theorem C_sole {α : Type} {d : Kd α} {W : World} {B T : Nat} {x : α} {cs : List Value} (h : W.heap[B]? = some (.cells cs.toArray T (0, 0))) (hk : d.K W x cs) (hl : cs.length = d.sz) : Kd.C d W (some ⟨B, 0, none⟩) 1 [x] := by
  refine ⟨rfl, by decide, fun _ => ⟨_, rfl, fun j l hj => ?_⟩⟩
  match j with
  | j + 1 => simp at hj
  | 0 =>
    simp at hj
    subst hj
    refine ⟨cs, hl, hk, fun i u hu => ?_⟩
    rw [Nat.zero_mul, add_plain, blk_cell h]
    simpa using hu
def ex8E : SEvent := ⟨⟨#[97]⟩, 0, [⟨0, 4, ⟨#[]⟩⟩]⟩
def ex8S : SSchema := ⟨⟨#[97]⟩, 1, [⟨⟨#[120]⟩, 0⟩]⟩
theorem ex8_five : holdsV ex8E (belowL 5) = true := by decide +kernel
theorem ex8_four : holdsV ex8E (belowL 4) = false := by decide +kernel
theorem ex8_kind : kindV ex8S (belowL 5) = (1, 0) := by decide +kernel
theorem ex8_may : mayO (belowL 5) = true := by decide +kernel
theorem ex8_bytes : bytesO (belowL 5) = [3, 1, 0, 0, 0, 10, 5] := by
  unfold bytesO
  rw [show (belowL 5).length = 3 from rfl, lePut_small (by decide)]
  have e1 : bytesP ⟨1, 0, zeroV⟩ = [1, 0] := by unfold bytesP; rw [if_neg (by decide), if_pos rfl]
  have e2 : bytesP ⟨0, 0, ⟨0, 5, ⟨#[]⟩⟩⟩ = [0, 0, 10] := by
    unfold bytesP bytesV
    rw [if_pos rfl, show numV ⟨0, 5, ⟨#[]⟩⟩ = 10 from by decide +kernel, lePut_small (by decide)]
    rfl
  have e3 : bytesP ⟨5, 0, zeroV⟩ = [5] := by unfold bytesP; rw [if_neg (by decide), if_neg (by decide)]
  unfold opsL belowL
  rw [List.map_cons, List.map_cons, List.map_cons, List.map_nil, e1, e2, e3]
  rfl
theorem ex8_get : gotO (getO [3, 1, 0, 0, 0, 10, 5]) = (belowL 5, 7, true) := by
  have h := getO_put (l := belowL 5) [] ex8_may (belowL_i64 (by decide))
  rw [List.append_nil, ex8_bytes] at h
  exact gotO_some h
theorem ex8_vals : ∀ v ∈ ex8E.f2, i64V v := by
  intro v hv
  rw [show ex8E.f2 = [⟨0, 4, ⟨#[]⟩⟩] from rfl, List.mem_singleton] at hv
  subst hv
  unfold i64V
  decide
theorem five_i64 : ∀ x ∈ belowL 5, i64V x.f2 := belowL_i64 (by decide)
theorem four_i64 : ∀ x ∈ belowL 4, i64V x.f2 := belowL_i64 (by decide)
set_option maxHeartbeats 8000000 in
set_option maxRecDepth 100000 in
theorem awake8_told (w : World) : Calls Try.prog 11 #[] w (boolPost true w) := by
  have HPUT := Aside0.mk (fun W A c hr hc => putO_told (belowL 5) A c W hr hc five_i64 ex8_may ((if_pos rfl).trans ex8_bytes))
  have HV := Aside0.mk (show Kd.C kValue ((w.alloc (.cells #[.int .i64 0, .int .i64 4, .string ⟨#[]⟩] 38)).alloc (.cells #[.string ⟨#[97]⟩, .int .i64 0, .slice (some ⟨w.heap.size, 0, none⟩) 1 1] 27)) (some ⟨w.heap.size, 0, none⟩) 1 ex8E.f2 from C_sole (T := 38) (cs := [.int .i64 0, .int .i64 4, .string ⟨#[]⟩]) (blk_alloc (blk_new w _) _) (kValue_mk _ ⟨0, 4, ⟨#[]⟩⟩) rfl)
  have HE := Aside0.mk (blk_new2 w (.cells #[.int .i64 0, .int .i64 4, .string ⟨#[]⟩] 38) (.cells #[.string ⟨#[97]⟩, .int .i64 0, .slice (some ⟨w.heap.size, 0, none⟩) 1 1] 27))
  have HB0 := Aside0.mk (below_alloc (below_alloc (Below.refl _ w) (.cells #[.int .i64 0, .int .i64 4, .string ⟨#[]⟩] 38)) (.cells #[.string ⟨#[97]⟩, .int .i64 0, .slice (some ⟨w.heap.size, 0, none⟩) 1 1] 27))
  go_enter Try.func11, Try.ntmps11
  go_wp2_with fail
  generalize (w.alloc (.cells #[.int .i64 0, .int .i64 4, .string ⟨#[]⟩] 38)).alloc (.cells #[.string ⟨#[97]⟩, .int .i64 0, .slice (some ⟨w.heap.size, 0, none⟩) 1 1] 27) = W0 at HV HE HB0 ⊢
  go_at_call 30
  refine (below_told 5 _).mono ?_
  rintro e w1 ⟨v1, rfl, ho1, hb1⟩
  obtain ⟨A1, c1, hv1, hc1, hr1⟩ := Kd.R_reads ho1
  subst hv1
  have HR1 := Aside0.mk hr1
  have HC1 := Aside0.mk hc1
  have HBY := Aside0.mk hb1
  clear ho1 hr1 hc1 hb1
  go_wp2_with fail
  go_at_call 19
  refine (HPUT.out _ A1 c1 HR1.out HC1.out).mono ?_
  rintro e w2 ⟨v2, rfl, ho2, hb2⟩
  obtain ⟨A2, c2, hv2, hc2, hr2⟩ := Own8.reads ho2
  subst hv2
  have HR2 := Aside0.mk hr2
  have HC2 := Aside0.mk hc2
  have HBY := Aside0.mk (below_step HBY.out hb2)
  clear ho2 hr2 hc2 hb2
  go_wp2_with fail
  go_at_call 21
  refine (getO_told _ A2 c2 [3, 1, 0, 0, 0, 10, 5] HR2.out HC2.out (by decide) (by decide) ex8_get).mono ?_
  rintro e w3 ⟨A3, c3, ⟨rfl, hc3, hr3⟩, hb3⟩
  have HC3 := Aside0.mk hc3
  have HF := Aside0.mk (show Kd.C kField (w3.alloc (.cells #[.string ⟨#[120]⟩, .int .i64 0] 63)) (some ⟨w3.heap.size, 0, none⟩) 1 ex8S.f2 from C_sole (T := 63) (cs := [.string ⟨#[120]⟩, .int .i64 0]) (blk_new w3 _) (kField_mk _ ⟨⟨#[120]⟩, 0⟩) rfl)
  have HBY := Aside0.mk (below_alloc (below_step HBY.out hb3) (.cells #[.string ⟨#[120]⟩, .int .i64 0] 63))
  have HL3 := Aside0.mk (Kd.C_alloc hr3 (.cells #[.string ⟨#[120]⟩, .int .i64 0] 63))
  clear hr3 hc3 hb3
  go_wp2_with fail
  generalize w3.alloc (.cells #[.string ⟨#[120]⟩, .int .i64 0] 63) = W3 at HF HBY HL3 ⊢
  go_at_call 30
  refine (below_told 5 _).mono ?_
  rintro e w4 ⟨v4, rfl, ho4, hb4⟩
  obtain ⟨A4, c4, hv4, hc4, hr4⟩ := Kd.R_reads ho4
  subst hv4
  have HR4 := Aside0.mk hr4
  have HC4 := Aside0.mk hc4
  have HBY := Aside0.mk (below_step HBY.out hb4)
  have HL3 := Aside0.mk (Kd.C_below HL3.out hb4)
  have HF := Aside0.mk (Kd.C_below HF.out hb4)
  clear ho4 hr4 hc4 hb4
  go_wp2_with fail
  go_at_call 15
  refine (kind_told ex8S (some ⟨w3.heap.size, 0, none⟩) 1 (belowL 5) A4 c4 _ HF.out (by decide) HR4.out HC4.out five_i64 ex8_kind).mono ?_
  rintro e w5 ⟨rfl, hb5⟩
  have HBY := Aside0.mk (below_step HBY.out hb5)
  have HL3 := Aside0.mk (Kd.C_below HL3.out hb5)
  have HE5 := Aside0.mk (blk_below HE.out HBY.out)
  have he0 := blk_cell HE5.out 0
  have he1 := blk_cell HE5.out 1
  have he2 := blk_cell HE5.out 2
  have HBY := Aside0.mk (below_drew HBY.out)
  have HL3 := Aside0.mk (Kd.C_drew HL3.out)
  clear hb5
  go_wp2_with fail
  go_region_held3 (fun w' => w'.cell? ⟨w.heap.size + 1, 0, none⟩ = some (.string ⟨#[97]⟩) ∧ w'.cell? ⟨w.heap.size + 1, 1, none⟩ = some (.int .i64 0) ∧ w'.cell? ⟨w.heap.size + 1, 2, none⟩ = some (.slice (some ⟨w.heap.size, 0, none⟩) 1 1))
    (first | go_keep | (go_split_ands; refine ⟨?_, ?_, ?_⟩ <;> (first | assumption | (exact blk_cell (blk_below HE.out HBY.out) 0) | (exact blk_cell (blk_below HE.out HBY.out) 1) | (exact blk_cell (blk_below HE.out HBY.out) 2))))
    (first
      | (go_at_call_of 30 (Value.int .i64 5); refine (below_told 5 _).mono ?_; rintro e w6 ⟨v6, rfl, ho6, hb6⟩; obtain ⟨A6, c6, hv6, hc6, hr6⟩ := Kd.R_reads ho6; subst hv6; have HR6 := Aside0.mk hr6; have HC6 := Aside0.mk hc6; have HBY := Aside0.mk (below_step HBY.out hb6); have HL3 := Aside0.mk (Kd.C_below HL3.out hb6); clear ho6 hr6 hc6)
      | (go_at_call_of 30 (Value.int .i64 4); refine (below_told 4 _).mono ?_; rintro e w8 ⟨v8, rfl, ho8, hb8⟩; obtain ⟨A8, c8, hv8, hc8, hr8⟩ := Kd.R_reads ho8; subst hv8; have HR8 := Aside0.mk hr8; have HC8 := Aside0.mk hc8; have HBY := Aside0.mk (below_step HBY.out hb8); have HL3 := Aside0.mk (Kd.C_below HL3.out hb8); clear ho8 hr8 hc8)
      | (go_at_call 25; refine (holds_told ex8E (some ⟨w.heap.size, 0, none⟩) 1 (belowL 5) A6 c6 _ (Kd.C_below HV.out HBY.out) (by decide) ex8_vals HR6.out HC6.out five_i64 ex8_five).mono ?_; rintro e w7 ⟨rfl, hb7⟩; have HBY := Aside0.mk (below_step HBY.out hb7); have HL3 := Aside0.mk (Kd.C_below HL3.out hb7))
      | (go_at_call 25; refine (holds_told ex8E (some ⟨w.heap.size, 0, none⟩) 1 (belowL 4) A8 c8 _ (Kd.C_below HV.out HBY.out) (by decide) ex8_vals HR8.out HC8.out four_i64 ex8_four).mono ?_; rintro e w9 ⟨rfl, hb9⟩; have HBY := Aside0.mk (below_step HBY.out hb9); have HL3 := Aside0.mk (Kd.C_below HL3.out hb9))
      | (go_at_call 26; refine (sameO_told (belowL 5) (belowL 5) A3 c3 A6 c6 _ HL3.out HC3.out HR6.out HC6.out (eqO_iff.2 rfl)).mono ?_; rintro e w11 ⟨rfl, hb11⟩; have HBY := Aside0.mk (below_step HBY.out hb11); have HL3 := Aside0.mk (Kd.C_below HL3.out hb11)))
  all_goals
    go_wp2_with fail
    go_ret
    exact ⟨rfl, below_step HB0.out HBY.out⟩
end Go.Proofs.Ytncllbokeofdjaa.P

namespace Go.Proofs.Ytncllbokeofdjaa.P
open Go.RowKit Go.Proofs.YtncllbokeofdjaaW.PrintWords Go.Proofs.YtncllbokeofdjaaW.PrintLast Go.Proofs.YtncllbokeofdjaaW.PrintMore
set_option linter.unusedVariables false
def cellsO (x : SOp) : List Value := [.int .i64 x.f0, .int .i64 x.f1, .int .i64 x.f2.f0, .int .i64 x.f2.f1, .string x.f2.f2]
theorem flat_five : ∀ (l : List SOp) (j i : Nat), i < 5 → (l.map cellsO).flatten[j * 5 + i]? = (l[j]?).bind fun x => (cellsO x)[i]?
  | [], j, i, _ => by simp
  | x :: l, 0, i, h => by
    rw [List.map_cons, List.flatten_cons, Nat.zero_mul, Nat.zero_add, List.getElem?_append_left (by simp [cellsO]; omega)]
    rfl
  | x :: l, j + 1, i, h => by
    rw [List.map_cons, List.flatten_cons, List.getElem?_append_right (by simp [cellsO]; omega)]
    rw [show (j + 1) * 5 + i - (cellsO x).length = j * 5 + i from by simp [cellsO]; omega, flat_five l j i h]
    rfl
theorem C_ops {W : World} {B T : Nat} (l : List SOp) (h : W.heap[B]? = some (.cells ((l.map cellsO).flatten.toArray) T (0, 0))) (hl : l.length ≤ 1000) : Kd.C kOp W (some ⟨B, 0, none⟩) l.length l := by
  refine ⟨rfl, by omega, fun _ => ⟨_, rfl, fun j x hj => ?_⟩⟩
  refine ⟨cellsO x, rfl, kOp_mk W x, fun i u hu => ?_⟩
  have hi : i < 5 := by have := (List.getElem?_eq_some_iff.1 hu).1; simpa [cellsO] using this
  rw [show kOp.sz = 5 from rfl, add_plain, blk_cell h]
  have := flat_five l j i hi
  rw [hj] at this
  rw [List.getElem?_toArray]
  first | (rw [this]; exact hu) | (rw [Nat.zero_add, this]; exact hu)
def ex0E : SEvent := ⟨⟨#[97]⟩, 0, []⟩
theorem ex0_may : mayE ex0E = true := by decide +kernel
theorem ex0_vals : ∀ v ∈ ex0E.f2, i64V v := fun _ h => by cases h
def sumL (code a b : Int) : List SOp := [⟨0, 0, ⟨0, a, ⟨#[]⟩⟩⟩, ⟨0, 0, ⟨0, b, ⟨#[]⟩⟩⟩, ⟨code, 0, zeroV⟩]
theorem sumL_i64 {code a b : Int} (ha : -9223372036854775808 ≤ a ∧ a ≤ 9223372036854775807) (hb : -9223372036854775808 ≤ b ∧ b ≤ 9223372036854775807) : ∀ x ∈ sumL code a b, i64V x.f2 := by
  intro x hx
  simp only [sumL, List.mem_cons, List.not_mem_nil, or_false] at hx
  rcases hx with rfl | rfl | rfl
  · exact ha
  · exact hb
  · exact okV_zero.2
theorem mayP_push {v : SValue} (h : mayV v = true) : mayP ⟨0, 0, v⟩ = true := mayP_iff.2 ⟨show (0 : Int) ≤ 0 by decide, show (0 : Int) < 10 by decide, show (0 : Int) ≤ 0 by decide, show (0 : Int) < 6 by decide, .inr rfl, .inl rfl, h⟩
theorem mayP_code {c : Int} (h0 : 0 ≤ c) (h1 : c < 10) : mayP ⟨c, 0, zeroV⟩ = true := mayP_iff.2 ⟨h0, h1, show (0 : Int) ≤ 0 by decide, show (0 : Int) < 6 by decide, .inr rfl, .inr rfl, okV_zero.1⟩
theorem mayV_num (n : Int) : mayV ⟨0, n, ⟨#[]⟩⟩ = true := mayV_iff.2 (.inl ⟨rfl, by show (⟨#[]⟩ : ByteArray).toList = []; decide +kernel⟩)
theorem sumL_may {code a b : Int} (h2 : 2 ≤ code) (h4 : code ≤ 4) : mayO (sumL code a b) = true := by
  refine mayO_iff.2 ⟨show 3 ≤ 12 by decide, fun x hx => ?_⟩
  simp only [sumL, List.mem_cons, List.not_mem_nil, or_false] at hx
  rcases hx with rfl | rfl | rfl
  · exact mayP_push (mayV_num a)
  · exact mayP_push (mayV_num b)
  · exact mayP_code (by omega) (by omega)
theorem stepV_top (v : List SValue) (k : Bool) {c : Int} (x : Int) (f : SValue) (q : List SValue) (a b : SValue) (h0 : c ≠ 0) (h1 : c ≠ 1) (h9 : c ≠ 9) : stepV v k ⟨c, x, f⟩ (q ++ [a, b]) = (match twoV c a b with | .ok y => .ok (q ++ [y]) | .error e => if k = true ∧ e = 6 then .ok (q ++ [zeroV]) else .error e) := by
  unfold stepV
  have hl : (q ++ [a, b]).length = q.length + 2 := by simp
  have g0 : (q ++ [a, b]).getD (q.length + 2 - 2) zValue = a := by simp [List.getD]
  have g1 : (q ++ [a, b]).getD (q.length + 2 - 1) zValue = b := by simp [List.getD]
  have g2 : (q ++ [a, b]).take (q.length + 2 - 2) = q := by simp
  simp only [hl, g0, g1, g2]
  rw [if_neg h0, if_neg h1, if_neg h9, if_neg (by omega)]
  rfl
theorem stepV_push (v : List SValue) (k : Bool) (a : Int) (x : SValue) (q : List SValue) : stepV v k ⟨0, a, x⟩ q = .ok (q ++ [x]) := rfl
theorem sumL_eval {code a b : Int} (h2 : 2 ≤ code) (h4 : code ≤ 4) : evalV ex0E (sumL code a b) = (match sumV code a b with | some n => (⟨0, n, ⟨#[]⟩⟩, 0) | none => (zeroV, 6)) := by
  unfold evalV
  rw [if_pos ⟨sumL_may h2 h4, ex0_may⟩]
  unfold sumL
  rw [runV_cons (stepV_push _ _ _ _ _), runV_cons (stepV_push _ _ _ _ _)]
  have s3 := stepV_top ex0E.f2 false 0 zeroV [] ⟨0, a, ⟨#[]⟩⟩ ⟨0, b, ⟨#[]⟩⟩ (c := code) (by omega) (by omega) (by omega)
  have ht : twoV code ⟨0, a, ⟨#[]⟩⟩ ⟨0, b, ⟨#[]⟩⟩ = (match sumV code a b with | some n => .ok ⟨0, n, ⟨#[]⟩⟩ | none => .error 6) := by
    unfold twoV
    rw [if_neg (by simp), if_neg (by omega), if_neg (by omega), if_neg (by omega), if_pos rfl]
    simp only []
    cases sumV code a b <;> rfl
  rw [ht] at s3
  show endV (runV ex0E.f2 false [⟨code, 0, zeroV⟩] ([] ++ [⟨0, a, ⟨#[]⟩⟩, ⟨0, b, ⟨#[]⟩⟩])) = _
  cases hs : sumV code a b with
  | none => rw [hs] at s3; rw [runV_stop (e := 6) (by rw [s3]; rfl)]; rfl
  | some n => rw [hs] at s3; rw [runV_cons s3]; rfl
theorem sum_small {code a b : Int} (ha : -1073741824 < a ∧ a < 1073741824) (hb : -1073741824 < b ∧ b < 1073741824) : sumV code a b ≠ none := by
  intro h
  apply sumV_none h
  unfold arith
  split
  · omega
  split
  · omega
  · have h1 : a.natAbs * b.natAbs ≤ 1073741824 * 1073741824 := Nat.mul_le_mul (by omega) (by omega)
    have h2 : (a * b).natAbs = a.natAbs * b.natAbs := Int.natAbs_mul a b
    omega
end Go.Proofs.Ytncllbokeofdjaa.P

namespace Go.Proofs.Ytncllbokeofdjaa.P
open Go.RowKit Go.Proofs.YtncllbokeofdjaaW.PrintWords Go.Proofs.YtncllbokeofdjaaW.PrintLast Go.Proofs.YtncllbokeofdjaaW.PrintMore
attribute [local go_sem] max2_int min2_int max_two min_two max_three min_three max_four min_four   -- for this text's walks alone
set_option linter.unusedVariables false
set_option linter.unusedSimpArgs false
def ExprSums.Stmt : Prop := ∀ (W : World) (x0 : Int) (w0 : (Lit.int .i64 x0).wf = true) (x1 : Int) (w1 : (Lit.int .i64 x1).wf = true) (x2 : Int) (w2 : (Lit.int .i64 x2).wf = true),
    Calls Try.prog 5 #[.int .i64 x0, .int .i64 x1, .int .i64 x2] W fun e w' => e = .returned (.bool true) ∧ Below W.heap.size W w'
end Go.Proofs.Ytncllbokeofdjaa.P

namespace Go.Proofs.Ytncllbokeofdjaa.P
open Go.RowKit Go.Proofs.YtncllbokeofdjaaW.PrintWords Go.Proofs.YtncllbokeofdjaaW.PrintLast Go.Proofs.YtncllbokeofdjaaW.PrintMore
set_option linter.unusedVariables false
set_option linter.unusedSimpArgs false
attribute [local go_sem high] eqAValue
set_option maxHeartbeats 40000000 in
set_option maxRecDepth 100000 in
theorem ExprSums.walk : ExprSums.Stmt := by
  intro W x0 w0 x1 w1 x2 w2
  have ha := lit_i64 w0
  have hb := lit_i64 w1
  clear w0 w1 w2
  by_cases hc : 2 ≤ x2 ∧ x2 ≤ 4
  · obtain ⟨h2, h4⟩ := hc
    have hl2 : ¬ x2 < 2 := by omega
    have hl4 : ¬ x2 > 4 := by omega
    have hd2 : decide (x2 < 2) = false := decide_eq_false hl2
    have hd4 : decide (4 < x2) = false := decide_eq_false (by omega)
    have HWL := Aside0.mk (sumL_i64 (code := x2) ha hb)
    have hev := sumL_eval (a := x0) (b := x1) h2 h4
    have hsm := @sum_small x2 x0 x1
    have hsmall : (¬ x0 < 1073741824) ∨ (x0 < 1073741824 ∧ ¬ x0 > -1073741824) ∨ (x0 < 1073741824 ∧ x0 > -1073741824 ∧ ¬ x1 < 1073741824) ∨ (x0 < 1073741824 ∧ x0 > -1073741824 ∧ x1 < 1073741824 ∧ ¬ x1 > -1073741824) ∨ (x0 < 1073741824 ∧ x0 > -1073741824 ∧ x1 < 1073741824 ∧ x1 > -1073741824) := by omega
    cases hs : sumV x2 x0 x1 with
    | none =>
      rw [hs] at hev
      obtain ⟨y, hy⟩ : ∃ y : SValue, zeroV = y := ⟨_, rfl⟩
      have HEV := Aside0.mk (show evalV ex0E (sumL x2 x0 x1) = (y, 6) from by rw [hev, ← hy])
      have heq : (y.f0 == 0 && (y.f1 == 0 && y.f2.toList.isEmpty)) = true := by rw [← hy]; decide +kernel
      clear hev ha hb hy
      rcases hsmall with s1 | ⟨s1, s2⟩ | ⟨s1, s2, s3⟩ | ⟨s1, s2, s3, s4⟩ | ⟨s1, s2, s3, s4⟩
      rotate_left 4
      · exact absurd hs (hsm ⟨by omega, by omega⟩ ⟨by omega, by omega⟩)
      all_goals
        clear hsm hs
        go_enter Try.func5, Try.ntmps5
        go_wp2_with fail
        go_at_call 11
        refine (awake8_told _).mono ?_
        rintro e w1 ⟨rfl, hb1⟩
        have HB1 := Aside0.mk hb1
        clear hb1
        go_wp2_with fail
        have HL1 := Aside0.mk (show Kd.C kOp (w1.alloc (.cells #[.int .i64 0, .int .i64 0, .int .i64 0, .int .i64 x0, .string ⟨#[]⟩, .int .i64 0, .int .i64 0, .int .i64 0, .int .i64 x1, .string ⟨#[]⟩, .int .i64 x2, .int .i64 0, .int .i64 0, .int .i64 0, .string ⟨#[]⟩] 50)) (some ⟨w1.heap.size, 0, none⟩) (sumL x2 x0 x1).length (sumL x2 x0 x1) from C_ops (T := 50) _ (blk_new w1 _) (by show 3 ≤ 1000; decide))
        go_at_call 17
        refine (eval_told ex0E none 0 (sumL x2 x0 x1) (some ⟨w1.heap.size, 0, none⟩) 3 _ (Kd.C_nil _ _) (Nat.le_refl _) ex0_vals HL1.out (by show 3 ≤ 3; decide) HWL.out HEV.out).mono ?_
        rintro e w2 ⟨rfl, hb2⟩
        have HB2 := Aside0.mk (below_alloc (below_step (below_alloc HB1.out (.cells #[.int .i64 0, .int .i64 0, .int .i64 0, .int .i64 x0, .string ⟨#[]⟩, .int .i64 0, .int .i64 0, .int .i64 0, .int .i64 x1, .string ⟨#[]⟩, .int .i64 x2, .int .i64 0, .int .i64 0, .int .i64 0, .string ⟨#[]⟩] 50)) hb2) (.cells #[.int .i64 y.f0, .int .i64 y.f1, .string y.f2] 38))
        obtain ⟨q1_, q2_, q3_, q4_⟩ := know (blk_new w2 (.cells #[.int .i64 y.f0, .int .i64 y.f1, .string y.f2] 38))
        clear hb2
        go_wp2_with fail
        go_ret
        exact ⟨by first | rfl | (simp; omega) | (simp [*]; omega), HB2.out⟩
    | some n =>
      rw [hs] at hev
      have HEV := Aside0.mk (show evalV ex0E (sumL x2 x0 x1) = (⟨0, n, ⟨#[]⟩⟩, 0) from hev)
      obtain ⟨y, hy⟩ : ∃ y : SValue, (⟨0, n, ⟨#[]⟩⟩ : SValue) = y := ⟨_, rfl⟩
      rw [hy] at HEV
      have hy1 : y.f1 = n := by rw [← hy]
      obtain ⟨hn, hn1, hn2⟩ := sumV_some hs
      clear hev hy hsm hs
      have hcode : x2 = 2 ∨ x2 = 3 ∨ x2 = 4 := by omega
      rcases hcode with hcc | hcc | hcc
      · rw [hcc, arith2] at hn
        have hk2 : (x2 == 2) = true := beq_iff_eq.2 hcc
        clear hcc hl2 hl4 h2 h4
        have hw : IntKind.i64.wrap (y.f1 - x1) = x0 := by rw [hy1, IntWalk.i64_in _ (by omega)]; omega
        have hge : (decide (x1 ≥ 0) == decide (y.f1 ≥ x0)) = true := by rw [hy1, beq_iff_eq, decide_eq_decide]; omega
        have hge2 : (decide (0 ≤ x1) == decide (x0 ≤ y.f1)) = true := hge
        clear hn hn1 hn2 hy1 ha hb
        rcases hsmall with s1 | ⟨s1, s2⟩ | ⟨s1, s2, s3⟩ | ⟨s1, s2, s3, s4⟩ | ⟨s1, s2, s3, s4⟩
        all_goals
          go_enter Try.func5, Try.ntmps5
          go_wp2_with fail
          go_at_call 11
          refine (awake8_told _).mono ?_
          rintro e w1 ⟨rfl, hb1⟩
          have HB1 := Aside0.mk hb1
          clear hb1
          go_wp2_with fail
          have HL1 := Aside0.mk (show Kd.C kOp (w1.alloc (.cells #[.int .i64 0, .int .i64 0, .int .i64 0, .int .i64 x0, .string ⟨#[]⟩, .int .i64 0, .int .i64 0, .int .i64 0, .int .i64 x1, .string ⟨#[]⟩, .int .i64 x2, .int .i64 0, .int .i64 0, .int .i64 0, .string ⟨#[]⟩] 50)) (some ⟨w1.heap.size, 0, none⟩) (sumL x2 x0 x1).length (sumL x2 x0 x1) from C_ops (T := 50) _ (blk_new w1 _) (by show 3 ≤ 1000; decide))
          go_at_call 17
          refine (eval_told ex0E none 0 (sumL x2 x0 x1) (some ⟨w1.heap.size, 0, none⟩) 3 _ (Kd.C_nil _ _) (Nat.le_refl _) ex0_vals HL1.out (by show 3 ≤ 3; decide) HWL.out HEV.out).mono ?_
          rintro e w2 ⟨rfl, hb2⟩
          have HB2 := Aside0.mk (below_alloc (below_step (below_alloc HB1.out (.cells #[.int .i64 0, .int .i64 0, .int .i64 0, .int .i64 x0, .string ⟨#[]⟩, .int .i64 0, .int .i64 0, .int .i64 0, .int .i64 x1, .string ⟨#[]⟩, .int .i64 x2, .int .i64 0, .int .i64 0, .int .i64 0, .string ⟨#[]⟩] 50)) hb2) (.cells #[.int .i64 y.f0, .int .i64 y.f1, .string y.f2] 38))
          obtain ⟨q1_, q2_, q3_, q4_⟩ := know (blk_new w2 (.cells #[.int .i64 y.f0, .int .i64 y.f1, .string y.f2] 38))
          clear hb2
          go_wp2_with fail
          go_ret
          exact ⟨by first | rfl | simp [hge2], HB2.out⟩
      · rw [hcc, arith3] at hn
        have hk2 : (x2 == 2) = false := beq_eq_false_iff_ne.2 (by omega)
        have hk3 : (x2 == 3) = true := beq_iff_eq.2 hcc
        clear hcc hl2 hl4 h2 h4
        have hw : IntKind.i64.wrap (y.f1 + x1) = x0 := by rw [hy1, IntWalk.i64_in _ (by omega)]; omega
        have hge : (decide (x1 ≥ 0) == decide (y.f1 ≤ x0)) = true := by rw [hy1, beq_iff_eq, decide_eq_decide]; omega
        have hge2 : (decide (0 ≤ x1) == decide (y.f1 ≤ x0)) = true := hge
        clear hn hn1 hn2 hy1 ha hb
        rcases hsmall with s1 | ⟨s1, s2⟩ | ⟨s1, s2, s3⟩ | ⟨s1, s2, s3, s4⟩ | ⟨s1, s2, s3, s4⟩
        all_goals
          go_enter Try.func5, Try.ntmps5
          go_wp2_with fail
          go_at_call 11
          refine (awake8_told _).mono ?_
          rintro e w1 ⟨rfl, hb1⟩
          have HB1 := Aside0.mk hb1
          clear hb1
          go_wp2_with fail
          have HL1 := Aside0.mk (show Kd.C kOp (w1.alloc (.cells #[.int .i64 0, .int .i64 0, .int .i64 0, .int .i64 x0, .string ⟨#[]⟩, .int .i64 0, .int .i64 0, .int .i64 0, .int .i64 x1, .string ⟨#[]⟩, .int .i64 x2, .int .i64 0, .int .i64 0, .int .i64 0, .string ⟨#[]⟩] 50)) (some ⟨w1.heap.size, 0, none⟩) (sumL x2 x0 x1).length (sumL x2 x0 x1) from C_ops (T := 50) _ (blk_new w1 _) (by show 3 ≤ 1000; decide))
          go_at_call 17
          refine (eval_told ex0E none 0 (sumL x2 x0 x1) (some ⟨w1.heap.size, 0, none⟩) 3 _ (Kd.C_nil _ _) (Nat.le_refl _) ex0_vals HL1.out (by show 3 ≤ 3; decide) HWL.out HEV.out).mono ?_
          rintro e w2 ⟨rfl, hb2⟩
          have HB2 := Aside0.mk (below_alloc (below_step (below_alloc HB1.out (.cells #[.int .i64 0, .int .i64 0, .int .i64 0, .int .i64 x0, .string ⟨#[]⟩, .int .i64 0, .int .i64 0, .int .i64 0, .int .i64 x1, .string ⟨#[]⟩, .int .i64 x2, .int .i64 0, .int .i64 0, .int .i64 0, .string ⟨#[]⟩] 50)) hb2) (.cells #[.int .i64 y.f0, .int .i64 y.f1, .string y.f2] 38))
          obtain ⟨q1_, q2_, q3_, q4_⟩ := know (blk_new w2 (.cells #[.int .i64 y.f0, .int .i64 y.f1, .string y.f2] 38))
          clear hb2
          go_wp2_with fail
          go_ret
          exact ⟨by first | rfl | simp [hge2], HB2.out⟩
      · rw [arithT (by omega) (by omega)] at hn
        have hk2 : (x2 == 2) = false := beq_eq_false_iff_ne.2 (by omega)
        have hk3 : (x2 == 3) = false := beq_eq_false_iff_ne.2 (by omega)
        clear hcc hl2 hl4 h2 h4
        by_cases hz : x1 = 0
        · rw [hz, Int.mul_zero] at hn
          have hzb : (x1 == 0) = true := beq_iff_eq.2 hz
          have hzn : (x1 != 0) = false := by rw [hz]; rfl
          have hsz : ¬ (1073741824 ≤ x1) ∧ -1073741824 < x1 := by omega
          have hyz : (y.f1 == 0) = true := by rw [hy1, hn]; rfl
          clear hn hn1 hn2 hy1 ha hb
          clear hz hsz
          rcases hsmall with s1 | ⟨s1, s2⟩ | ⟨s1, s2, s3⟩ | ⟨s1, s2, s3, s4⟩ | ⟨s1, s2, s3, s4⟩
          all_goals
            go_enter Try.func5, Try.ntmps5
            go_wp2_with fail
            go_at_call 11
            refine (awake8_told _).mono ?_
            rintro e w1 ⟨rfl, hb1⟩
            have HB1 := Aside0.mk hb1
            clear hb1
            go_wp2_with fail
            have HL1 := Aside0.mk (show Kd.C kOp (w1.alloc (.cells #[.int .i64 0, .int .i64 0, .int .i64 0, .int .i64 x0, .string ⟨#[]⟩, .int .i64 0, .int .i64 0, .int .i64 0, .int .i64 x1, .string ⟨#[]⟩, .int .i64 x2, .int .i64 0, .int .i64 0, .int .i64 0, .string ⟨#[]⟩] 50)) (some ⟨w1.heap.size, 0, none⟩) (sumL x2 x0 x1).length (sumL x2 x0 x1) from C_ops (T := 50) _ (blk_new w1 _) (by show 3 ≤ 1000; decide))
            go_at_call 17
            refine (eval_told ex0E none 0 (sumL x2 x0 x1) (some ⟨w1.heap.size, 0, none⟩) 3 _ (Kd.C_nil _ _) (Nat.le_refl _) ex0_vals HL1.out (by show 3 ≤ 3; decide) HWL.out HEV.out).mono ?_
            rintro e w2 ⟨rfl, hb2⟩
            have HB2 := Aside0.mk (below_alloc (below_step (below_alloc HB1.out (.cells #[.int .i64 0, .int .i64 0, .int .i64 0, .int .i64 x0, .string ⟨#[]⟩, .int .i64 0, .int .i64 0, .int .i64 0, .int .i64 x1, .string ⟨#[]⟩, .int .i64 x2, .int .i64 0, .int .i64 0, .int .i64 0, .string ⟨#[]⟩] 50)) hb2) (.cells #[.int .i64 y.f0, .int .i64 y.f1, .string y.f2] 38))
            obtain ⟨q1_, q2_, q3_, q4_⟩ := know (blk_new w2 (.cells #[.int .i64 y.f0, .int .i64 y.f1, .string y.f2] 38))
            clear hb2
            go_wp2_with fail
            go_ret
            exact ⟨by first | rfl | simp [hyz], HB2.out⟩
        · have hzb : (x1 == 0) = false := beq_eq_false_iff_ne.2 hz
          have hzn : (x1 != 0) = true := bne_iff_ne.2 hz
          have hq : Int.tdiv y.f1 x1 = x0 := by rw [hy1, hn, Int.mul_tdiv_cancel x0 hz]
          have hqw : IntKind.i64.wrap (Int.tdiv y.f1 x1) = x0 := by rw [hq]; exact IntWalk.i64_in _ (by omega)
          have hwx : IntKind.i64.wrap x0 = x0 := IntWalk.i64_in _ (by omega)
          clear hq
          have hr : Int.tmod y.f1 x1 = 0 := by rw [hy1, hn]; exact Int.mul_tmod_left x0 x1
          have hrw : IntKind.i64.wrap (Int.tmod y.f1 x1) = 0 := by rw [hr]; rfl
          clear hn hn1 hn2 hy1 ha hb
          rcases hsmall with s1 | ⟨s1, s2⟩ | ⟨s1, s2, s3⟩ | ⟨s1, s2, s3, s4⟩ | ⟨s1, s2, s3, s4⟩
          all_goals
            go_enter Try.func5, Try.ntmps5
            go_wp2_with fail
            go_at_call 11
            refine (awake8_told _).mono ?_
            rintro e w1 ⟨rfl, hb1⟩
            have HB1 := Aside0.mk hb1
            clear hb1
            go_wp2_with fail
            have HL1 := Aside0.mk (show Kd.C kOp (w1.alloc (.cells #[.int .i64 0, .int .i64 0, .int .i64 0, .int .i64 x0, .string ⟨#[]⟩, .int .i64 0, .int .i64 0, .int .i64 0, .int .i64 x1, .string ⟨#[]⟩, .int .i64 x2, .int .i64 0, .int .i64 0, .int .i64 0, .string ⟨#[]⟩] 50)) (some ⟨w1.heap.size, 0, none⟩) (sumL x2 x0 x1).length (sumL x2 x0 x1) from C_ops (T := 50) _ (blk_new w1 _) (by show 3 ≤ 1000; decide))
            go_at_call 17
            refine (eval_told ex0E none 0 (sumL x2 x0 x1) (some ⟨w1.heap.size, 0, none⟩) 3 _ (Kd.C_nil _ _) (Nat.le_refl _) ex0_vals HL1.out (by show 3 ≤ 3; decide) HWL.out HEV.out).mono ?_
            rintro e w2 ⟨rfl, hb2⟩
            have HB2 := Aside0.mk (below_alloc (below_step (below_alloc HB1.out (.cells #[.int .i64 0, .int .i64 0, .int .i64 0, .int .i64 x0, .string ⟨#[]⟩, .int .i64 0, .int .i64 0, .int .i64 0, .int .i64 x1, .string ⟨#[]⟩, .int .i64 x2, .int .i64 0, .int .i64 0, .int .i64 0, .string ⟨#[]⟩] 50)) hb2) (.cells #[.int .i64 y.f0, .int .i64 y.f1, .string y.f2] 38))
            obtain ⟨q1_, q2_, q3_, q4_⟩ := know (blk_new w2 (.cells #[.int .i64 y.f0, .int .i64 y.f1, .string y.f2] 38))
            clear hb2
            go_wp2_with fail
            go_ret
            exact ⟨by first | rfl | simp [*], HB2.out⟩
  · have hcl : x2 < 2 ∨ (¬ x2 < 2 ∧ x2 > 4) := by omega
    clear ha hb hc
    rcases hcl with h2 | ⟨h2, h4⟩
    all_goals
      go_enter Try.func5, Try.ntmps5
      go_wp2_with fail
      go_at_call 11
      refine (awake8_told _).mono ?_
      rintro e w1 ⟨rfl, hb1⟩
      go_wp2_with fail
      go_ret
      exact ⟨rfl, hb1⟩
end Go.Proofs.Ytncllbokeofdjaa.P
