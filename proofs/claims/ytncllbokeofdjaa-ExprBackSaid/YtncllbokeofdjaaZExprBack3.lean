/- What ExprBack's row stands on: words, contracts of the functions that it reaches, plain facts, its walk (part 3): no condition but those that each theorem names. -/
import Derived.Test.YtncllbokeofdjaaZExprBack2
set_option linter.unusedVariables false
set_option linter.unusedSimpArgs false
namespace Go.Proofs.Ytncllbokeofdjaa.P
open Go.RowKit Go.Proofs.YtncllbokeofdjaaW.PrintWords Go.Proofs.YtncllbokeofdjaaW.PrintLast Go.Proofs.YtncllbokeofdjaaW.PrintMore
attribute [local go_sem] max2_int min2_int max_two min_two max_three min_three max_four min_four   -- for this text's walks alone
set_option linter.unusedVariables false
set_option linter.unusedSimpArgs false
def takePost (w0 : World) (B n : Nat) (V : Value) (k : Bool) (xs : List SValue) (w : World) (e : Ending) (w' : World) : Prop := ∃ A c, (e = .returned (.tuple #[.slice (some A) n c, .bool true]) ∧ n ≤ c ∧ Kd.C kThing w' (some A) n (xs.drop (xs.length - n))) ∧ pileRel w0 B V k (xs.take (xs.length - n)) w' ∧ Spares (fun i => i = B) w w'
set_option maxHeartbeats 1000000 in
set_option maxRecDepth 100000 in
theorem take_no (w0 : World) (B n : Nat) (V : Value) (k : Bool) (xs : List SValue) (w : World) (h : pileRel w0 B V k xs w) (hn : xs.length < n) (hn2 : n ≤ 2) :
    Calls Try.prog 78 #[.pointer (some ⟨B, 0, none⟩), .int .i64 (n : Int)] w fun e w' => e = .returned (.tuple #[.slice none 0 0, .bool false]) ∧ w' = w := by
  have HH := Aside0.mk h
  obtain ⟨v, hb, ho, hs⟩ := h
  obtain ⟨A, c, rfl⟩ := Kd.R_slice ho
  unfold pileBlk at hb
  obtain ⟨k1, k2, k3, k4⟩ := know hb
  have hw : IntKind.i64.wrap ((xs.length : Int) - (n : Int)) = (xs.length : Int) - (n : Int) := IntWalk.i64_in _ (by omega)
  have hd : decide ((xs.length : Int) - (n : Int) < 0) = true := decide_eq_true (by omega)
  have hd2 : (xs.length : Int) - (n : Int) < 0 := by omega
  clear ho hs hb hn hn2
  go_enter Try.func78, Try.ntmps78
  go_wp2
  go_ret2
  exact ⟨rfl, rfl⟩
set_option maxHeartbeats 1000000 in
set_option maxRecDepth 100000 in
theorem take_told (w0 : World) (B n : Nat) (V : Value) (k : Bool) (xs : List SValue) (w : World) (h : pileRel w0 B V k xs w) (hB : B < w0.heap.size) (hn0 : 1 ≤ n) (hn2 : n ≤ 2) (hl : xs.length ≤ 1000) (hle : n ≤ xs.length) :
    Calls Try.prog 78 #[.pointer (some ⟨B, 0, none⟩), .int .i64 (n : Int)] w (takePost w0 B n V k xs w) := by
  obtain ⟨v, hb, ho, hs⟩ := h
  obtain ⟨A, c, rfl, hc, hr⟩ := Kd.R_reads ho
  obtain ⟨i0, hi0, _, hsz0, _⟩ := info_parts infoThing
  obtain ⟨m, hm⟩ : ∃ m, xs.length = m + n := ⟨xs.length - n, by omega⟩
  obtain ⟨A', hcut, hC', hlc⟩ := drop_row (P := Try.prog) (d := kThing) Try.underlying65 hi0 hsz0 A c xs m (m : Int) rfl (by omega) hc
  obtain ⟨hcut2, hC2⟩ := take_row (P := Try.prog) (d := kThing) Try.underlying65 hi0 A c xs m (m : Int) rfl (by omega) hc
  have hln : (xs.drop m).length = n := by rw [List.length_drop]; omega
  rw [hln] at hcut hC' hlc
  have hrow := hC' w hr
  obtain ⟨a, rfl⟩ : ∃ a, A' = some a := by
    obtain ⟨ad, e, _⟩ := hrow.2.2 (by omega)
    exact ⟨ad, e⟩
  have HROW := Aside0.mk hrow
  have HO := Aside0.mk ho
  have HS := Aside0.mk hs
  have HK := Aside0.mk hb
  unfold takePost
  rw [show xs.length - n = m from by omega]
  have HT := Aside0.mk (Kd.R_take (m := m) ho (by omega))
  unfold pileBlk at hb
  obtain ⟨k1, k2, k3, k4⟩ := know hb
  have hw : IntKind.i64.wrap ((xs.length : Int) - (n : Int)) = (m : Int) := by rw [IntWalk.i64_in _ (by omega)]; omega
  have hm0 : ¬ (m : Int) < 0 := by omega
  have hn1000 : n ≤ 1000 := by omega
  clear ho hs hb hC' hC2 hlc hi0 hsz0 hr hrow hm
  go_enter Try.func78, Try.ntmps78
  go_wp2_with (go_at_call 86; refine (cloneTh_told a n _ (xs.drop m) _ HROW.out hn1000).mono ?_; rintro e w1 ⟨v1, rfl, ho1, hb1⟩; obtain ⟨A1, c1, hv1, hc1, hr1⟩ := Kd.R_reads ho1; rw [hln] at hv1 hc1 hr1; subst hv1; have HC1 := Aside0.mk hc1; have HR1 := Aside0.mk hr1; have HOR := Aside0.mk ho1; have HB1 := Aside0.mk hb1; have HK1 := Aside0.mk (blk_below HK.out hb1); obtain ⟨j1, j2, j3, j4⟩ := know HK1.out; clear ho1 hb1 hc1 hr1 k1 k2 k3 k4)
  go_ret2
  have hb : A1 ≠ none := by
    rintro rfl
    obtain ⟨ad, e, _⟩ := HR1.out.2.2 (by omega)
    cases e
  obtain ⟨a1, rfl⟩ := Option.ne_none_iff_exists'.1 hb
  refine ⟨a1, c1, ⟨rfl, HC1.out, ?_⟩, pile_put HK1.out (Kd.R_below HT.out HB1.out) (HS.out.step HB1.out), Spares.set (S := fun i => i = B) (Spares.of_below HB1.out) (g := B) 0 (.inl rfl) _⟩
  have hfin := (Kd.R_reads' (Kd.R_set HOR.out HK1.out thing_types 0 (.slice A m c))).2.2
  rwa [hln] at hfin
end Go.Proofs.Ytncllbokeofdjaa.P

namespace Go.Proofs.Ytncllbokeofdjaa.P
open Go.RowKit Go.Proofs.YtncllbokeofdjaaW.PrintWords Go.Proofs.YtncllbokeofdjaaW.PrintLast Go.Proofs.YtncllbokeofdjaaW.PrintMore
attribute [local go_sem] max2_int min2_int max_two min_two max_three min_three max_four min_four   -- for this text's walks alone
set_option linter.unusedVariables false
set_option linter.unusedSimpArgs false
def cmp_isNaN_int.f (a0 : Int) : Option (Bool) := some (a0 != a0)
set_option maxHeartbeats 8000000 in
set_option maxRecDepth 100000 in
theorem cmp_isNaN_int.calls (a0 : Int) (r : Bool) (w : World) (h : cmp_isNaN_int.f a0 = some r) :
    Calls Try.prog 70 #[.int .i64 a0] w fun e w' => e = .returned (.bool r) ∧ Drawn0 w w' := by
  have H : (some (a0 != a0)) = some r := h
  clear h
  obtain rfl := Option.some.inj H
  go_enter Try.func70, Try.ntmps70
  go_wp2
  go_ret
  exact ⟨by first | rfl | (simp; done) | (simp [*]; done), by repeat (first | exact Drawn0.refl _ | apply Drawn0.step)⟩
end Go.Proofs.Ytncllbokeofdjaa.P

namespace Go.Proofs.Ytncllbokeofdjaa.P
open Go.RowKit Go.Proofs.YtncllbokeofdjaaW.PrintWords Go.Proofs.YtncllbokeofdjaaW.PrintLast Go.Proofs.YtncllbokeofdjaaW.PrintMore
attribute [local go_sem] max2_int min2_int max_two min_two max_three min_three max_four min_four   -- for this text's walks alone
set_option linter.unusedVariables false
set_option linter.unusedSimpArgs false
def cmp_Or_int.l0 : Nat → Int → List Int → Int → Int → Option (Int)
  | 0, _, _, _, _ => none
  | k + 1, x3, x6, x7, x8 => if x8 < x7 then (if 0 ≤ x8 then (if x8 < (x6.length : Int) then (if (rd x6 x8) = x3 then (cmp_Or_int.l0 k x3 x6 x7 (wrap64 (x8 + 1))) else (some (rd x6 x8))) else (none)) else (none)) else (some x3)
def cmp_Or_int.f (k : Nat) (l0 : List Int) : Option (Int) := cmp_Or_int.l0 k 0 l0 (l0.length : Int) 0
set_option maxHeartbeats 8000000 in
set_option maxRecDepth 100000 in
theorem cmp_Or_int.calls (k : Nat) (A0 : Option Addr) (c0 : Nat) (l0 : List Int) (r : Int) (w : World) (hr0 : Kd.C (Kd.int .i64) w A0 l0.length l0) (hc0 : l0.length ≤ c0) (h : cmp_Or_int.f k l0 = some r) :
    Calls Try.prog 50 #[.slice A0 l0.length c0] w fun e w' => e = .returned (.int .i64 r) ∧ Drawn0 w w' := by
  have HR0 := Aside0.mk hr0
  have HC0 := Aside0.mk hc0
  clear hr0 hc0
  have H : (cmp_Or_int.l0 k 0 l0 (l0.length : Int) 0) = some r := h
  clear h
  have H' := Aside0.mk H
  clear H
  go_enter Try.func50, Try.ntmps50
  go_wp2
  go_loopg [8] k (fun kq v8 w' => ∃ (x8_1 : Int), v8 = .int .i64 x8_1 ∧ Aside0 (cmp_Or_int.l0 kq 0 l0 (l0.length : Int) x8_1 = some r) ∧ Aside0 (kq ≤ k) ∧ Drawn0 w w')
  case atStart => exact ⟨(0), (by first | rfl | (simp; done) | (simp [*]; done)), H', ⟨Nat.le_refl _⟩, by repeat (first | exact Drawn0.refl _ | apply Drawn0.step)⟩
  case round =>
    clear H'
    obtain ⟨x8_1, rfl, HA, HK1, ⟨m1, rfl⟩⟩ := hrel
    cases gk with
    | zero => exact absurd HA.out (by simp [cmp_Or_int.l0])
    | succ k1 =>
      have H := HA.out
      clear HA
      simp only [cmp_Or_int.l0] at H
      by_cases c2 : x8_1 < (l0.length : Int)
      · rw [if_pos c2] at H
        have c2b0 : decide (x8_1 < (l0.length : Int)) = true := decide_eq_true c2
        clear c2
        by_cases c3 : 0 ≤ x8_1
        · rw [if_pos c3] at H
          have c3b0 : decide (0 ≤ x8_1) = true := decide_eq_true c3
          clear c3
          by_cases c4 : x8_1 < (l0.length : Int)
          · rw [if_pos c4] at H
            have c4b0 : decide (x8_1 < (l0.length : Int)) = true := decide_eq_true c4
            clear c4
            by_cases c5 : (rd l0 x8_1) = 0
            · rw [if_pos c5] at H
              have c5b0 : ((rd l0 x8_1) == 0) = true := beq_iff_eq.mpr c5
              have c5b1 : ((rd l0 x8_1) != 0) = false := bne_eq_false_iff_eq.mpr c5
              clear c5
              have H' := Aside0.mk H
              clear H
              have p101 : 0 ≤ (x8_1 : Int) := of_decide_eq_true (by first | (with_reducible assumption) | assumption)
              have q101 : x8_1 < (l0.length : Int) := of_decide_eq_true (by first | (with_reducible assumption) | assumption)
              obtain ⟨ad101, e101, hx101_0⟩ := Kd.at_int HR0.out x8_1 p101 q101
              cases e101
              replace p101 := eq_true p101
              replace q101 := eq_true q101
              go_wp2
              go_roundg k1
              case measure => have := HK1.out; omega
              case rel => exact ⟨(wrap64 (x8_1 + 1)), (by first | rfl | (simp; done) | (simp [*]; done)), H', ⟨by have := HK1.out; omega⟩, by repeat (first | exact Drawn0.refl _ | apply Drawn0.step)⟩
            · rw [if_neg c5] at H
              have c5b0 : ((rd l0 x8_1) == 0) = false := beq_eq_false_iff_ne.mpr c5
              have c5b1 : ((rd l0 x8_1) != 0) = true := bne_iff_ne.mpr c5
              obtain rfl := Option.some.inj H
              have p101 : 0 ≤ (x8_1 : Int) := of_decide_eq_true (by first | (with_reducible assumption) | assumption)
              have q101 : x8_1 < (l0.length : Int) := of_decide_eq_true (by first | (with_reducible assumption) | assumption)
              obtain ⟨ad101, e101, hx101_0⟩ := Kd.at_int HR0.out x8_1 p101 q101
              cases e101
              replace p101 := eq_true p101
              replace q101 := eq_true q101
              go_wp2
              go_ret
              exact ⟨by first | rfl | (simp; done) | (simp [*]; done), by repeat (first | exact Drawn0.refl _ | apply Drawn0.step)⟩
          · rw [if_neg c4] at H
            exact absurd H (by simp)
        · rw [if_neg c3] at H
          exact absurd H (by simp)
      · rw [if_neg c2] at H
        have c2b0 : decide (x8_1 < (l0.length : Int)) = false := decide_eq_false c2
        clear c2
        obtain rfl := Option.some.inj H
        go_wp2
        go_ret
        exact ⟨by first | rfl | (simp; done) | (simp [*]; done), by repeat (first | exact Drawn0.refl _ | apply Drawn0.step)⟩
end Go.Proofs.Ytncllbokeofdjaa.P

namespace Go.Proofs.Ytncllbokeofdjaa.P
open Go.RowKit Go.Proofs.YtncllbokeofdjaaW.PrintWords Go.Proofs.YtncllbokeofdjaaW.PrintLast Go.Proofs.YtncllbokeofdjaaW.PrintMore
attribute [local go_sem] max2_int min2_int max_two min_two max_three min_three max_four min_four   -- for this text's walks alone
set_option linter.unusedVariables false
set_option linter.unusedSimpArgs false
def cmp_Compare_int.f (a0 : Int) (a1 : Int) : Option (Int) := (cmp_isNaN_int.f a0).bind fun t102 => ((cmp_isNaN_int.f a1).bind fun t103 => (if t102 = true then (if t103 = true then (some 0) else (some (-1))) else (if t103 = true then (some 1) else (if a0 < a1 then (some (-1)) else (if a0 > a1 then (some 1) else (some 0))))))
set_option maxHeartbeats 8000000 in
set_option maxRecDepth 100000 in
theorem cmp_Compare_int.calls (a0 : Int) (a1 : Int) (r : Int) (w : World) (h : cmp_Compare_int.f a0 a1 = some r) :
    Calls Try.prog 51 #[.int .i64 a0, .int .i64 a1] w fun e w' => e = .returned (.int .i64 r) ∧ Drawn0 w w' := by
  have H : ((cmp_isNaN_int.f a0).bind fun t102 => ((cmp_isNaN_int.f a1).bind fun t103 => (if t102 = true then (if t103 = true then (some 0) else (some (-1))) else (if t103 = true then (some 1) else (if a0 < a1 then (some (-1)) else (if a0 > a1 then (some 1) else (some 0))))))) = some r := h
  clear h
  replace H := Option.bind_eq_some_iff.mp H
  obtain ⟨t102, A30, H⟩ := H
  replace H : ((cmp_isNaN_int.f a1).bind fun t103 => (if t102 = true then (if t103 = true then (some 0) else (some (-1))) else (if t103 = true then (some 1) else (if a0 < a1 then (some (-1)) else (if a0 > a1 then (some 1) else (some 0)))))) = some r := H
  have A3 := Aside0.mk A30
  clear A30
  replace H := Option.bind_eq_some_iff.mp H
  obtain ⟨t103, A40, H⟩ := H
  replace H : (if t102 = true then (if t103 = true then (some 0) else (some (-1))) else (if t103 = true then (some 1) else (if a0 < a1 then (some (-1)) else (if a0 > a1 then (some 1) else (some 0))))) = some r := H
  have A4 := Aside0.mk A40
  clear A40
  by_cases c5 : t102 = true
  · subst c5
    have H1 : (if t103 = true then (some 0) else (some (-1))) = some r := by rw [if_pos rfl] at H; exact H
    clear H
    have H := H1
    clear H1
    by_cases c6 : t103 = true
    · subst c6
      have H1 : (some 0) = some r := by rw [if_pos rfl] at H; exact H
      clear H
      have H := H1
      clear H1
      obtain rfl := Option.some.inj H
      go_enter Try.func51, Try.ntmps51
      go_wp2_with (first | ((with_reducible refine gate_callee (f := 70) rfl ?_); refine goesL_ (some 8) rfl rfl Try.func70 (by kernel_rfl) rfl #[.int .i64 a0] rfl (by (try simp only [List.map_toArray, List.map_cons, List.map_nil]); first | done | rfl | (simp only [List.length_drop, List.length_take]; rfl)) ?_; (with_reducible refine (cmp_isNaN_int.calls a0 true _ A3.out).mono ?_); rintro e w' ⟨rfl, ⟨nd, rfl⟩⟩; refine ⟨_, rfl, ?_⟩) | ((with_reducible refine gate_callee (f := 70) rfl ?_); refine goesL_ (some 10) rfl rfl Try.func70 (by kernel_rfl) rfl #[.int .i64 a1] rfl (by (try simp only [List.map_toArray, List.map_cons, List.map_nil]); first | done | rfl | (simp only [List.length_drop, List.length_take]; rfl)) ?_; (with_reducible refine (cmp_isNaN_int.calls a1 true _ A4.out).mono ?_); rintro e w' ⟨rfl, ⟨nd, rfl⟩⟩; refine ⟨_, rfl, ?_⟩))
      go_ret
      exact ⟨by first | rfl | (simp; done) | (simp [*]; done), by repeat (first | exact Drawn0.refl _ | apply Drawn0.step)⟩
    · replace c6 := Bool.eq_false_iff.mpr c6
      subst c6
      have H1 : (some (-1)) = some r := by rw [if_neg (show ¬ (false = true) by decide)] at H; exact H
      clear H
      have H := H1
      clear H1
      obtain rfl := Option.some.inj H
      go_enter Try.func51, Try.ntmps51
      go_wp2_with (first | ((with_reducible refine gate_callee (f := 70) rfl ?_); refine goesL_ (some 8) rfl rfl Try.func70 (by kernel_rfl) rfl #[.int .i64 a0] rfl (by (try simp only [List.map_toArray, List.map_cons, List.map_nil]); first | done | rfl | (simp only [List.length_drop, List.length_take]; rfl)) ?_; (with_reducible refine (cmp_isNaN_int.calls a0 true _ A3.out).mono ?_); rintro e w' ⟨rfl, ⟨nd, rfl⟩⟩; refine ⟨_, rfl, ?_⟩) | ((with_reducible refine gate_callee (f := 70) rfl ?_); refine goesL_ (some 10) rfl rfl Try.func70 (by kernel_rfl) rfl #[.int .i64 a1] rfl (by (try simp only [List.map_toArray, List.map_cons, List.map_nil]); first | done | rfl | (simp only [List.length_drop, List.length_take]; rfl)) ?_; (with_reducible refine (cmp_isNaN_int.calls a1 false _ A4.out).mono ?_); rintro e w' ⟨rfl, ⟨nd, rfl⟩⟩; refine ⟨_, rfl, ?_⟩))
      go_ret
      exact ⟨by first | rfl | (simp; done) | (simp [*]; done), by repeat (first | exact Drawn0.refl _ | apply Drawn0.step)⟩
  · replace c5 := Bool.eq_false_iff.mpr c5
    subst c5
    have H1 : (if t103 = true then (some 1) else (if a0 < a1 then (some (-1)) else (if a0 > a1 then (some 1) else (some 0)))) = some r := by rw [if_neg (show ¬ (false = true) by decide)] at H; exact H
    clear H
    have H := H1
    clear H1
    by_cases c7 : t103 = true
    · subst c7
      have H1 : (some 1) = some r := by rw [if_pos rfl] at H; exact H
      clear H
      have H := H1
      clear H1
      obtain rfl := Option.some.inj H
      go_enter Try.func51, Try.ntmps51
      go_wp2_with (first | ((with_reducible refine gate_callee (f := 70) rfl ?_); refine goesL_ (some 8) rfl rfl Try.func70 (by kernel_rfl) rfl #[.int .i64 a0] rfl (by (try simp only [List.map_toArray, List.map_cons, List.map_nil]); first | done | rfl | (simp only [List.length_drop, List.length_take]; rfl)) ?_; (with_reducible refine (cmp_isNaN_int.calls a0 false _ A3.out).mono ?_); rintro e w' ⟨rfl, ⟨nd, rfl⟩⟩; refine ⟨_, rfl, ?_⟩) | ((with_reducible refine gate_callee (f := 70) rfl ?_); refine goesL_ (some 10) rfl rfl Try.func70 (by kernel_rfl) rfl #[.int .i64 a1] rfl (by (try simp only [List.map_toArray, List.map_cons, List.map_nil]); first | done | rfl | (simp only [List.length_drop, List.length_take]; rfl)) ?_; (with_reducible refine (cmp_isNaN_int.calls a1 true _ A4.out).mono ?_); rintro e w' ⟨rfl, ⟨nd, rfl⟩⟩; refine ⟨_, rfl, ?_⟩))
      go_ret
      exact ⟨by first | rfl | (simp; done) | (simp [*]; done), by repeat (first | exact Drawn0.refl _ | apply Drawn0.step)⟩
    · replace c7 := Bool.eq_false_iff.mpr c7
      subst c7
      have H1 : (if a0 < a1 then (some (-1)) else (if a0 > a1 then (some 1) else (some 0))) = some r := by rw [if_neg (show ¬ (false = true) by decide)] at H; exact H
      clear H
      have H := H1
      clear H1
      by_cases c8 : a0 < a1
      · rw [if_pos c8] at H
        have c8b0 : decide (a0 < a1) = true := decide_eq_true c8
        clear c8
        obtain rfl := Option.some.inj H
        go_enter Try.func51, Try.ntmps51
        go_wp2_with (first | ((with_reducible refine gate_callee (f := 70) rfl ?_); refine goesL_ (some 8) rfl rfl Try.func70 (by kernel_rfl) rfl #[.int .i64 a0] rfl (by (try simp only [List.map_toArray, List.map_cons, List.map_nil]); first | done | rfl | (simp only [List.length_drop, List.length_take]; rfl)) ?_; (with_reducible refine (cmp_isNaN_int.calls a0 false _ A3.out).mono ?_); rintro e w' ⟨rfl, ⟨nd, rfl⟩⟩; refine ⟨_, rfl, ?_⟩) | ((with_reducible refine gate_callee (f := 70) rfl ?_); refine goesL_ (some 10) rfl rfl Try.func70 (by kernel_rfl) rfl #[.int .i64 a1] rfl (by (try simp only [List.map_toArray, List.map_cons, List.map_nil]); first | done | rfl | (simp only [List.length_drop, List.length_take]; rfl)) ?_; (with_reducible refine (cmp_isNaN_int.calls a1 false _ A4.out).mono ?_); rintro e w' ⟨rfl, ⟨nd, rfl⟩⟩; refine ⟨_, rfl, ?_⟩))
        go_ret
        exact ⟨by first | rfl | (simp; done) | (simp [*]; done), by repeat (first | exact Drawn0.refl _ | apply Drawn0.step)⟩
      · rw [if_neg c8] at H
        have c8b0 : decide (a0 < a1) = false := decide_eq_false c8
        clear c8
        by_cases c9 : a0 > a1
        · rw [if_pos c9] at H
          have c9b0 : decide (a1 < a0) = true := decide_eq_true c9
          clear c9
          obtain rfl := Option.some.inj H
          go_enter Try.func51, Try.ntmps51
          go_wp2_with (first | ((with_reducible refine gate_callee (f := 70) rfl ?_); refine goesL_ (some 8) rfl rfl Try.func70 (by kernel_rfl) rfl #[.int .i64 a0] rfl (by (try simp only [List.map_toArray, List.map_cons, List.map_nil]); first | done | rfl | (simp only [List.length_drop, List.length_take]; rfl)) ?_; (with_reducible refine (cmp_isNaN_int.calls a0 false _ A3.out).mono ?_); rintro e w' ⟨rfl, ⟨nd, rfl⟩⟩; refine ⟨_, rfl, ?_⟩) | ((with_reducible refine gate_callee (f := 70) rfl ?_); refine goesL_ (some 10) rfl rfl Try.func70 (by kernel_rfl) rfl #[.int .i64 a1] rfl (by (try simp only [List.map_toArray, List.map_cons, List.map_nil]); first | done | rfl | (simp only [List.length_drop, List.length_take]; rfl)) ?_; (with_reducible refine (cmp_isNaN_int.calls a1 false _ A4.out).mono ?_); rintro e w' ⟨rfl, ⟨nd, rfl⟩⟩; refine ⟨_, rfl, ?_⟩))
          go_ret
          exact ⟨by first | rfl | (simp; done) | (simp [*]; done), by repeat (first | exact Drawn0.refl _ | apply Drawn0.step)⟩
        · rw [if_neg c9] at H
          have c9b0 : decide (a1 < a0) = false := decide_eq_false c9
          clear c9
          obtain rfl := Option.some.inj H
          go_enter Try.func51, Try.ntmps51
          go_wp2_with (first | ((with_reducible refine gate_callee (f := 70) rfl ?_); refine goesL_ (some 8) rfl rfl Try.func70 (by kernel_rfl) rfl #[.int .i64 a0] rfl (by (try simp only [List.map_toArray, List.map_cons, List.map_nil]); first | done | rfl | (simp only [List.length_drop, List.length_take]; rfl)) ?_; (with_reducible refine (cmp_isNaN_int.calls a0 false _ A3.out).mono ?_); rintro e w' ⟨rfl, ⟨nd, rfl⟩⟩; refine ⟨_, rfl, ?_⟩) | ((with_reducible refine gate_callee (f := 70) rfl ?_); refine goesL_ (some 10) rfl rfl Try.func70 (by kernel_rfl) rfl #[.int .i64 a1] rfl (by (try simp only [List.map_toArray, List.map_cons, List.map_nil]); first | done | rfl | (simp only [List.length_drop, List.length_take]; rfl)) ?_; (with_reducible refine (cmp_isNaN_int.calls a1 false _ A4.out).mono ?_); rintro e w' ⟨rfl, ⟨nd, rfl⟩⟩; refine ⟨_, rfl, ?_⟩))
          go_ret
          exact ⟨by first | rfl | (simp; done) | (simp [*]; done), by repeat (first | exact Drawn0.refl _ | apply Drawn0.step)⟩
end Go.Proofs.Ytncllbokeofdjaa.P

namespace Go.Proofs.Ytncllbokeofdjaa.P
open Go.RowKit Go.Proofs.YtncllbokeofdjaaW.PrintWords Go.Proofs.YtncllbokeofdjaaW.PrintLast Go.Proofs.YtncllbokeofdjaaW.PrintMore
attribute [local go_sem] max2_int min2_int max_two min_two max_three min_three max_four min_four   -- for this text's walks alone
set_option linter.unusedVariables false
set_option linter.unusedSimpArgs false
def cmp_isNaN_string.f (a0 : ByteArray) : Option (Bool) := some (a0.toList != a0.toList)
set_option maxHeartbeats 8000000 in
set_option maxRecDepth 100000 in
theorem cmp_isNaN_string.calls (a0 : ByteArray) (r : Bool) (w : World) (h : cmp_isNaN_string.f a0 = some r) :
    Calls Try.prog 71 #[.string a0] w fun e w' => e = .returned (.bool r) ∧ Drawn0 w w' := by
  have H : (some (a0.toList != a0.toList)) = some r := h
  clear h
  obtain rfl := Option.some.inj H
  go_enter Try.func71, Try.ntmps71
  go_wp2
  go_ret
  exact ⟨by first | rfl | (simp; done) | (simp [*]; done), by repeat (first | exact Drawn0.refl _ | apply Drawn0.step)⟩
end Go.Proofs.Ytncllbokeofdjaa.P

namespace Go.Proofs.Ytncllbokeofdjaa.P
open Go.RowKit Go.Proofs.YtncllbokeofdjaaW.PrintWords Go.Proofs.YtncllbokeofdjaaW.PrintLast Go.Proofs.YtncllbokeofdjaaW.PrintMore
attribute [local go_sem] max2_int min2_int max_two min_two max_three min_three max_four min_four   -- for this text's walks alone
set_option linter.unusedVariables false
set_option linter.unusedSimpArgs false
def cmpS (a b : ByteArray) : Int := if Op.bytesLess a.toList b.toList = true then -1 else if (a.toList == b.toList) = true then 0 else 1
def cmp_Compare_string.f (a0 : ByteArray) (a1 : ByteArray) : Option Int := some (cmpS a0 a1)
set_option maxHeartbeats 4000000 in
set_option maxRecDepth 100000 in
theorem cmp_Compare_string.calls (a0 : ByteArray) (a1 : ByteArray) (r : Int) (w : World) (h : cmp_Compare_string.f a0 a1 = some r) :
    Calls Try.prog 52 #[.string a0, .string a1] w fun e w' => e = .returned (.int .i64 r) ∧ Drawn0 w w' := by
  obtain rfl := Option.some.inj h
  clear h
  have hN : ∀ s : ByteArray, cmp_isNaN_string.f s = some false := fun s => by
    unfold cmp_isNaN_string.f
    rw [bne_self_eq_false]
  have HN := Aside0.mk hN
  unfold cmpS
  obtain ⟨p, hp⟩ : ∃ p, Op.bytesLess a0.toList a1.toList = p := ⟨_, rfl⟩
  obtain ⟨q, hq⟩ : ∃ q, (a0.toList == a1.toList) = q := ⟨_, rfl⟩
  clear hN
  cases p <;> cases q
  all_goals
    go_enter Try.func52, Try.ntmps52
    go_wp2_with (first
      | (go_at_call 71; refine (cmp_isNaN_string.calls _ false _ (HN.out _)).mono ?_; rintro e w' ⟨rfl, ⟨nd, rfl⟩⟩))
    all_goals
      go_ret
      exact ⟨by simp [*], by repeat (first | exact Drawn0.refl _ | apply Drawn0.step)⟩
end Go.Proofs.Ytncllbokeofdjaa.P

namespace Go.Proofs.Ytncllbokeofdjaa.P
open Go.RowKit Go.Proofs.YtncllbokeofdjaaW.PrintWords Go.Proofs.YtncllbokeofdjaaW.PrintLast Go.Proofs.YtncllbokeofdjaaW.PrintMore
attribute [local go_sem] max2_int min2_int max_two min_two max_three min_three max_four min_four   -- for this text's walks alone
set_option linter.unusedVariables false
set_option linter.unusedSimpArgs false
def value_Less.j0 : Nat → Bool → Int → Int → ByteArray → Int → Int → ByteArray → Option (Bool × Bool)
  | 0, _, _, _, _, _, _, _ => none
  | k + 1, x20, x105000, x105001, x105002, x106000, x106001, x106002 => if x20 = true then (some (false, false)) else ((cmp_Compare_int.f x105001 x106001).bind fun t108 => ((cmp_Compare_string.f x105002 x106002).bind fun t109 => ((cmp_Or_int.f k (([t108, t109] : List Int))).bind fun t113 => (some (decide (t113 < 0), true)))))
def value_Less.f (k : Nat) (a0_0 : Int) (a0_1 : Int) (a0_2 : ByteArray) (a1_0 : Int) (a1_1 : Int) (a1_2 : ByteArray) : Option (Bool × Bool) := (value_May.f a0_0 a0_1 a0_2).bind fun t106 => (if t106 = true then ((value_May.f a1_0 a1_1 a1_2).bind fun t107 => (if t107 = true then (value_Less.j0 k (a0_0 != a1_0) a0_0 a0_1 a0_2 a1_0 a1_1 a1_2) else (value_Less.j0 k true a0_0 a0_1 a0_2 a1_0 a1_1 a1_2))) else (value_Less.j0 k true a0_0 a0_1 a0_2 a1_0 a1_1 a1_2))
def value_Less.T3 : Bool × List (List Nat × List Nat) := (true, [([], []), ([0], [0]), ([], []), ([2], [2]), ([1, 3], [1, 3]), ([], []), ([5], [5]), ([], []), ([7], [7]), ([6, 8, 4], [6, 8]), ([4, 9], [4, 9]), ([10, 9], [10]), ([11], [11]), ([12, 11, 0, 1, 2, 3, 4, 5, 6, 7, 8, 9, 10, 11, 12], [12]), ([13, 0, 1, 2, 3, 4, 5, 6, 7, 8, 9, 10, 11, 12, 13], [])])
def value_Less.B3 : List Nat := [0, 1, 0, 4, 15, 0, 32, 0, 128, 511, 1023, 2047, 4095, 8191, 16383]
theorem value_Less.tab3 : rtab .any (opsOf Try.f28 3) = value_Less.T3 := by kernel_rfl
theorem value_Less.bits3 : waitsOk value_Less.T3.2 value_Less.B3 = true := by kernel_rfl
set_option maxHeartbeats 8000000 in
set_option maxRecDepth 100000 in
theorem value_Less.calls (k : Nat) (a0_0 : Int) (a0_1 : Int) (a0_2 : ByteArray) (a1_0 : Int) (a1_1 : Int) (a1_2 : ByteArray) (r1 : Bool) (r2 : Bool) (w : World) (h : value_Less.f k a0_0 a0_1 a0_2 a1_0 a1_1 a1_2 = some (r1, r2)) :
    Calls Try.prog 28 #[.agg #[.int .i64 a0_0, .int .i64 a0_1, .string a0_2], .agg #[.int .i64 a1_0, .int .i64 a1_1, .string a1_2]] w fun e w' => e = .returned (.tuple #[.bool r1, .bool r2]) ∧ Below w.heap.size w w' := by
  have hu38 := Try.underlying38
  have HB := Aside0.mk (Below.refl w.heap.size w)
  have H : ((value_May.f a0_0 a0_1 a0_2).bind fun t106 => (if t106 = true then ((value_May.f a1_0 a1_1 a1_2).bind fun t107 => (if t107 = true then (value_Less.j0 k (a0_0 != a1_0) a0_0 a0_1 a0_2 a1_0 a1_1 a1_2) else (value_Less.j0 k true a0_0 a0_1 a0_2 a1_0 a1_1 a1_2))) else (value_Less.j0 k true a0_0 a0_1 a0_2 a1_0 a1_1 a1_2))) = some (r1, r2) := h
  clear h
  have HC3 := Aside0.mk H
  clear H
  go_enter Try.func28, Try.ntmps28
  go_upto_region 1 with (first | ((with_reducible refine gate_dst (N := 2) rfl ?_); refine box_event ?hg (N := 2) ?hd (cs := #[.int .i64 a0_0, .int .i64 a0_1, .string a0_2]) (t := 38) ?hr ?_; (case hd => rfl); (case hg => rfl); (case hr => first | (go_simp; done) | (go_simp; rfl)); intro gb104 hg w4 hbox hb; have n0_ := Aside0.mk (below_step (by repeat (first | (with_reducible first | exact HB.out | apply below_alloc | apply pw_below_drewN | apply below_drew1) | exact HB.out)) hb); have n1_ := Aside0.mk (hbox); have n2_ := Aside0.mk ((by rw [hg]; exact (below_size (by repeat (first | (with_reducible first | exact HB.out | apply below_alloc | apply pw_below_drewN | apply below_drew1) | exact HB.out))) : w.heap.size ≤ gb104)); have n3_ := Aside0.mk ((by rw [hg]; exact (below_size (by repeat (first | (with_reducible first | exact HB.out | apply below_alloc | apply pw_below_drewN | apply below_drew1) | exact HB.out))) : w.heap.size ≤ gb104)); clear HB; have HB := n0_; have BK104 := n1_; have GW104 := n2_; have GE104 := n3_; clear n0_ n1_ n2_ n3_; clear hb hbox hg) | ((with_reducible refine gate_dst (N := 3) rfl ?_); refine box_event ?hg (N := 3) ?hd (cs := #[.int .i64 a1_0, .int .i64 a1_1, .string a1_2]) (t := 38) ?hr ?_; (case hd => rfl); (case hg => rfl); (case hr => first | (go_simp; done) | (go_simp; rfl)); intro gb105 hg w5 hbox hb; have n0_ := Aside0.mk (blk_below (g := gb104) (o := .cells #[.int .i64 a0_0, .int .i64 a0_1, .string a0_2] 38 (0, 0)) (by (with_reducible repeat (first | refine blk_drewN ?_ _ | refine blk_drew ?_ | refine blk_alloc ?_ _)); exact BK104.out) hb); have n1_ := Aside0.mk (below_step (by repeat (first | (with_reducible first | exact HB.out | apply below_alloc | apply pw_below_drewN | apply below_drew1 | refine below_set ?_ GE104.out) | exact HB.out)) hb); have n2_ := Aside0.mk (hbox); have n3_ := Aside0.mk ((by rw [hg]; exact (below_size (by repeat (first | (with_reducible first | exact HB.out | apply below_alloc | apply pw_below_drewN | apply below_drew1 | refine below_set ?_ GE104.out) | exact HB.out))) : w.heap.size ≤ gb105)); have n4_ := Aside0.mk ((by rw [hg]; exact (below_size (by repeat (first | (with_reducible first | exact HB.out | apply below_alloc | apply pw_below_drewN | apply below_drew1 | refine below_set ?_ GE104.out) | exact HB.out))) : w.heap.size ≤ gb105)); have n5_ := Aside0.mk ((by rw [hg]; exact Nat.ne_of_lt (blk_lt (g := gb104) (o := .cells #[.int .i64 a0_0, .int .i64 a0_1, .string a0_2] 38 (0, 0)) (by (with_reducible repeat (first | refine blk_drewN ?_ _ | refine blk_drew ?_ | refine blk_alloc ?_ _)); exact BK104.out)) : gb104 ≠ gb105)); have n6_ := Aside0.mk ((by rw [hg]; exact Nat.ne_of_gt (blk_lt (g := gb104) (o := .cells #[.int .i64 a0_0, .int .i64 a0_1, .string a0_2] 38 (0, 0)) (by (with_reducible repeat (first | refine blk_drewN ?_ _ | refine blk_drew ?_ | refine blk_alloc ?_ _)); exact BK104.out)) : gb105 ≠ gb104)); clear BK104; clear HB; have BK104 := n0_; have HB := n1_; have BK105 := n2_; have GW105 := n3_; have GE105 := n4_; have NB104_105 := n5_; have NB105_104 := n6_; clear n0_ n1_ n2_ n3_ n4_ n5_ n6_; clear hb hbox hg))
  (try simp only [Act.put, List.setIfInBounds_toArray, List.set_cons_zero, List.set_cons_succ])
  go_cut [20] (fun v20 wc => ∃ (kq : Nat) (x20_2 : Bool), v20 = .bool x20_2 ∧ Aside0 (value_Less.j0 kq x20_2 a0_0 a0_1 a0_2 a1_0 a1_1 a1_2 = some (r1, r2)) ∧ Aside0 (kq ≤ k) ∧ Aside0 (wc.heap[gb104]? = some (.cells #[.int .i64 a0_0, .int .i64 a0_1, .string a0_2] 38 (0, 0))) ∧ Aside0 (wc.heap[gb105]? = some (.cells #[.int .i64 a1_0, .int .i64 a1_1, .string a1_2] 38 (0, 0))) ∧ Aside0 (Below w.heap.size w wc))
  case first =>
    have H := HC3.out
    clear HC3
    replace H := Option.bind_eq_some_iff.mp H
    obtain ⟨t106, A60, H⟩ := H
    replace H : (if t106 = true then ((value_May.f a1_0 a1_1 a1_2).bind fun t107 => (if t107 = true then (value_Less.j0 k (a0_0 != a1_0) a0_0 a0_1 a0_2 a1_0 a1_1 a1_2) else (value_Less.j0 k true a0_0 a0_1 a0_2 a1_0 a1_1 a1_2))) else (value_Less.j0 k true a0_0 a0_1 a0_2 a1_0 a1_1 a1_2)) = some (r1, r2) := H
    have A6 := Aside0.mk A60
    clear A60
    by_cases c7 : t106 = true
    · subst c7
      have H1 : ((value_May.f a1_0 a1_1 a1_2).bind fun t107 => (if t107 = true then (value_Less.j0 k (a0_0 != a1_0) a0_0 a0_1 a0_2 a1_0 a1_1 a1_2) else (value_Less.j0 k true a0_0 a0_1 a0_2 a1_0 a1_1 a1_2))) = some (r1, r2) := by rw [if_pos rfl] at H; exact H
      clear H
      have H := H1
      clear H1
      replace H := Option.bind_eq_some_iff.mp H
      obtain ⟨t107, A80, H⟩ := H
      replace H : (if t107 = true then (value_Less.j0 k (a0_0 != a1_0) a0_0 a0_1 a0_2 a1_0 a1_1 a1_2) else (value_Less.j0 k true a0_0 a0_1 a0_2 a1_0 a1_1 a1_2)) = some (r1, r2) := H
      have A8 := Aside0.mk A80
      clear A80
      by_cases c9 : t107 = true
      · subst c9
        have H1 : (value_Less.j0 k (a0_0 != a1_0) a0_0 a0_1 a0_2 a1_0 a1_1 a1_2) = some (r1, r2) := by rw [if_pos rfl] at H; exact H
        clear H
        have H := H1
        clear H1
        have H' := Aside0.mk H
        clear H
        have hnb10 := NB104_105.out
        have hnc10 := NB105_104.out
        have hcz11_0 : w5.cell? ⟨gb104, 0, none⟩ = some (.int .i64 a0_0) := (blk_cell BK104.out 0).trans rfl
        have hcz11_1 : w5.cell? ⟨gb104, 1, none⟩ = some (.int .i64 a0_1) := (blk_cell BK104.out 1).trans rfl
        have hcz11_2 : w5.cell? ⟨gb104, 2, none⟩ = some (.string a0_2) := (blk_cell BK104.out 2).trans rfl
        have hfz11_0 := blk_frozen BK104.out 0
        have hfz11_1 := blk_frozen BK104.out 1
        have hfz11_2 := blk_frozen BK104.out 2
        go_wp2_with (first | ((with_reducible refine gate_callee (f := 27) rfl ?_); refine goesL_ (some 7) rfl rfl Try.func27 (by kernel_rfl) rfl #[.agg #[.int .i64 a0_0, .int .i64 a0_1, .string a0_2]] rfl (by (try simp only [List.map_toArray, List.map_cons, List.map_nil]); first | done | rfl | (simp only [List.length_drop, List.length_take]; rfl)) ?_; (with_reducible refine (value_May.calls a0_0 a0_1 a0_2 true _ A6.out).mono ?_); rintro e w12 ⟨rfl, hb⟩; refine ⟨_, rfl, ?_⟩; have n0_ := Aside0.mk (blk_below (g := gb104) (o := .cells #[.int .i64 a0_0, .int .i64 a0_1, .string a0_2] 38 (0, 0)) (by (with_reducible repeat (first | refine blk_drewN ?_ _ | refine blk_drew ?_ | refine blk_alloc ?_ _)); exact BK104.out) hb); have n1_ := Aside0.mk (blk_below (g := gb105) (o := .cells #[.int .i64 a1_0, .int .i64 a1_1, .string a1_2] 38 (0, 0)) (by (with_reducible repeat (first | refine blk_drewN ?_ _ | refine blk_drew ?_ | refine blk_alloc ?_ _)); exact BK105.out) hb); have n2_ := Aside0.mk (below_step (by repeat (first | (with_reducible first | exact HB.out | apply below_alloc | apply pw_below_drewN | apply below_drew1 | refine below_set ?_ GE104.out | refine below_set ?_ GE105.out) | exact HB.out)) hb); clear BK104; clear BK105; clear HB; have BK104 := n0_; have BK105 := n1_; have HB := n2_; clear n0_ n1_ n2_; (try clear hb); (try clear hb2); (try clear hk); (try clear hi); have hcz13_0 : w12.cell? ⟨gb105, 0, none⟩ = some (.int .i64 a1_0) := (blk_cell BK105.out 0).trans rfl; have hcz13_1 : w12.cell? ⟨gb105, 1, none⟩ = some (.int .i64 a1_1) := (blk_cell BK105.out 1).trans rfl; have hcz13_2 : w12.cell? ⟨gb105, 2, none⟩ = some (.string a1_2) := (blk_cell BK105.out 2).trans rfl; have hfz13_0 := blk_frozen BK105.out 0; have hfz13_1 := blk_frozen BK105.out 1; have hfz13_2 := blk_frozen BK105.out 2) | (go_at_call 27; (with_reducible refine (value_May.calls a1_0 a1_1 a1_2 true _ A8.out).mono ?_); rintro e w14 ⟨rfl, hb⟩; have n0_ := Aside0.mk (blk_below (g := gb104) (o := .cells #[.int .i64 a0_0, .int .i64 a0_1, .string a0_2] 38 (0, 0)) (by (with_reducible repeat (first | refine blk_drewN ?_ _ | refine blk_drew ?_ | refine blk_alloc ?_ _)); exact BK104.out) hb); have n1_ := Aside0.mk (blk_below (g := gb105) (o := .cells #[.int .i64 a1_0, .int .i64 a1_1, .string a1_2] 38 (0, 0)) (by (with_reducible repeat (first | refine blk_drewN ?_ _ | refine blk_drew ?_ | refine blk_alloc ?_ _)); exact BK105.out) hb); have n2_ := Aside0.mk (below_step (by repeat (first | (with_reducible first | exact HB.out | apply below_alloc | apply pw_below_drewN | apply below_drew1 | refine below_set ?_ GE104.out | refine below_set ?_ GE105.out) | exact HB.out)) hb); clear BK104; clear BK105; clear HB; have BK104 := n0_; have BK105 := n1_; have HB := n2_; clear n0_ n1_ n2_; (try clear hb); (try clear hb2); (try clear hk); (try clear hi); have hcz15_0 : w14.cell? ⟨gb104, 0, none⟩ = some (.int .i64 a0_0) := (blk_cell BK104.out 0).trans rfl; have hcz15_1 : w14.cell? ⟨gb104, 1, none⟩ = some (.int .i64 a0_1) := (blk_cell BK104.out 1).trans rfl; have hcz15_2 : w14.cell? ⟨gb104, 2, none⟩ = some (.string a0_2) := (blk_cell BK104.out 2).trans rfl; have hfz15_0 := blk_frozen BK104.out 0; have hfz15_1 := blk_frozen BK104.out 1; have hfz15_2 := blk_frozen BK104.out 2; have hcz16_0 : w14.cell? ⟨gb105, 0, none⟩ = some (.int .i64 a1_0) := (blk_cell BK105.out 0).trans rfl; have hcz16_1 : w14.cell? ⟨gb105, 1, none⟩ = some (.int .i64 a1_1) := (blk_cell BK105.out 1).trans rfl; have hcz16_2 : w14.cell? ⟨gb105, 2, none⟩ = some (.string a1_2) := (blk_cell BK105.out 2).trans rfl; have hfz16_0 := blk_frozen BK105.out 0; have hfz16_1 := blk_frozen BK105.out 1; have hfz16_2 := blk_frozen BK105.out 2))
        go_meet
        case rel => exact ⟨_, ((a0_0 != a1_0)), (by first | rfl | (simp; done) | (simp [*]; done)), H', ⟨by first | omega | exact Nat.le_refl _⟩, ⟨by (with_reducible repeat (first | refine blk_drewN ?_ _ | refine blk_drew ?_ | refine blk_alloc ?_ _)); exact BK104.out⟩, ⟨by (with_reducible repeat (first | refine blk_drewN ?_ _ | refine blk_drew ?_ | refine blk_alloc ?_ _)); exact BK105.out⟩, ⟨by repeat (first | (with_reducible first | exact HB.out | apply below_alloc | apply pw_below_drewN | apply below_drew1 | refine below_set ?_ GE104.out | refine below_set ?_ GE105.out) | exact HB.out)⟩⟩
      · replace c9 := Bool.eq_false_iff.mpr c9
        subst c9
        have H1 : (value_Less.j0 k true a0_0 a0_1 a0_2 a1_0 a1_1 a1_2) = some (r1, r2) := by rw [if_neg (show ¬ (false = true) by decide)] at H; exact H
        clear H
        have H := H1
        clear H1
        have H' := Aside0.mk H
        clear H
        have hnb17 := NB104_105.out
        have hnc17 := NB105_104.out
        have hcz18_0 : w5.cell? ⟨gb104, 0, none⟩ = some (.int .i64 a0_0) := (blk_cell BK104.out 0).trans rfl
        have hcz18_1 : w5.cell? ⟨gb104, 1, none⟩ = some (.int .i64 a0_1) := (blk_cell BK104.out 1).trans rfl
        have hcz18_2 : w5.cell? ⟨gb104, 2, none⟩ = some (.string a0_2) := (blk_cell BK104.out 2).trans rfl
        have hfz18_0 := blk_frozen BK104.out 0
        have hfz18_1 := blk_frozen BK104.out 1
        have hfz18_2 := blk_frozen BK104.out 2
        go_wp2_with (first | ((with_reducible refine gate_callee (f := 27) rfl ?_); refine goesL_ (some 7) rfl rfl Try.func27 (by kernel_rfl) rfl #[.agg #[.int .i64 a0_0, .int .i64 a0_1, .string a0_2]] rfl (by (try simp only [List.map_toArray, List.map_cons, List.map_nil]); first | done | rfl | (simp only [List.length_drop, List.length_take]; rfl)) ?_; (with_reducible refine (value_May.calls a0_0 a0_1 a0_2 true _ A6.out).mono ?_); rintro e w19 ⟨rfl, hb⟩; refine ⟨_, rfl, ?_⟩; have n0_ := Aside0.mk (blk_below (g := gb104) (o := .cells #[.int .i64 a0_0, .int .i64 a0_1, .string a0_2] 38 (0, 0)) (by (with_reducible repeat (first | refine blk_drewN ?_ _ | refine blk_drew ?_ | refine blk_alloc ?_ _)); exact BK104.out) hb); have n1_ := Aside0.mk (blk_below (g := gb105) (o := .cells #[.int .i64 a1_0, .int .i64 a1_1, .string a1_2] 38 (0, 0)) (by (with_reducible repeat (first | refine blk_drewN ?_ _ | refine blk_drew ?_ | refine blk_alloc ?_ _)); exact BK105.out) hb); have n2_ := Aside0.mk (below_step (by repeat (first | (with_reducible first | exact HB.out | apply below_alloc | apply pw_below_drewN | apply below_drew1 | refine below_set ?_ GE104.out | refine below_set ?_ GE105.out) | exact HB.out)) hb); clear BK104; clear BK105; clear HB; have BK104 := n0_; have BK105 := n1_; have HB := n2_; clear n0_ n1_ n2_; (try clear hb); (try clear hb2); (try clear hk); (try clear hi); have hcz20_0 : w19.cell? ⟨gb105, 0, none⟩ = some (.int .i64 a1_0) := (blk_cell BK105.out 0).trans rfl; have hcz20_1 : w19.cell? ⟨gb105, 1, none⟩ = some (.int .i64 a1_1) := (blk_cell BK105.out 1).trans rfl; have hcz20_2 : w19.cell? ⟨gb105, 2, none⟩ = some (.string a1_2) := (blk_cell BK105.out 2).trans rfl; have hfz20_0 := blk_frozen BK105.out 0; have hfz20_1 := blk_frozen BK105.out 1; have hfz20_2 := blk_frozen BK105.out 2) | (go_at_call 27; (with_reducible refine (value_May.calls a1_0 a1_1 a1_2 false _ A8.out).mono ?_); rintro e w21 ⟨rfl, hb⟩; have n0_ := Aside0.mk (blk_below (g := gb104) (o := .cells #[.int .i64 a0_0, .int .i64 a0_1, .string a0_2] 38 (0, 0)) (by (with_reducible repeat (first | refine blk_drewN ?_ _ | refine blk_drew ?_ | refine blk_alloc ?_ _)); exact BK104.out) hb); have n1_ := Aside0.mk (blk_below (g := gb105) (o := .cells #[.int .i64 a1_0, .int .i64 a1_1, .string a1_2] 38 (0, 0)) (by (with_reducible repeat (first | refine blk_drewN ?_ _ | refine blk_drew ?_ | refine blk_alloc ?_ _)); exact BK105.out) hb); have n2_ := Aside0.mk (below_step (by repeat (first | (with_reducible first | exact HB.out | apply below_alloc | apply pw_below_drewN | apply below_drew1 | refine below_set ?_ GE104.out | refine below_set ?_ GE105.out) | exact HB.out)) hb); clear BK104; clear BK105; clear HB; have BK104 := n0_; have BK105 := n1_; have HB := n2_; clear n0_ n1_ n2_; (try clear hb); (try clear hb2); (try clear hk); (try clear hi)))
        go_meet
        case rel => exact ⟨_, (true), (by first | rfl | (simp; done) | (simp [*]; done)), H', ⟨by first | omega | exact Nat.le_refl _⟩, ⟨by (with_reducible repeat (first | refine blk_drewN ?_ _ | refine blk_drew ?_ | refine blk_alloc ?_ _)); exact BK104.out⟩, ⟨by (with_reducible repeat (first | refine blk_drewN ?_ _ | refine blk_drew ?_ | refine blk_alloc ?_ _)); exact BK105.out⟩, ⟨by repeat (first | (with_reducible first | exact HB.out | apply below_alloc | apply pw_below_drewN | apply below_drew1 | refine below_set ?_ GE104.out | refine below_set ?_ GE105.out) | exact HB.out)⟩⟩
    · replace c7 := Bool.eq_false_iff.mpr c7
      subst c7
      have H1 : (value_Less.j0 k true a0_0 a0_1 a0_2 a1_0 a1_1 a1_2) = some (r1, r2) := by rw [if_neg (show ¬ (false = true) by decide)] at H; exact H
      clear H
      have H := H1
      clear H1
      have H' := Aside0.mk H
      clear H
      have hnb22 := NB104_105.out
      have hnc22 := NB105_104.out
      have hcz23_0 : w5.cell? ⟨gb104, 0, none⟩ = some (.int .i64 a0_0) := (blk_cell BK104.out 0).trans rfl
      have hcz23_1 : w5.cell? ⟨gb104, 1, none⟩ = some (.int .i64 a0_1) := (blk_cell BK104.out 1).trans rfl
      have hcz23_2 : w5.cell? ⟨gb104, 2, none⟩ = some (.string a0_2) := (blk_cell BK104.out 2).trans rfl
      have hfz23_0 := blk_frozen BK104.out 0
      have hfz23_1 := blk_frozen BK104.out 1
      have hfz23_2 := blk_frozen BK104.out 2
      go_wp2_with (first | ((with_reducible refine gate_callee (f := 27) rfl ?_); refine goesL_ (some 7) rfl rfl Try.func27 (by kernel_rfl) rfl #[.agg #[.int .i64 a0_0, .int .i64 a0_1, .string a0_2]] rfl (by (try simp only [List.map_toArray, List.map_cons, List.map_nil]); first | done | rfl | (simp only [List.length_drop, List.length_take]; rfl)) ?_; (with_reducible refine (value_May.calls a0_0 a0_1 a0_2 false _ A6.out).mono ?_); rintro e w24 ⟨rfl, hb⟩; refine ⟨_, rfl, ?_⟩; have n0_ := Aside0.mk (blk_below (g := gb104) (o := .cells #[.int .i64 a0_0, .int .i64 a0_1, .string a0_2] 38 (0, 0)) (by (with_reducible repeat (first | refine blk_drewN ?_ _ | refine blk_drew ?_ | refine blk_alloc ?_ _)); exact BK104.out) hb); have n1_ := Aside0.mk (blk_below (g := gb105) (o := .cells #[.int .i64 a1_0, .int .i64 a1_1, .string a1_2] 38 (0, 0)) (by (with_reducible repeat (first | refine blk_drewN ?_ _ | refine blk_drew ?_ | refine blk_alloc ?_ _)); exact BK105.out) hb); have n2_ := Aside0.mk (below_step (by repeat (first | (with_reducible first | exact HB.out | apply below_alloc | apply pw_below_drewN | apply below_drew1 | refine below_set ?_ GE104.out | refine below_set ?_ GE105.out) | exact HB.out)) hb); clear BK104; clear BK105; clear HB; have BK104 := n0_; have BK105 := n1_; have HB := n2_; clear n0_ n1_ n2_; (try clear hb); (try clear hb2); (try clear hk); (try clear hi)))
      go_meet
      case rel => exact ⟨_, (true), (by first | rfl | (simp; done) | (simp [*]; done)), H', ⟨by first | omega | exact Nat.le_refl _⟩, ⟨by (with_reducible repeat (first | refine blk_drewN ?_ _ | refine blk_drew ?_ | refine blk_alloc ?_ _)); exact BK104.out⟩, ⟨by (with_reducible repeat (first | refine blk_drewN ?_ _ | refine blk_drew ?_ | refine blk_alloc ?_ _)); exact BK105.out⟩, ⟨by repeat (first | (with_reducible first | exact HB.out | apply below_alloc | apply pw_below_drewN | apply below_drew1 | refine below_set ?_ GE104.out | refine below_set ?_ GE105.out) | exact HB.out)⟩⟩
  case rest =>
    clear HC3
    try clear c1
    try clear c2
    try clear p2
    try clear c7
    try clear c9
    try clear c10
    try clear c17
    try clear c22
    try clear hcz11_0
    try clear hcz11_1
    try clear hcz11_2
    try clear hcz13_0
    try clear hcz13_1
    try clear hcz13_2
    try clear hcz15_0
    try clear hcz15_1
    try clear hcz15_2
    try clear hcz16_0
    try clear hcz16_1
    try clear hcz16_2
    try clear hcz18_0
    try clear hcz18_1
    try clear hcz18_2
    try clear hcz20_0
    try clear hcz20_1
    try clear hcz20_2
    try clear hcz23_0
    try clear hcz23_1
    try clear hcz23_2
    try clear hfz11_0
    try clear hfz11_1
    try clear hfz11_2
    try clear hfz13_0
    try clear hfz13_1
    try clear hfz13_2
    try clear hfz15_0
    try clear hfz15_1
    try clear hfz15_2
    try clear hfz16_0
    try clear hfz16_1
    try clear hfz16_2
    try clear hfz18_0
    try clear hfz18_1
    try clear hfz18_2
    try clear hfz20_0
    try clear hfz20_1
    try clear hfz20_2
    try clear hfz23_0
    try clear hfz23_1
    try clear hfz23_2
    obtain ⟨kq, x20_2, rfl, HA, HJ2, BK104, BK105, HB⟩ := hcut
    cases kq with
    | zero => exact absurd HA.out (by simp [value_Less.j0])
    | succ kj2 =>
      have H := HA.out
      clear HA
      simp only [value_Less.j0] at H
      by_cases c25 : x20_2 = true
      · subst c25
        have H1 : (some (false, false)) = some (r1, r2) := by rw [if_pos rfl] at H; exact H
        clear H
        have H := H1
        clear H1
        simp only [Option.some.injEq, Prod.mk.injEq] at H
        obtain ⟨rfl, rfl⟩ := H
        go_wp2
        go_ret2
        exact ⟨by first | rfl | (simp [errW_none, errW_some] <;> rfl) | (simp [*, errW_none, errW_some] <;> rfl), by repeat (first | (with_reducible first | exact HB.out | apply below_alloc | apply pw_below_drewN | apply below_drew1 | refine below_set ?_ GE104.out | refine below_set ?_ GE105.out) | exact HB.out)⟩
      · replace c25 := Bool.eq_false_iff.mpr c25
        subst c25
        have H1 : ((cmp_Compare_int.f a0_1 a1_1).bind fun t108 => ((cmp_Compare_string.f a0_2 a1_2).bind fun t109 => ((cmp_Or_int.f kj2 (([t108, t109] : List Int))).bind fun t113 => (some (decide (t113 < 0), true))))) = some (r1, r2) := by rw [if_neg (show ¬ (false = true) by decide)] at H; exact H
        clear H
        have H := H1
        clear H1
        replace H := Option.bind_eq_some_iff.mp H
        obtain ⟨t108, A260, H⟩ := H
        replace H : ((cmp_Compare_string.f a0_2 a1_2).bind fun t109 => ((cmp_Or_int.f kj2 (([t108, t109] : List Int))).bind fun t113 => (some (decide (t113 < 0), true)))) = some (r1, r2) := H
        have A26 := Aside0.mk A260
        clear A260
        replace H := Option.bind_eq_some_iff.mp H
        obtain ⟨t109, A270, H⟩ := H
        replace H : ((cmp_Or_int.f kj2 (([t108, t109] : List Int))).bind fun t113 => (some (decide (t113 < 0), true))) = some (r1, r2) := H
        have A27 := Aside0.mk A270
        clear A270
        obtain ⟨y110, hy110⟩ : ∃ y_ : List Int, y_ = (([t108, t109] : List Int)) := ⟨_, rfl⟩
        replace H : ((cmp_Or_int.f kj2 y110).bind fun t113 => (some (decide (t113 < 0), true))) = some (r1, r2) := by first | (rw [hy110]; with_reducible exact H) | (have H2_ := (Option.bind_some _ _).symm.trans H; rw [hy110]; with_reducible exact H2_) | (have H2_ := (Option.bind_some _ _).symm.trans H; with_reducible exact H2_) | with_reducible exact H | (rw [hy110]; exact H) | exact H
        have Ny110 := Aside0.mk hy110
        clear hy110
        replace H := Option.bind_eq_some_iff.mp H
        obtain ⟨t113, A280, H⟩ := H
        replace H : (some (decide (t113 < 0), true)) = some (r1, r2) := H
        have A28 := Aside0.mk A280
        clear A280
        simp only [Option.some.injEq, Prod.mk.injEq] at H
        obtain ⟨rfl, rfl⟩ := H
        try go_wp2
        have n0_ := Aside0.mk (blk_drew BK104.out)
        have n1_ := Aside0.mk (blk_drew BK105.out)
        have n2_ := Aside0.mk (below_drew1 HB.out)
        clear BK104
        clear BK105
        clear HB
        have BK104 := n0_
        have BK105 := n1_
        have HB := n2_
        clear n0_ n1_ n2_
        refine start_ (n := 15) (S := fun w' => w'.cell? ⟨gb104, 0, none⟩ = some (.int .i64 a0_0) ∧ w'.cell? ⟨gb104, 1, none⟩ = some (.int .i64 a0_1) ∧ w'.cell? ⟨gb104, 2, none⟩ = some (.string a0_2) ∧ w'.cell? ⟨gb105, 0, none⟩ = some (.int .i64 a1_0) ∧ w'.cell? ⟨gb105, 1, none⟩ = some (.int .i64 a1_1) ∧ w'.cell? ⟨gb105, 2, none⟩ = some (.string a1_2)) (ds := []) #[false, false, false, false, false, false, false, false, false, false, false, false, false, false, false] (by kernel_rfl) rfl rfl ⟨(blk_cell BK104.out 0).trans rfl, (blk_cell BK104.out 1).trans rfl, (blk_cell BK104.out 2).trans rfl, (blk_cell BK105.out 0).trans rfl, (blk_cell BK105.out 1).trans rfl, (blk_cell BK105.out 2).trans rfl⟩ (fun hHeld => ?_); refine with_tabW value_Less.tab3 value_Less.bits3 (fun HT_ HW_ => ?_)
        generalize wc.drew = w29 at BK104 BK105 HB hHeld ⊢
        refine pure_ (i := 0) (N := some 21) (v := ?_) (a' := ?_) #[true, false, false, false, false, false, false, false, false, false, false, false, false, false, false] rfl rfl (any_of HT_.out (by kernel_rfl)) (fun _ _ _ h => h) (Or.inl ⟨by rfl, ?_⟩) ?_ ?_
        rotate_left
        · intro w'
          go_simp
          with_reducible rfl
        rotate_left
        · simp only [Act.put, List.setIfInBounds_toArray, List.set_cons_zero, List.set_cons_succ, i64_w, i32_w]
          rfl
        refine pure_ (i := 2) (N := some 23) (v := ?_) (a' := ?_) #[true, false, true, false, false, false, false, false, false, false, false, false, false, false, false] rfl rfl (any_of HT_.out (by kernel_rfl)) (fun _ _ _ h => h) (Or.inl ⟨by rfl, ?_⟩) ?_ ?_
        rotate_left
        · intro w'
          go_simp
          with_reducible rfl
        rotate_left
        · simp only [Act.put, List.setIfInBounds_toArray, List.set_cons_zero, List.set_cons_succ, i64_w, i32_w]
          rfl
        refine pure_ (i := 5) (N := some 26) (v := ?_) (a' := ?_) #[true, false, true, false, false, true, false, false, false, false, false, false, false, false, false] rfl rfl (any_of HT_.out (by kernel_rfl)) (fun _ _ _ h => h) (Or.inl ⟨by rfl, ?_⟩) ?_ ?_
        rotate_left
        · intro w'
          go_simp
          with_reducible rfl
        rotate_left
        · simp only [Act.put, List.setIfInBounds_toArray, List.set_cons_zero, List.set_cons_succ, i64_w, i32_w]
          rfl
        refine pure_ (i := 7) (N := some 28) (v := ?_) (a' := ?_) #[true, false, true, false, false, true, false, true, false, false, false, false, false, false, false] rfl rfl (any_of HT_.out (by kernel_rfl)) (fun _ _ _ h => h) (Or.inl ⟨by rfl, ?_⟩) ?_ ?_
        rotate_left
        · intro w'
          go_simp
          with_reducible rfl
        rotate_left
        · simp only [Act.put, List.setIfInBounds_toArray, List.set_cons_zero, List.set_cons_succ, i64_w, i32_w]
          rfl
        refine take_ (i := 1) (N := some 22) (v := ?_) (a' := ?_) #[true, true, true, false, false, true, false, true, false, false, false, false, false, false, false] rfl rfl (take_ofW HT_.out HW_.out (by kernel_rfl)) (fun _ _ _ h => h) (Or.inl ⟨by rfl, ?_⟩) hHeld ?_ ?_
        rotate_left
        · rintro w' ⟨s0, s1, s2, s3, s4, s5⟩
          go_simp
          with_reducible rfl
        rotate_left
        · simp only [Act.put, List.setIfInBounds_toArray, List.set_cons_zero, List.set_cons_succ, i64_w, i32_w]
          rfl
        refine take_ (i := 3) (N := some 24) (v := ?_) (a' := ?_) #[true, true, true, true, false, true, false, true, false, false, false, false, false, false, false] rfl rfl (take_ofW HT_.out HW_.out (by kernel_rfl)) (fun _ _ _ h => h) (Or.inl ⟨by rfl, ?_⟩) hHeld ?_ ?_
        rotate_left
        · rintro w' ⟨s0, s1, s2, s3, s4, s5⟩
          go_simp
          with_reducible rfl
        rotate_left
        · simp only [Act.put, List.setIfInBounds_toArray, List.set_cons_zero, List.set_cons_succ, i64_w, i32_w]
          rfl
        refine take_ (i := 6) (N := some 27) (v := ?_) (a' := ?_) #[true, true, true, true, false, true, true, true, false, false, false, false, false, false, false] rfl rfl (take_ofW HT_.out HW_.out (by kernel_rfl)) (fun _ _ _ h => h) (Or.inl ⟨by rfl, ?_⟩) hHeld ?_ ?_
        rotate_left
        · rintro w' ⟨s0, s1, s2, s3, s4, s5⟩
          go_simp
          with_reducible rfl
        rotate_left
        · simp only [Act.put, List.setIfInBounds_toArray, List.set_cons_zero, List.set_cons_succ, i64_w, i32_w]
          rfl
        refine take_ (i := 8) (N := some 29) (v := ?_) (a' := ?_) #[true, true, true, true, false, true, true, true, true, false, false, false, false, false, false] rfl rfl (take_ofW HT_.out HW_.out (by kernel_rfl)) (fun _ _ _ h => h) (Or.inl ⟨by rfl, ?_⟩) hHeld ?_ ?_
        rotate_left
        · rintro w' ⟨s0, s1, s2, s3, s4, s5⟩
          go_simp
          with_reducible rfl
        rotate_left
        · simp only [Act.put, List.setIfInBounds_toArray, List.set_cons_zero, List.set_cons_succ, i64_w, i32_w]
          rfl
        refine one_ (i := 4) (N := some 25) #[true, true, true, true, true, true, true, true, true, false, false, false, false, false, false] rfl rfl (one_of HT_.out (by kernel_rfl)) (by decide) (fun K hK => ?_)
        refine goes_ Try.func51 (by kernel_rfl) rfl #[.int .i64 a0_1, .int .i64 a1_1] (by rfl) rfl rfl (by (try simp only [List.map_toArray, List.map_cons, List.map_nil]); first | done | rfl | (simp only [List.length_drop, List.length_take]; rfl)) ?_
        with_reducible refine (cmp_Compare_int.calls a0_1 a1_1 t108 _ A26.out).mono ?_
        rintro e w' ⟨rfl, ⟨nd, rfl⟩⟩
        refine ⟨_, rfl, ?_⟩
        refine hK.out _ _ ⟨(blk_cell BK104.out 0).trans rfl, (blk_cell BK104.out 1).trans rfl, (blk_cell BK104.out 2).trans rfl, (blk_cell BK105.out 0).trans rfl, (blk_cell BK105.out 1).trans rfl, (blk_cell BK105.out 2).trans rfl⟩ (fun hHeld => ?_)
        clear hK K
        refine norm_ (a' := ?_) ?_ ?_
        rotate_left
        · show Act.put _ (some 25) _ = _
          simp only [Act.put, List.setIfInBounds_toArray, List.set_cons_zero, List.set_cons_succ, i64_w, i32_w]
          rfl
        refine one_ (i := 9) (N := some 30) #[true, true, true, true, true, true, true, true, true, true, false, false, false, false, false] rfl rfl (one_of HT_.out (by kernel_rfl)) (by decide) (fun K hK => ?_)
        refine goes_ Try.func52 (by kernel_rfl) rfl #[.string a0_2, .string a1_2] (by rfl) rfl rfl (by (try simp only [List.map_toArray, List.map_cons, List.map_nil]); first | done | rfl | (simp only [List.length_drop, List.length_take]; rfl)) ?_
        with_reducible refine (cmp_Compare_string.calls a0_2 a1_2 t109 _ A27.out).mono ?_
        rintro e w' ⟨rfl, ⟨nd, rfl⟩⟩
        refine ⟨_, rfl, ?_⟩
        refine hK.out _ _ ⟨(blk_cell BK104.out 0).trans rfl, (blk_cell BK104.out 1).trans rfl, (blk_cell BK104.out 2).trans rfl, (blk_cell BK105.out 0).trans rfl, (blk_cell BK105.out 1).trans rfl, (blk_cell BK105.out 2).trans rfl⟩ (fun hHeld => ?_)
        clear hK K
        refine norm_ (a' := ?_) ?_ ?_
        rotate_left
        · show Act.put _ (some 30) _ = _
          simp only [Act.put, List.setIfInBounds_toArray, List.set_cons_zero, List.set_cons_succ, i64_w, i32_w]
          rfl
        refine one_ (i := 10) (N := some 31) #[true, true, true, true, true, true, true, true, true, true, true, false, false, false, false] rfl rfl (one_of HT_.out (by kernel_rfl)) (by decide) (fun K hK => ?_)
        refine Kd.R_lit_step (Kd.int .i64) _ 3 ?hg (N := 31) ?hd (xs := ([t108, t109] : List Int)) (inner := [.int .i64 t108, .int .i64 t109]) (ok := fun _ => True) (okp := fun _ => True) ?hr ?hp (fun _ hk => hk) trivial (Below.refl _ _) (Nat.le_refl _) (by simp) ?_; (case hd => rfl); (case hg => rfl); (case hr => first | (go_simp; done) | (go_simp; rfl)); (case hp => exact (Reps.one (show Kd.M (Kd.int .i64) _ _ _ t108 [.int .i64 t108] from rfl) (Reps.one (show Kd.M (Kd.int .i64) _ _ _ t109 [.int .i64 t109] from rfl) (Reps.none _ _))))
        intro v111 w30 ho31 hb hg_ hnew_
        clear hg_ hnew_
        (first | rw [← Ny110.out] at ho31 | (simp only [Int.reduceToNat] at ho31; rw [← Ny110.out] at ho31))
        have n0_ := Aside0.mk (Kd.R_lower ho31 (below_size (by repeat (first | (with_reducible first | exact HB.out | apply below_alloc | apply pw_below_drewN | apply below_drew1 | refine below_set ?_ GE104.out | refine below_set ?_ GE105.out) | exact HB.out))))
        have n1_ := Aside0.mk (blk_below (g := gb104) (o := .cells #[.int .i64 a0_0, .int .i64 a0_1, .string a0_2] 38 (0, 0)) (by (with_reducible repeat (first | refine blk_drewN ?_ _ | refine blk_drew ?_ | refine blk_alloc ?_ _)); exact BK104.out) hb)
        have n2_ := Aside0.mk (blk_below (g := gb105) (o := .cells #[.int .i64 a1_0, .int .i64 a1_1, .string a1_2] 38 (0, 0)) (by (with_reducible repeat (first | refine blk_drewN ?_ _ | refine blk_drew ?_ | refine blk_alloc ?_ _)); exact BK105.out) hb)
        have n3_ := Aside0.mk (below_step (by repeat (first | (with_reducible first | exact HB.out | apply below_alloc | apply pw_below_drewN | apply below_drew1 | refine below_set ?_ GE104.out | refine below_set ?_ GE105.out) | exact HB.out)) hb)
        clear BK104
        clear BK105
        clear HB
        have HO112 := n0_
        have BK104 := n1_
        have BK105 := n2_
        have HB := n3_
        clear n0_ n1_ n2_ n3_
        clear hb ho31
        obtain ⟨Ao32, co32, eo32⟩ := Kd.R_slice HO112.out
        (first | subst eo32 | (injection eo32 with f1_ f2_ f3_; have f4_ := f1_.symm; have f5_ := f3_.symm; clear f1_ f2_ f3_; subst f4_; subst f5_))
        refine hK.out _ _ ⟨(blk_cell BK104.out 0).trans rfl, (blk_cell BK104.out 1).trans rfl, (blk_cell BK104.out 2).trans rfl, (blk_cell BK105.out 0).trans rfl, (blk_cell BK105.out 1).trans rfl, (blk_cell BK105.out 2).trans rfl⟩ (fun hHeld => ?_)
        clear hK K
        refine norm_ (a' := ?_) ?_ ?_
        rotate_left
        · show Act.put _ (some 31) _ = _
          simp only [Act.put, List.setIfInBounds_toArray, List.set_cons_zero, List.set_cons_succ, i64_w, i32_w]
          rfl
        refine one_ (i := 11) (N := some 32) #[true, true, true, true, true, true, true, true, true, true, true, true, false, false, false] rfl rfl (one_of HT_.out (by kernel_rfl)) (by decide) (fun K hK => ?_)
        refine goes_ Try.func50 (by kernel_rfl) rfl #[.slice Ao32 y110.length co32] (by rfl) rfl rfl (by (try simp only [List.map_toArray, List.map_cons, List.map_nil]); first | done | rfl | (simp only [List.length_drop, List.length_take]; rfl)) ?_
        with_reducible refine (cmp_Or_int.calls kj2 _ _ y110 t113 _ ?side1 ?side2 A28.out).mono ?_
        (case side1 => repeat (first | exact (Kd.R_reads' HO112.out).2.2 | (with_reducible refine Kd.C_alloc ?_ _) | (with_reducible refine Kd.C_drewN ?_ _) | (with_reducible refine Kd.C_drew ?_)))
        (case side2 => exact (Kd.R_reads' HO112.out).2.1)
        rintro e w' ⟨rfl, ⟨nd, rfl⟩⟩
        refine ⟨_, rfl, ?_⟩
        refine hK.out _ _ ⟨(blk_cell BK104.out 0).trans rfl, (blk_cell BK104.out 1).trans rfl, (blk_cell BK104.out 2).trans rfl, (blk_cell BK105.out 0).trans rfl, (blk_cell BK105.out 1).trans rfl, (blk_cell BK105.out 2).trans rfl⟩ (fun hHeld => ?_)
        clear hK K
        refine norm_ (a' := ?_) ?_ ?_
        rotate_left
        · show Act.put _ (some 32) _ = _
          simp only [Act.put, List.setIfInBounds_toArray, List.set_cons_zero, List.set_cons_succ, i64_w, i32_w]
          rfl
        refine pure_ (i := 12) (N := some 33) (v := ?_) (a' := ?_) #[true, true, true, true, true, true, true, true, true, true, true, true, true, false, false] rfl rfl (any_of HT_.out (by kernel_rfl)) (fun _ _ _ h => h) (Or.inl ⟨by rfl, ?_⟩) ?_ ?_
        rotate_left
        · intro w'
          go_simp
          with_reducible rfl
        rotate_left
        · simp only [Act.put, List.setIfInBounds_toArray, List.set_cons_zero, List.set_cons_succ, i64_w, i32_w]
          rfl
        refine pure_ (i := 13) (N := some 4) (v := ?_) (a' := ?_) #[true, true, true, true, true, true, true, true, true, true, true, true, true, true, false] rfl rfl (any_of HT_.out (by kernel_rfl)) (fun _ _ _ h => h) (Or.inl ⟨by rfl, ?_⟩) ?_ ?_
        rotate_left
        · intro w'
          go_simp
          with_reducible rfl
        rotate_left
        · simp only [Act.put, List.setIfInBounds_toArray, List.set_cons_zero, List.set_cons_succ, i64_w, i32_w]
          rfl
        refine pure_ (i := 14) (N := some 5) (v := ?_) (a' := ?_) #[true, true, true, true, true, true, true, true, true, true, true, true, true, true, true] rfl rfl (any_of HT_.out (by kernel_rfl)) (fun _ _ _ h => h) (Or.inl ⟨by rfl, ?_⟩) ?_ ?_
        rotate_left
        · intro w'
          go_simp
          with_reducible rfl
        rotate_left
        · simp only [Act.put, List.setIfInBounds_toArray, List.set_cons_zero, List.set_cons_succ, i64_w, i32_w]
          rfl
        refine done_ (done_of HT_.out (by kernel_rfl)) ?_
        try go_wp2
        go_ret2
        exact ⟨by first | rfl | (simp [errW_none, errW_some] <;> rfl) | (simp [*, errW_none, errW_some] <;> rfl), by repeat (first | (with_reducible first | exact HB.out | apply below_alloc | apply pw_below_drewN | apply below_drew1 | refine below_set ?_ GE104.out | refine below_set ?_ GE105.out) | exact HB.out)⟩
theorem or_two (a b : Int) : cmp_Or_int.f 5 [a, b] = some (if a = 0 then b else a) := by
  unfold cmp_Or_int.f
  simp only [cmp_Or_int.l0, List.length_cons, List.length_nil]
  have e0 : rd [a, b] 0 = a := rfl
  have e1 : rd [a, b] 1 = b := rfl
  have e2 : wrap64 (0 + 1) = 1 := by decide +kernel
  have e3 : wrap64 (1 + 1) = 2 := by decide +kernel
  rw [if_pos (by decide), if_pos (by decide), if_pos (by decide), e0]
  by_cases h : a = 0
  · rw [if_pos h, if_pos h, e2, if_pos (by decide), if_pos (by decide), if_pos (by decide), e1, e3]
    by_cases hb : b = 0
    · rw [if_pos hb, if_neg (by decide), hb]
    · rw [if_neg hb]
  · rw [if_neg h, if_neg h]
theorem cmp_int_is (a b : Int) : cmp_Compare_int.f a b = some (if a < b then -1 else if a > b then 1 else 0) := by
  unfold cmp_Compare_int.f cmp_isNaN_int.f
  rw [bne_self_eq_false, bne_self_eq_false, Option.bind_some, Option.bind_some, if_neg (by decide), if_neg (by decide)]
  split
  · rfl
  split <;> rfl
theorem less_is {x y : SValue} (hx : okV x) (hy : okV y) (he : x.f0 = y.f0) : value_Less.f 6 x.f0 x.f1 x.f2 y.f0 y.f1 y.f2 = some (lessV x y, true) := by
  unfold value_Less.f
  have mx : value_May.f x.f0 x.f1 x.f2 = some true := by unfold value_May.f; rw [if_pos (show -9223372036854775808 ≤ x.f1 ∧ x.f1 ≤ 9223372036854775807 from hx.2), show mayV ⟨x.f0, x.f1, x.f2⟩ = true from hx.1]
  have my : value_May.f y.f0 y.f1 y.f2 = some true := by unfold value_May.f; rw [if_pos (show -9223372036854775808 ≤ y.f1 ∧ y.f1 ≤ 9223372036854775807 from hy.2), show mayV ⟨y.f0, y.f1, y.f2⟩ = true from hy.1]
  have hne : (x.f0 != y.f0) = false := by rw [he]; exact bne_self_eq_false _
  rw [mx, my, Option.bind_some, Option.bind_some, if_pos rfl, if_pos rfl, hne]
  simp only [value_Less.j0]
  rw [if_neg (by decide), cmp_int_is, Option.bind_some, show cmp_Compare_string.f x.f2 y.f2 = some (cmpS x.f2 y.f2) from rfl, Option.bind_some, or_two, Option.bind_some]
  unfold lessV
  by_cases h2 : x.f0 = 2
  · have h3 : y.f0 = 2 := he ▸ h2
    rw [if_pos h2, (mayV_bytes hx.1 h2).1, (mayV_bytes hy.1 h3).1]
    rw [if_pos (by decide)]
    unfold cmpS
    cases Op.bytesLess x.f2.toList y.f2.toList
    · rw [if_neg (by decide)]
      split <;> rfl
    · rw [if_pos rfl]; rfl
  · have h3 : y.f0 ≠ 2 := fun h => h2 (he.trans h)
    have hc : cmpS x.f2 y.f2 = 0 := by unfold cmpS; rw [mayV_text hx.1 h2, mayV_text hy.1 h3]; rfl
    rw [if_neg h2, hc]
    congr 2
    rw [decide_eq_decide]
    split <;> (split at * <;> omega)
theorem less_told (x y : SValue) (w : World) (hx : okV x) (hy : okV y) (he : x.f0 = y.f0) {b : Bool} (hb : lessV x y = b) : Calls Try.prog 28 #[.agg #[.int .i64 x.f0, .int .i64 x.f1, .string x.f2], .agg #[.int .i64 y.f0, .int .i64 y.f1, .string y.f2]] w fun e w' => e = .returned (.tuple #[.bool b, .bool true]) ∧ Below w.heap.size w w' := by
  subst hb
  exact value_Less.calls 6 _ _ _ _ _ _ _ _ w (less_is hx hy he)
end Go.Proofs.Ytncllbokeofdjaa.P

namespace Go.Proofs.Ytncllbokeofdjaa.P
open Go.RowKit Go.Proofs.YtncllbokeofdjaaW.PrintWords Go.Proofs.YtncllbokeofdjaaW.PrintLast Go.Proofs.YtncllbokeofdjaaW.PrintMore
attribute [local go_sem] max2_int min2_int max_two min_two max_three min_three max_four min_four   -- for this text's walks alone
set_option linter.unusedVariables false
set_option linter.unusedSimpArgs false
def expr_sum.f (a0 : Int) (a1 : Int) (a2 : Int) : Option (Int × Bool) := if a0 = 2 then (some (wrap64 (a1 + a2), ((decide ((wrap64 (a1 + a2)) > a1)) == (decide (a2 > 0))))) else (if a0 = 3 then (some (wrap64 (a1 - a2), ((decide ((wrap64 (a1 - a2)) < a1)) == (decide (a2 > 0))))) else (if a1 = 0 then (some (0, true)) else (if a2 = 0 then (some (0, true)) else (if (wrap64 (Int.tdiv (wrap64 (a1 * a2)) a2)) = a1 then (if a2 = (-1) then (if (a1 = (wrap64 (a1 * a2))) then (some (wrap64 (a1 * a2), false)) else (if a1 = (-1) then (some (wrap64 (a1 * a2), !(a2 == (wrap64 (a1 * a2))))) else (some (wrap64 (a1 * a2), !false)))) else (if a1 = (-1) then (some (wrap64 (a1 * a2), !(a2 == (wrap64 (a1 * a2))))) else (some (wrap64 (a1 * a2), !false)))) else (some (wrap64 (a1 * a2), false))))))
set_option maxHeartbeats 8000000 in
set_option maxRecDepth 100000 in
theorem expr_sum.calls (a0 : Int) (a1 : Int) (a2 : Int) (r1 : Int) (r2 : Bool) (w : World) (h : expr_sum.f a0 a1 a2 = some (r1, r2)) :
    Calls Try.prog 87 #[.int .i64 a0, .int .i64 a1, .int .i64 a2] w fun e w' => e = .returned (.tuple #[.int .i64 r1, .bool r2]) ∧ Drawn0 w w' := by
  have H : (if a0 = 2 then (some (wrap64 (a1 + a2), ((decide ((wrap64 (a1 + a2)) > a1)) == (decide (a2 > 0))))) else (if a0 = 3 then (some (wrap64 (a1 - a2), ((decide ((wrap64 (a1 - a2)) < a1)) == (decide (a2 > 0))))) else (if a1 = 0 then (some (0, true)) else (if a2 = 0 then (some (0, true)) else (if (wrap64 (Int.tdiv (wrap64 (a1 * a2)) a2)) = a1 then (if a2 = (-1) then (if (a1 = (wrap64 (a1 * a2))) then (some (wrap64 (a1 * a2), false)) else (if a1 = (-1) then (some (wrap64 (a1 * a2), !(a2 == (wrap64 (a1 * a2))))) else (some (wrap64 (a1 * a2), !false)))) else (if a1 = (-1) then (some (wrap64 (a1 * a2), !(a2 == (wrap64 (a1 * a2))))) else (some (wrap64 (a1 * a2), !false)))) else (some (wrap64 (a1 * a2), false))))))) = some (r1, r2) := h
  clear h
  by_cases c4 : a0 = 2
  · rw [if_pos c4] at H
    have c4b0 : (a0 == 2) = true := beq_iff_eq.mpr c4
    have c4b1 : (a0 != 2) = false := bne_eq_false_iff_eq.mpr c4
    clear c4
    simp only [Option.some.injEq, Prod.mk.injEq] at H
    obtain ⟨rfl, rfl⟩ := H
    go_enter Try.func87, Try.ntmps87
    go_wp2
    go_ret2
    exact ⟨by first | rfl | (simp; done) | (simp [*]; done), by repeat (first | exact Drawn0.refl _ | apply Drawn0.step)⟩
  · rw [if_neg c4] at H
    have c4b0 : (a0 == 2) = false := beq_eq_false_iff_ne.mpr c4
    have c4b1 : (a0 != 2) = true := bne_iff_ne.mpr c4
    by_cases c5 : a0 = 3
    · rw [if_pos c5] at H
      have c5b0 : (a0 == 3) = true := beq_iff_eq.mpr c5
      have c5b1 : (a0 != 3) = false := bne_eq_false_iff_eq.mpr c5
      clear c5
      simp only [Option.some.injEq, Prod.mk.injEq] at H
      obtain ⟨rfl, rfl⟩ := H
      go_enter Try.func87, Try.ntmps87
      go_wp2
      go_ret2
      exact ⟨by first | rfl | (simp; done) | (simp [*]; done), by repeat (first | exact Drawn0.refl _ | apply Drawn0.step)⟩
    · rw [if_neg c5] at H
      have c5b0 : (a0 == 3) = false := beq_eq_false_iff_ne.mpr c5
      have c5b1 : (a0 != 3) = true := bne_iff_ne.mpr c5
      by_cases c6 : a1 = 0
      · rw [if_pos c6] at H
        have c6b0 : (a1 == 0) = true := beq_iff_eq.mpr c6
        have c6b1 : (a1 != 0) = false := bne_eq_false_iff_eq.mpr c6
        clear c6
        simp only [Option.some.injEq, Prod.mk.injEq] at H
        obtain ⟨rfl, rfl⟩ := H
        go_enter Try.func87, Try.ntmps87
        go_wp2
        go_ret2
        exact ⟨by first | rfl | (simp; done) | (simp [*]; done), by repeat (first | exact Drawn0.refl _ | apply Drawn0.step)⟩
      · rw [if_neg c6] at H
        have c6b0 : (a1 == 0) = false := beq_eq_false_iff_ne.mpr c6
        have c6b1 : (a1 != 0) = true := bne_iff_ne.mpr c6
        by_cases c7 : a2 = 0
        · rw [if_pos c7] at H
          have c7b0 : (a2 == 0) = true := beq_iff_eq.mpr c7
          have c7b1 : (a2 != 0) = false := bne_eq_false_iff_eq.mpr c7
          clear c7
          simp only [Option.some.injEq, Prod.mk.injEq] at H
          obtain ⟨rfl, rfl⟩ := H
          go_enter Try.func87, Try.ntmps87
          go_wp2
          go_ret2
          exact ⟨by first | rfl | (simp; done) | (simp [*]; done), by repeat (first | exact Drawn0.refl _ | apply Drawn0.step)⟩
        · rw [if_neg c7] at H
          have c7b0 : (a2 == 0) = false := beq_eq_false_iff_ne.mpr c7
          have c7b1 : (a2 != 0) = true := bne_iff_ne.mpr c7
          by_cases c8 : (wrap64 (Int.tdiv (wrap64 (a1 * a2)) a2)) = a1
          · rw [if_pos c8] at H
            have c8b0 : ((wrap64 (Int.tdiv (wrap64 (a1 * a2)) a2)) == a1) = true := beq_iff_eq.mpr c8
            have c8b1 : ((wrap64 (Int.tdiv (wrap64 (a1 * a2)) a2)) != a1) = false := bne_eq_false_iff_eq.mpr c8
            clear c8
            by_cases c9 : a2 = (-1)
            · rw [if_pos c9] at H
              have c9b0 : (a2 == (-1)) = true := beq_iff_eq.mpr c9
              have c9b1 : (a2 != (-1)) = false := bne_eq_false_iff_eq.mpr c9
              clear c9
              by_cases c10 : (a1 = (wrap64 (a1 * a2)))
              · rw [if_pos c10] at H
                have c10b0 : (a1 == (wrap64 (a1 * a2))) = true := beq_iff_eq.mpr c10
                have c10b1 : (a1 != (wrap64 (a1 * a2))) = false := bne_eq_false_iff_eq.mpr c10
                clear c10
                simp only [Option.some.injEq, Prod.mk.injEq] at H
                obtain ⟨rfl, rfl⟩ := H
                go_enter Try.func87, Try.ntmps87
                go_wp2
                go_ret2
                exact ⟨by first | rfl | (simp; done) | (simp [*]; done), by repeat (first | exact Drawn0.refl _ | apply Drawn0.step)⟩
              · rw [if_neg c10] at H
                have c10b0 : (a1 == (wrap64 (a1 * a2))) = false := beq_eq_false_iff_ne.mpr c10
                have c10b1 : (a1 != (wrap64 (a1 * a2))) = true := bne_iff_ne.mpr c10
                by_cases c11 : a1 = (-1)
                · rw [if_pos c11] at H
                  have c11b0 : (a1 == (-1)) = true := beq_iff_eq.mpr c11
                  have c11b1 : (a1 != (-1)) = false := bne_eq_false_iff_eq.mpr c11
                  clear c11
                  simp only [Option.some.injEq, Prod.mk.injEq] at H
                  obtain ⟨rfl, rfl⟩ := H
                  go_enter Try.func87, Try.ntmps87
                  go_wp2
                  go_ret2
                  exact ⟨by first | rfl | (simp; done) | (simp [*]; done), by repeat (first | exact Drawn0.refl _ | apply Drawn0.step)⟩
                · rw [if_neg c11] at H
                  have c11b0 : (a1 == (-1)) = false := beq_eq_false_iff_ne.mpr c11
                  have c11b1 : (a1 != (-1)) = true := bne_iff_ne.mpr c11
                  simp only [Option.some.injEq, Prod.mk.injEq] at H
                  obtain ⟨rfl, rfl⟩ := H
                  go_enter Try.func87, Try.ntmps87
                  go_wp2
                  go_ret2
                  exact ⟨by first | rfl | (simp; done) | (simp [*]; done), by repeat (first | exact Drawn0.refl _ | apply Drawn0.step)⟩
            · rw [if_neg c9] at H
              have c9b0 : (a2 == (-1)) = false := beq_eq_false_iff_ne.mpr c9
              have c9b1 : (a2 != (-1)) = true := bne_iff_ne.mpr c9
              by_cases c12 : a1 = (-1)
              · rw [if_pos c12] at H
                have c12b0 : (a1 == (-1)) = true := beq_iff_eq.mpr c12
                have c12b1 : (a1 != (-1)) = false := bne_eq_false_iff_eq.mpr c12
                clear c12
                simp only [Option.some.injEq, Prod.mk.injEq] at H
                obtain ⟨rfl, rfl⟩ := H
                go_enter Try.func87, Try.ntmps87
                go_wp2
                go_ret2
                exact ⟨by first | rfl | (simp; done) | (simp [*]; done), by repeat (first | exact Drawn0.refl _ | apply Drawn0.step)⟩
              · rw [if_neg c12] at H
                have c12b0 : (a1 == (-1)) = false := beq_eq_false_iff_ne.mpr c12
                have c12b1 : (a1 != (-1)) = true := bne_iff_ne.mpr c12
                simp only [Option.some.injEq, Prod.mk.injEq] at H
                obtain ⟨rfl, rfl⟩ := H
                go_enter Try.func87, Try.ntmps87
                go_wp2
                go_ret2
                exact ⟨by first | rfl | (simp; done) | (simp [*]; done), by repeat (first | exact Drawn0.refl _ | apply Drawn0.step)⟩
          · rw [if_neg c8] at H
            have c8b0 : ((wrap64 (Int.tdiv (wrap64 (a1 * a2)) a2)) == a1) = false := beq_eq_false_iff_ne.mpr c8
            have c8b1 : ((wrap64 (Int.tdiv (wrap64 (a1 * a2)) a2)) != a1) = true := bne_iff_ne.mpr c8
            simp only [Option.some.injEq, Prod.mk.injEq] at H
            obtain ⟨rfl, rfl⟩ := H
            go_enter Try.func87, Try.ntmps87
            go_wp2
            go_ret2
            exact ⟨by first | rfl | (simp; done) | (simp [*]; done), by repeat (first | exact Drawn0.refl _ | apply Drawn0.step)⟩
theorem sum_some {code a b n : Int} (ha : -9223372036854775808 ≤ a ∧ a ≤ 9223372036854775807) (hb : -9223372036854775808 ≤ b ∧ b ≤ 9223372036854775807) (h : sumV code a b = some n) (w : World) : Calls Try.prog 87 #[.int .i64 code, .int .i64 a, .int .i64 b] w fun e w' => e = .returned (.tuple #[.int .i64 n, .bool true]) ∧ Below w.heap.size w w' := by
  obtain ⟨rfl, hr⟩ := sumV_some h
  refine (expr_sum.calls code a b _ true w ?_).mono fun e w' ⟨h1, h2⟩ => ⟨h1, h2.below⟩
  unfold expr_sum.f
  by_cases h2 : code = 2
  · subst h2
    rw [arith2] at hr ⊢
    rw [if_pos rfl, sum_wrap ha hb, decide_eq_true hr, wrap64_in hr]
  rw [if_neg h2]
  by_cases h3 : code = 3
  · subst h3
    rw [arith3] at hr ⊢
    rw [if_pos rfl, diff_wrap ha hb, decide_eq_true hr, wrap64_in hr]
  rw [if_neg h3]
  rw [arithT h2 h3] at hr ⊢
  by_cases ha0 : a = 0
  · rw [if_pos ha0, ha0, Int.zero_mul]
  rw [if_neg ha0]
  by_cases hb0 : b = 0
  · rw [if_pos hb0, hb0, Int.mul_zero]
  rw [if_neg hb0, if_pos (prod_back ha hb0 hr), wrap64_in hr]
  by_cases hb1 : b = -1
  · subst hb1
    rw [if_pos rfl, if_neg (by omega)]
    by_cases ha1 : a = -1
    · subst ha1; rw [if_pos rfl]; rfl
    · rw [if_neg ha1]; rfl
  · rw [if_neg hb1]
    by_cases ha1 : a = -1
    · subst ha1
      rw [if_pos rfl]
      have : (b == -1 * b) = false := beq_eq_false_iff_ne.2 (by omega)
      rw [this]; rfl
    · rw [if_neg ha1]; rfl
theorem sum_none {code a b : Int} (ha : -9223372036854775808 ≤ a ∧ a ≤ 9223372036854775807) (hb : -9223372036854775808 ≤ b ∧ b ≤ 9223372036854775807) (h : sumV code a b = none) : ∃ n, ∀ w, Calls Try.prog 87 #[.int .i64 code, .int .i64 a, .int .i64 b] w fun e w' => e = .returned (.tuple #[.int .i64 n, .bool false]) ∧ Below w.heap.size w w' := by
  have hr := sumV_none h
  have hx : expr_sum.f code a b = some (wrap64 (arith code a b), false) := by
    unfold expr_sum.f
    by_cases h2 : code = 2
    · subst h2
      rw [arith2] at hr ⊢
      rw [if_pos rfl, sum_wrap ha hb, decide_eq_false hr]
    rw [if_neg h2]
    by_cases h3 : code = 3
    · subst h3
      rw [arith3] at hr ⊢
      rw [if_pos rfl, diff_wrap ha hb, decide_eq_false hr]
    rw [if_neg h3]
    rw [arithT h2 h3] at hr ⊢
    rw [if_neg (by rintro rfl; apply hr; rw [Int.zero_mul]; decide), if_neg (by rintro rfl; apply hr; rw [Int.mul_zero]; decide)]
    have hb0 : b ≠ 0 := by rintro rfl; apply hr; rw [Int.mul_zero]; decide
    by_cases hq : wrap64 (Int.tdiv (wrap64 (a * b)) b) = a
    · rw [if_pos hq]
      by_cases hs : b = -1 ∧ a = -9223372036854775808
      · obtain ⟨rfl, rfl⟩ := hs
        rw [if_pos rfl, if_pos (by decide +kernel)]
      · exact absurd (prod_test ha hb hb0 hs hq) hr
    · rw [if_neg hq]
  exact ⟨_, fun w => (expr_sum.calls code a b _ false w hx).mono fun e w' ⟨h1, h2⟩ => ⟨h1, h2.below⟩⟩
end Go.Proofs.Ytncllbokeofdjaa.P

namespace Go.Proofs.Ytncllbokeofdjaa.P
open Go.RowKit Go.Proofs.YtncllbokeofdjaaW.PrintWords Go.Proofs.YtncllbokeofdjaaW.PrintLast Go.Proofs.YtncllbokeofdjaaW.PrintMore
attribute [local go_sem] max2_int min2_int max_two min_two max_three min_three max_four min_four   -- for this text's walks alone
set_option linter.unusedVariables false
set_option linter.unusedSimpArgs false
attribute [local go_sem high] eqAValue
attribute [local go_sem high] eqAValue
theorem meth_num (n : Int) (w : World) : (method 241 115 (.int .i64 n) "towncrier/expr.value").run Try.prog w = .ok (103, .int .i64 n) w := by kernel_rfl
theorem meth_tru (n : Bool) (w : World) : (method 241 79 (.bool n) "towncrier/expr.value").run Try.prog w = .ok (47, .bool n) w := by kernel_rfl
theorem meth_oth (a b : Int) (s : ByteArray) (w : World) : (method 241 119 (.agg #[.int .i64 a, .int .i64 b, .string s]) "towncrier/expr.value").run Try.prog w = .ok (104, .agg #[.int .i64 a, .int .i64 b, .string s]) w := by kernel_rfl
theorem valNum_told (n : Int) (w : World) : Calls Try.prog 103 #[.int .i64 n] w (valPost (.agg #[.int .i64 0, .int .i64 n, .string ⟨#[]⟩]) w) := by
  go_enter Try.func103, Try.ntmps103
  go_wp2
  exact bodyPost_ret (v := .agg #[.int .i64 0, .int .i64 n, .string ⟨#[]⟩]) (by simp [results, Try.results103, go_sem]) rfl ⟨rfl, below_alloc (Below.refl _ _) _⟩
theorem valTru_told (b : Bool) (w : World) : Calls Try.prog 47 #[.bool b] w (valPost (.agg #[.int .i64 1, .int .i64 (if b then 1 else 0), .string ⟨#[]⟩]) w) := by
  cases b
  · go_enter Try.func47, Try.ntmps47
    go_wp2
    exact bodyPost_ret (v := .agg #[.int .i64 1, .int .i64 0, .string ⟨#[]⟩]) (by simp [results, Try.results47, go_sem]) rfl ⟨rfl, below_alloc (Below.refl _ _) _⟩
  · go_enter Try.func47, Try.ntmps47
    go_wp2
    exact bodyPost_ret (v := .agg #[.int .i64 1, .int .i64 1, .string ⟨#[]⟩]) (by simp [results, Try.results47, go_sem]) rfl ⟨rfl, below_alloc (Below.refl _ _) _⟩
theorem valOth_told (x : SValue) (w : World) : Calls Try.prog 104 #[.agg #[.int .i64 x.f0, .int .i64 x.f1, .string x.f2]] w (valPost (.agg #[.int .i64 x.f0, .int .i64 x.f1, .string x.f2]) w) := by
  go_enter Try.func104, Try.ntmps104
  go_wp2
  exact bodyPost_ret (v := .agg #[.int .i64 x.f0, .int .i64 x.f1, .string x.f2]) (by simp [results, Try.results104, go_sem]) rfl ⟨rfl, below_alloc (below_alloc (Below.refl _ _) _) _⟩
theorem as_num_tru (n : Int) (w : World) : (Instr.typeAssert (.iface 115 (.int .i64 n)) 95 79 true).run Try.prog w = .ok (.tuple #[(.bool false : Value), .bool false]) w := by kernel_rfl
theorem as_num_num (n : Int) (w : World) : (Instr.typeAssert (.iface 115 (.int .i64 n)) 95 115 true).run Try.prog w = .ok (.tuple #[(.int .i64 n : Value), .bool true]) w := by kernel_rfl
theorem is_num (n : Int) (w : World) : (Instr.typeAssert (.iface 115 (.int .i64 n)) 95 115 false).run Try.prog w = .ok (.int .i64 n : Value) w := by kernel_rfl
theorem as_tru_tru (n : Bool) (w : World) : (Instr.typeAssert (.iface 79 (.bool n)) 95 79 true).run Try.prog w = .ok (.tuple #[(.bool n : Value), .bool true]) w := by kernel_rfl
theorem is_tru (n : Bool) (w : World) : (Instr.typeAssert (.iface 79 (.bool n)) 95 79 false).run Try.prog w = .ok (.bool n : Value) w := by kernel_rfl
theorem as_tru_num (n : Bool) (w : World) : (Instr.typeAssert (.iface 79 (.bool n)) 95 115 true).run Try.prog w = .ok (.tuple #[(.int .i64 0 : Value), .bool false]) w := by kernel_rfl
theorem as_oth_tru (a b : Int) (s : ByteArray) (w : World) : (Instr.typeAssert (.iface 119 (.agg #[.int .i64 a, .int .i64 b, .string s])) 95 79 true).run Try.prog w = .ok (.tuple #[(.bool false : Value), .bool false]) w := by kernel_rfl
theorem as_oth_num (a b : Int) (s : ByteArray) (w : World) : (Instr.typeAssert (.iface 119 (.agg #[.int .i64 a, .int .i64 b, .string s])) 95 115 true).run Try.prog w = .ok (.tuple #[(.int .i64 0 : Value), .bool false]) w := by kernel_rfl
def ThingIs (x : SValue) (t : Nat) (v : Value) (f : Nat) : Prop :=
  thV x = .iface t v ∧ (∀ w, (method 241 t v "towncrier/expr.value").run Try.prog w = .ok (f, v) w) ∧ (∀ args w, (callFunc f args).run Try.prog w = .ok (.enter f args) w)
  ∧ (∀ w, Calls Try.prog f #[v] w (valPost (.agg #[.int .i64 x.f0, .int .i64 x.f1, .string x.f2]) w))
  ∧ (∃ p : Bool, ∀ w, (Instr.typeAssert (.iface t v) 95 79 true).run Try.prog w = .ok (.tuple #[.bool p, .bool (x.f0 == 1)]) w)
  ∧ (∃ n : Int, ∀ w, (Instr.typeAssert (.iface t v) 95 115 true).run Try.prog w = .ok (.tuple #[.int .i64 n, .bool (x.f0 == 0)]) w)
  ∧ (x.f0 = 1 → ∀ w, (Instr.typeAssert (.iface t v) 95 79 true).run Try.prog w = .ok (.tuple #[.bool (x.f1 == 1), .bool true]) w)
  ∧ (x.f0 = 0 → ∀ w, (Instr.typeAssert (.iface t v) 95 115 true).run Try.prog w = .ok (.tuple #[.int .i64 x.f1, .bool true]) w)
  ∧ (x.f0 = 1 → ∀ w, (Instr.typeAssert (.iface t v) 95 79 false).run Try.prog w = .ok (.bool (x.f1 == 1)) w)
  ∧ (x.f0 = 0 → ∀ w, (Instr.typeAssert (.iface t v) 95 115 false).run Try.prog w = .ok (.int .i64 x.f1) w)
theorem thing_is {x : SValue} (h : mayV x = true) : ∃ t v f, ThingIs x t v f := by
  obtain ⟨k, n, s⟩ := x
  unfold ThingIs
  have hm := mayV_iff.1 h
  by_cases h0 : k = 0
  · subst h0
    have hs : s = ⟨#[]⟩ := by
      rcases hm with ⟨_, h2⟩ | ⟨h1, _⟩ | ⟨h1, _⟩ | ⟨h1, _⟩
      · exact toList_nil h2
      all_goals exact absurd (show (0 : Int) = _ from h1) (by decide)
    subst hs
    refine ⟨_, _, 103, by unfold thV; rw [if_pos rfl], meth_num n, enters_of Try.func103 (by kernel_rfl) rfl, valNum_told n, ⟨_, as_num_tru n⟩, ⟨_, as_num_num n⟩, fun h => absurd (show (0 : Int) = 1 from h) (by decide), fun _ => as_num_num n, fun h => absurd (show (0 : Int) = 1 from h) (by decide), fun _ => is_num n⟩
  by_cases h1 : k = 1
  · subst h1
    have hs : s = ⟨#[]⟩ ∧ 0 ≤ n ∧ n < 2 := by
      rcases hm with ⟨h1, _⟩ | ⟨_, h2, h3, h4⟩ | ⟨h1, _⟩ | ⟨h1, _⟩
      · exact absurd (show (1 : Int) = _ from h1) (by decide)
      · exact ⟨toList_nil h2, h3, h4⟩
      all_goals exact absurd (show (1 : Int) = _ from h1) (by decide)
    obtain ⟨rfl, hn0, hn1⟩ := hs
    refine ⟨_, _, 47, by unfold thV; rw [if_neg h0, if_pos rfl], meth_tru _, enters_of Try.func47 (by kernel_rfl) rfl, ?_, ⟨_, as_tru_tru _⟩, ⟨_, as_tru_num _⟩, fun _ => as_tru_tru _, fun h => absurd (show (1 : Int) = 0 from h) (by decide), fun _ => is_tru _, fun h => absurd (show (1 : Int) = 0 from h) (by decide)⟩
    intro w
    have := valTru_told (n == 1) w
    have e : (if (n == 1) = true then (1 : Int) else 0) = n := by
      by_cases h : n = 1
      · subst h; rfl
      · rw [if_neg (by simpa using h)]; omega
    rw [e] at this
    exact this
  · have e0 : (k == 0) = false := beq_eq_false_iff_ne.2 h0
    have e1 : (k == 1) = false := beq_eq_false_iff_ne.2 h1
    refine ⟨_, _, 104, by unfold thV; rw [if_neg h0, if_neg h1], meth_oth k n s, enters_of Try.func104 (by kernel_rfl) rfl, valOth_told ⟨k, n, s⟩, ⟨_, fun w => by rw [show ((⟨k, n, s⟩ : SValue).f0 == 1) = false from e1]; exact as_oth_tru k n s w⟩, ⟨_, fun w => by rw [show ((⟨k, n, s⟩ : SValue).f0 == 0) = false from e0]; exact as_oth_num k n s w⟩, fun h => absurd h h1, fun h => absurd h h0, fun h => absurd h h1, fun h => absurd h h0⟩
def twoPost (r : Except Int SValue) (w : World) (e : Ending) (w' : World) : Prop := (match r with | .ok y => e = .returned (.tuple #[thV y, .int .i64 0]) | .error n => e = .returned (.tuple #[.nilIface, .int .i64 n])) ∧ Below w.heap.size w w'
theorem thV_tru (b : Bool) : thV (truV b) = .iface 79 (.bool b) := by cases b <;> rfl
theorem thV_num (n : Int) : thV ⟨0, n, ⟨#[]⟩⟩ = .iface 115 (.int .i64 n) := rfl
set_option maxHeartbeats 1000000 in
set_option maxRecDepth 100000 in
theorem two_differ (x y : SValue) (w : World) (hx : okV x) (hy : okV y) (code : Int) (he : x.f0 ≠ y.f0) : Calls Try.prog 79 #[.int .i64 code, thV x, thV y] w (twoPost (.error 5) w) := by
  obtain ⟨t, v, f, hx1, hx2, hx3, hx4, ⟨px, hx5⟩, ⟨nx, hx6⟩, hx7, hx8, hx9, hx10⟩ := thing_is hx.1
  obtain ⟨s, u, g, hy1, hy2, hy3, hy4, ⟨py, hy5⟩, ⟨ny, hy6⟩, hy7, hy8, hy9, hy10⟩ := thing_is hy.1
  rw [hx1, hy1]
  have HX4 := Aside0.mk hx4
  have HY4 := Aside0.mk hy4
  have HVX := Aside0.mk hx
  have HVY := Aside0.mk hy
  have HX1 := Aside0.mk hx1
  have HY1 := Aside0.mk hy1
  have he2 : (x.f0 == y.f0) = false := beq_eq_false_iff_ne.2 he
  have he3 : (x.f0 != y.f0) = true := bne_iff_ne.2 he
  clear he
  clear hx4 hy4 hx7 hx8 hx9 hx10 hy7 hy8 hy9 hy10 hx hy hx1 hy1
  go_enter Try.func79, Try.ntmps79
  go_wp2_with fail
  refine (HX4.out _).mono ?_
  rintro e w1 ⟨rfl, hb1⟩
  have HB1 := Aside0.mk hb1
  clear hb1
  go_wp2_with fail
  refine (HY4.out _).mono ?_
  rintro e w2 ⟨rfl, hb2⟩
  have HB2 := Aside0.mk (below_step HB1.out hb2)
  clear hb2
  go_wp2_with fail
  go_ret2
  exact ⟨rfl, below_alloc (below_alloc HB2.out _) _⟩
set_option maxHeartbeats 1000000 in
set_option maxRecDepth 100000 in
theorem two_six (x y : SValue) (w : World) (hx : okV x) (hy : okV y) (he : x.f0 = y.f0) : Calls Try.prog 79 #[.int .i64 6, thV x, thV y] w (twoPost (.ok (truV (eqV x y))) w) := by
  obtain ⟨t, v, f, hx1, hx2, hx3, hx4, ⟨px, hx5⟩, ⟨nx, hx6⟩, hx7, hx8, hx9, hx10⟩ := thing_is hx.1
  obtain ⟨s, u, g, hy1, hy2, hy3, hy4, ⟨py, hy5⟩, ⟨ny, hy6⟩, hy7, hy8, hy9, hy10⟩ := thing_is hy.1
  rw [hx1, hy1]
  have HX4 := Aside0.mk hx4
  have HY4 := Aside0.mk hy4
  have HVX := Aside0.mk hx
  have HVY := Aside0.mk hy
  have HX1 := Aside0.mk hx1
  have HY1 := Aside0.mk hy1
  have HE := Aside0.mk he
  have he2 : (x.f0 == y.f0) = true := beq_iff_eq.2 he
  have he3 : (x.f0 != y.f0) = false := by rw [bne, he2]; rfl
  clear he
  have heq : (x.f1 == y.f1 && x.f2.toList == y.f2.toList) = eqV x y := by unfold eqV; rw [he2, Bool.true_and]
  show Calls _ _ _ _ (fun e w' => e = .returned (.tuple #[thV (truV (eqV x y)), .int .i64 0]) ∧ Below w.heap.size w w')
  rw [thV_tru]
  generalize eqV x y = q at *
  clear hx4 hy4 hx7 hx8 hx9 hx10 hy7 hy8 hy9 hy10 hx hy hx1 hy1
  go_enter Try.func79, Try.ntmps79
  go_wp2_with fail
  refine (HX4.out _).mono ?_
  rintro e w1 ⟨rfl, hb1⟩
  have HB1 := Aside0.mk hb1
  clear hb1
  go_wp2_with fail
  refine (HY4.out _).mono ?_
  rintro e w2 ⟨rfl, hb2⟩
  have HB2 := Aside0.mk (below_step HB1.out hb2)
  clear hb2
  go_wp2_with fail
  go_ret2
  exact ⟨rfl, below_alloc (below_alloc HB2.out _) _⟩
set_option maxHeartbeats 1000000 in
set_option maxRecDepth 100000 in
theorem two_five_b (x y : SValue) (w : World) (hx : okV x) (hy : okV y) (he : x.f0 = y.f0) (h1 : x.f0 = 1) : Calls Try.prog 79 #[.int .i64 5, thV x, thV y] w (twoPost (.error 5) w) := by
  obtain ⟨t, v, f, hx1, hx2, hx3, hx4, ⟨px, hx5⟩, ⟨nx, hx6⟩, hx7, hx8, hx9, hx10⟩ := thing_is hx.1
  obtain ⟨s, u, g, hy1, hy2, hy3, hy4, ⟨py, hy5⟩, ⟨ny, hy6⟩, hy7, hy8, hy9, hy10⟩ := thing_is hy.1
  rw [hx1, hy1]
  have HX4 := Aside0.mk hx4
  have HY4 := Aside0.mk hy4
  have HVX := Aside0.mk hx
  have HVY := Aside0.mk hy
  have HX1 := Aside0.mk hx1
  have HY1 := Aside0.mk hy1
  have HE := Aside0.mk he
  have he2 : (x.f0 == y.f0) = true := beq_iff_eq.2 he
  have he3 : (x.f0 != y.f0) = false := by rw [bne, he2]; rfl
  clear he
  have h1b : (x.f0 == 1) = true := beq_iff_eq.2 h1
  clear h1
  clear hx4 hy4 hx7 hx8 hx9 hx10 hy7 hy8 hy9 hy10 hx hy hx1 hy1
  go_enter Try.func79, Try.ntmps79
  go_wp2_with fail
  refine (HX4.out _).mono ?_
  rintro e w1 ⟨rfl, hb1⟩
  have HB1 := Aside0.mk hb1
  clear hb1
  go_wp2_with fail
  refine (HY4.out _).mono ?_
  rintro e w2 ⟨rfl, hb2⟩
  have HB2 := Aside0.mk (below_step HB1.out hb2)
  clear hb2
  go_wp2_with fail
  go_at_call 28
  refine (less_told x y _ HVX.out HVY.out HE.out rfl).mono ?_
  rintro e w3 ⟨rfl, hb3⟩
  go_wp2_with fail
  go_ret2
  exact ⟨rfl, below_step (below_alloc (below_alloc HB2.out _) _) hb3⟩
set_option maxHeartbeats 1000000 in
set_option maxRecDepth 100000 in
theorem two_five (x y : SValue) (w : World) (hx : okV x) (hy : okV y) (he : x.f0 = y.f0) (h1 : ¬ x.f0 = 1) : Calls Try.prog 79 #[.int .i64 5, thV x, thV y] w (twoPost (.ok (truV (lessV x y))) w) := by
  obtain ⟨t, v, f, hx1, hx2, hx3, hx4, ⟨px, hx5⟩, ⟨nx, hx6⟩, hx7, hx8, hx9, hx10⟩ := thing_is hx.1
  obtain ⟨s, u, g, hy1, hy2, hy3, hy4, ⟨py, hy5⟩, ⟨ny, hy6⟩, hy7, hy8, hy9, hy10⟩ := thing_is hy.1
  rw [hx1, hy1]
  have HX4 := Aside0.mk hx4
  have HY4 := Aside0.mk hy4
  have HVX := Aside0.mk hx
  have HVY := Aside0.mk hy
  have HX1 := Aside0.mk hx1
  have HY1 := Aside0.mk hy1
  have HE := Aside0.mk he
  have he2 : (x.f0 == y.f0) = true := beq_iff_eq.2 he
  have he3 : (x.f0 != y.f0) = false := by rw [bne, he2]; rfl
  clear he
  have h1b : (x.f0 == 1) = false := beq_eq_false_iff_ne.2 h1
  clear h1
  show Calls _ _ _ _ (fun e w' => e = .returned (.tuple #[thV (truV (lessV x y)), .int .i64 0]) ∧ Below w.heap.size w w')
  rw [thV_tru]
  obtain ⟨q, hq⟩ : ∃ q, lessV x y = q := ⟨_, rfl⟩
  rw [hq]
  have HQ := Aside0.mk hq
  clear hq
  clear hx4 hy4 hx7 hx8 hx9 hx10 hy7 hy8 hy9 hy10 hx hy hx1 hy1
  go_enter Try.func79, Try.ntmps79
  go_wp2_with fail
  refine (HX4.out _).mono ?_
  rintro e w1 ⟨rfl, hb1⟩
  have HB1 := Aside0.mk hb1
  clear hb1
  go_wp2_with fail
  refine (HY4.out _).mono ?_
  rintro e w2 ⟨rfl, hb2⟩
  have HB2 := Aside0.mk (below_step HB1.out hb2)
  clear hb2
  go_wp2_with fail
  go_at_call 28
  refine (less_told x y _ HVX.out HVY.out HE.out HQ.out).mono ?_
  rintro e w3 ⟨rfl, hb3⟩
  go_wp2_with fail
  go_ret2
  exact ⟨rfl, below_step (below_alloc (below_alloc HB2.out _) _) hb3⟩
set_option maxHeartbeats 1000000 in
set_option maxRecDepth 100000 in
theorem two_seven (x y : SValue) (w : World) (hx : okV x) (hy : okV y) (he : x.f0 = y.f0) (h1 : x.f0 = 1) : Calls Try.prog 79 #[.int .i64 7, thV x, thV y] w (twoPost (.ok (truV (x.f1 == 1 && y.f1 == 1))) w) := by
  obtain ⟨t, v, f, hx1, hx2, hx3, hx4, ⟨px, hx5⟩, ⟨nx, hx6⟩, hx7, hx8, hx9, hx10⟩ := thing_is hx.1
  obtain ⟨s, u, g, hy1, hy2, hy3, hy4, ⟨py, hy5⟩, ⟨ny, hy6⟩, hy7, hy8, hy9, hy10⟩ := thing_is hy.1
  rw [hx1, hy1]
  have HX4 := Aside0.mk hx4
  have HY4 := Aside0.mk hy4
  have HVX := Aside0.mk hx
  have HVY := Aside0.mk hy
  have HX1 := Aside0.mk hx1
  have HY1 := Aside0.mk hy1
  have hy1' : y.f0 = 1 := by omega
  have a1 := hx9 h1
  have a2 := hy9 hy1'
  have a3 := hx7 h1
  have HE := Aside0.mk he
  have he2 : (x.f0 == y.f0) = true := beq_iff_eq.2 he
  have he3 : (x.f0 != y.f0) = false := by rw [bne, he2]; rfl
  clear he
  show Calls _ _ _ _ (fun e w' => e = .returned (.tuple #[thV (truV (x.f1 == 1 && y.f1 == 1)), .int .i64 0]) ∧ Below w.heap.size w w')
  rw [thV_tru]
  clear h1 hy1' hx5
  generalize (x.f1 == 1) = p at *
  generalize (y.f1 == 1) = q at *
  clear hx4 hy4 hx7 hx8 hx9 hx10 hy7 hy8 hy9 hy10 hx hy hx1 hy1
  cases p <;> cases q
  all_goals
    go_enter Try.func79, Try.ntmps79
    go_wp2_with fail
    refine (HX4.out _).mono ?_
    rintro e w1 ⟨rfl, hb1⟩
    have HB1 := Aside0.mk hb1
    clear hb1
    go_wp2_with fail
    refine (HY4.out _).mono ?_
    rintro e w2 ⟨rfl, hb2⟩
    have HB2 := Aside0.mk (below_step HB1.out hb2)
    clear hb2
    go_wp2_with fail
    go_quiet (fail)
    go_wp2_with fail
    go_ret2
    exact ⟨rfl, pw_below_drewN (below_alloc (below_alloc HB2.out _) _) _⟩
set_option maxHeartbeats 1000000 in
set_option maxRecDepth 100000 in
theorem two_seven_no (x y : SValue) (w : World) (hx : okV x) (hy : okV y) (he : x.f0 = y.f0) (h1 : ¬ x.f0 = 1) : Calls Try.prog 79 #[.int .i64 7, thV x, thV y] w (twoPost (.error 5) w) := by
  obtain ⟨t, v, f, hx1, hx2, hx3, hx4, ⟨px, hx5⟩, ⟨nx, hx6⟩, hx7, hx8, hx9, hx10⟩ := thing_is hx.1
  obtain ⟨s, u, g, hy1, hy2, hy3, hy4, ⟨py, hy5⟩, ⟨ny, hy6⟩, hy7, hy8, hy9, hy10⟩ := thing_is hy.1
  rw [hx1, hy1]
  have HX4 := Aside0.mk hx4
  have HY4 := Aside0.mk hy4
  have HVX := Aside0.mk hx
  have HVY := Aside0.mk hy
  have HX1 := Aside0.mk hx1
  have HY1 := Aside0.mk hy1
  have HE := Aside0.mk he
  have he2 : (x.f0 == y.f0) = true := beq_iff_eq.2 he
  have he3 : (x.f0 != y.f0) = false := by rw [bne, he2]; rfl
  clear he
  have h1b : (x.f0 == 1) = false := beq_eq_false_iff_ne.2 h1
  clear h1
  clear hx4 hy4 hx7 hx8 hx9 hx10 hy7 hy8 hy9 hy10 hx hy hx1 hy1
  go_enter Try.func79, Try.ntmps79
  go_wp2_with fail
  refine (HX4.out _).mono ?_
  rintro e w1 ⟨rfl, hb1⟩
  have HB1 := Aside0.mk hb1
  clear hb1
  go_wp2_with fail
  refine (HY4.out _).mono ?_
  rintro e w2 ⟨rfl, hb2⟩
  have HB2 := Aside0.mk (below_step HB1.out hb2)
  clear hb2
  go_wp2_with fail
  go_ret2
  exact ⟨rfl, below_alloc (below_alloc HB2.out _) _⟩
set_option maxHeartbeats 1000000 in
set_option maxRecDepth 100000 in
theorem two_eight (x y : SValue) (w : World) (hx : okV x) (hy : okV y) (he : x.f0 = y.f0) (h1 : x.f0 = 1) : Calls Try.prog 79 #[.int .i64 8, thV x, thV y] w (twoPost (.ok (truV (x.f1 == 1 || y.f1 == 1))) w) := by
  obtain ⟨t, v, f, hx1, hx2, hx3, hx4, ⟨px, hx5⟩, ⟨nx, hx6⟩, hx7, hx8, hx9, hx10⟩ := thing_is hx.1
  obtain ⟨s, u, g, hy1, hy2, hy3, hy4, ⟨py, hy5⟩, ⟨ny, hy6⟩, hy7, hy8, hy9, hy10⟩ := thing_is hy.1
  rw [hx1, hy1]
  have HX4 := Aside0.mk hx4
  have HY4 := Aside0.mk hy4
  have HVX := Aside0.mk hx
  have HVY := Aside0.mk hy
  have HX1 := Aside0.mk hx1
  have HY1 := Aside0.mk hy1
  have hy1' : y.f0 = 1 := by omega
  have a1 := hx9 h1
  have a2 := hy9 hy1'
  have a3 := hx7 h1
  have HE := Aside0.mk he
  have he2 : (x.f0 == y.f0) = true := beq_iff_eq.2 he
  have he3 : (x.f0 != y.f0) = false := by rw [bne, he2]; rfl
  clear he
  show Calls _ _ _ _ (fun e w' => e = .returned (.tuple #[thV (truV (x.f1 == 1 || y.f1 == 1)), .int .i64 0]) ∧ Below w.heap.size w w')
  rw [thV_tru]
  clear h1 hy1' hx5
  generalize (x.f1 == 1) = p at *
  generalize (y.f1 == 1) = q at *
  clear hx4 hy4 hx7 hx8 hx9 hx10 hy7 hy8 hy9 hy10 hx hy hx1 hy1
  cases p <;> cases q
  all_goals
    go_enter Try.func79, Try.ntmps79
    go_wp2_with fail
    refine (HX4.out _).mono ?_
    rintro e w1 ⟨rfl, hb1⟩
    have HB1 := Aside0.mk hb1
    clear hb1
    go_wp2_with fail
    refine (HY4.out _).mono ?_
    rintro e w2 ⟨rfl, hb2⟩
    have HB2 := Aside0.mk (below_step HB1.out hb2)
    clear hb2
    go_wp2_with fail
    go_quiet (fail)
    go_wp2_with fail
    go_ret2
    exact ⟨rfl, pw_below_drewN (below_alloc (below_alloc HB2.out _) _) _⟩
set_option maxHeartbeats 1000000 in
set_option maxRecDepth 100000 in
theorem two_eight_no (x y : SValue) (w : World) (hx : okV x) (hy : okV y) (he : x.f0 = y.f0) (h1 : ¬ x.f0 = 1) : Calls Try.prog 79 #[.int .i64 8, thV x, thV y] w (twoPost (.error 5) w) := by
  obtain ⟨t, v, f, hx1, hx2, hx3, hx4, ⟨px, hx5⟩, ⟨nx, hx6⟩, hx7, hx8, hx9, hx10⟩ := thing_is hx.1
  obtain ⟨s, u, g, hy1, hy2, hy3, hy4, ⟨py, hy5⟩, ⟨ny, hy6⟩, hy7, hy8, hy9, hy10⟩ := thing_is hy.1
  rw [hx1, hy1]
  have HX4 := Aside0.mk hx4
  have HY4 := Aside0.mk hy4
  have HVX := Aside0.mk hx
  have HVY := Aside0.mk hy
  have HX1 := Aside0.mk hx1
  have HY1 := Aside0.mk hy1
  have HE := Aside0.mk he
  have he2 : (x.f0 == y.f0) = true := beq_iff_eq.2 he
  have he3 : (x.f0 != y.f0) = false := by rw [bne, he2]; rfl
  clear he
  have h1b : (x.f0 == 1) = false := beq_eq_false_iff_ne.2 h1
  clear h1
  clear hx4 hy4 hx7 hx8 hx9 hx10 hy7 hy8 hy9 hy10 hx hy hx1 hy1
  go_enter Try.func79, Try.ntmps79
  go_wp2_with fail
  refine (HX4.out _).mono ?_
  rintro e w1 ⟨rfl, hb1⟩
  have HB1 := Aside0.mk hb1
  clear hb1
  go_wp2_with fail
  refine (HY4.out _).mono ?_
  rintro e w2 ⟨rfl, hb2⟩
  have HB2 := Aside0.mk (below_step HB1.out hb2)
  clear hb2
  go_wp2_with fail
  go_ret2
  exact ⟨rfl, below_alloc (below_alloc HB2.out _) _⟩
set_option maxHeartbeats 1000000 in
set_option maxRecDepth 100000 in
theorem two_over (x y : SValue) (w : World) (hx : okV x) (hy : okV y) (code : Int) (he : x.f0 = y.f0) (h6 : ¬ code = 6) (h5 : ¬ code = 5) (h78 : ¬ (code = 7 ∨ code = 8)) (h0 : x.f0 = 0) (hs : sumV code x.f1 y.f1 = none) : Calls Try.prog 79 #[.int .i64 code, thV x, thV y] w (twoPost (.error 6) w) := by
  obtain ⟨t, v, f, hx1, hx2, hx3, hx4, ⟨px, hx5⟩, ⟨nx, hx6⟩, hx7, hx8, hx9, hx10⟩ := thing_is hx.1
  obtain ⟨s, u, g, hy1, hy2, hy3, hy4, ⟨py, hy5⟩, ⟨ny, hy6⟩, hy7, hy8, hy9, hy10⟩ := thing_is hy.1
  rw [hx1, hy1]
  have HX4 := Aside0.mk hx4
  have HY4 := Aside0.mk hy4
  have HVX := Aside0.mk hx
  have HVY := Aside0.mk hy
  have HX1 := Aside0.mk hx1
  have HY1 := Aside0.mk hy1
  have h0b : (x.f0 == 0) = true := beq_iff_eq.2 h0
  have hy0 : y.f0 = 0 := by omega
  have a1 := hx8 h0
  have a2 := hy10 hy0
  have HE := Aside0.mk he
  have he2 : (x.f0 == y.f0) = true := beq_iff_eq.2 he
  have he3 : (x.f0 != y.f0) = false := by rw [bne, he2]; rfl
  clear he
  have h5b : (code == 5) = false := beq_eq_false_iff_ne.2 h5
  have h6b : (code == 6) = false := beq_eq_false_iff_ne.2 h6
  have h7b : (code == 7) = false := beq_eq_false_iff_ne.2 (fun h => h78 (.inl h))
  have h8b : (code == 8) = false := beq_eq_false_iff_ne.2 (fun h => h78 (.inr h))
  clear h5 h6 h78
  obtain ⟨n, hn⟩ := sum_none hx.2 hy.2 hs
  have HS := Aside0.mk hn
  clear hn hs hx6 hy0 h0
  clear hx4 hy4 hx7 hx8 hx9 hx10 hy7 hy8 hy9 hy10 hx hy hx1 hy1
  go_enter Try.func79, Try.ntmps79
  go_wp2_with fail
  refine (HX4.out _).mono ?_
  rintro e w1 ⟨rfl, hb1⟩
  have HB1 := Aside0.mk hb1
  clear hb1
  go_wp2_with fail
  refine (HY4.out _).mono ?_
  rintro e w2 ⟨rfl, hb2⟩
  have HB2 := Aside0.mk (below_step HB1.out hb2)
  clear hb2
  go_wp2_with fail
  go_at_call 87
  refine (HS.out _).mono ?_
  rintro e w3 ⟨rfl, hb3⟩
  go_wp2_with fail
  go_ret2
  exact ⟨rfl, below_step (below_alloc (below_alloc HB2.out _) _) hb3⟩
set_option maxHeartbeats 1000000 in
set_option maxRecDepth 100000 in
theorem two_sum (x y : SValue) (w : World) (hx : okV x) (hy : okV y) (code : Int) (he : x.f0 = y.f0) (h6 : ¬ code = 6) (h5 : ¬ code = 5) (h78 : ¬ (code = 7 ∨ code = 8)) (h0 : x.f0 = 0) {n : Int} (hs : sumV code x.f1 y.f1 = some n) : Calls Try.prog 79 #[.int .i64 code, thV x, thV y] w (twoPost (.ok ⟨0, n, ⟨#[]⟩⟩) w) := by
  obtain ⟨t, v, f, hx1, hx2, hx3, hx4, ⟨px, hx5⟩, ⟨nx, hx6⟩, hx7, hx8, hx9, hx10⟩ := thing_is hx.1
  obtain ⟨s, u, g, hy1, hy2, hy3, hy4, ⟨py, hy5⟩, ⟨ny, hy6⟩, hy7, hy8, hy9, hy10⟩ := thing_is hy.1
  rw [hx1, hy1]
  have HX4 := Aside0.mk hx4
  have HY4 := Aside0.mk hy4
  have HVX := Aside0.mk hx
  have HVY := Aside0.mk hy
  have HX1 := Aside0.mk hx1
  have HY1 := Aside0.mk hy1
  have h0b : (x.f0 == 0) = true := beq_iff_eq.2 h0
  have hy0 : y.f0 = 0 := by omega
  have a1 := hx8 h0
  have a2 := hy10 hy0
  have HE := Aside0.mk he
  have he2 : (x.f0 == y.f0) = true := beq_iff_eq.2 he
  have he3 : (x.f0 != y.f0) = false := by rw [bne, he2]; rfl
  clear he
  have h5b : (code == 5) = false := beq_eq_false_iff_ne.2 h5
  have h6b : (code == 6) = false := beq_eq_false_iff_ne.2 h6
  have h7b : (code == 7) = false := beq_eq_false_iff_ne.2 (fun h => h78 (.inl h))
  have h8b : (code == 8) = false := beq_eq_false_iff_ne.2 (fun h => h78 (.inr h))
  clear h5 h6 h78
  show Calls _ _ _ _ (fun e w' => e = .returned (.tuple #[thV ⟨0, n, ⟨#[]⟩⟩, .int .i64 0]) ∧ Below w.heap.size w w')
  rw [thV_num]
  have HS := Aside0.mk (sum_some hx.2 hy.2 hs)
  clear hs hx6 hy0 h0
  clear hx4 hy4 hx7 hx8 hx9 hx10 hy7 hy8 hy9 hy10 hx hy hx1 hy1
  go_enter Try.func79, Try.ntmps79
  go_wp2_with fail
  refine (HX4.out _).mono ?_
  rintro e w1 ⟨rfl, hb1⟩
  have HB1 := Aside0.mk hb1
  clear hb1
  go_wp2_with fail
  refine (HY4.out _).mono ?_
  rintro e w2 ⟨rfl, hb2⟩
  have HB2 := Aside0.mk (below_step HB1.out hb2)
  clear hb2
  go_wp2_with fail
  go_at_call 87
  refine (HS.out _).mono ?_
  rintro e w3 ⟨rfl, hb3⟩
  go_wp2_with fail
  go_ret2
  exact ⟨rfl, below_step (below_alloc (below_alloc HB2.out _) _) hb3⟩
set_option maxHeartbeats 1000000 in
set_option maxRecDepth 100000 in
theorem two_type (x y : SValue) (w : World) (hx : okV x) (hy : okV y) (code : Int) (he : x.f0 = y.f0) (h6 : ¬ code = 6) (h5 : ¬ code = 5) (h78 : ¬ (code = 7 ∨ code = 8)) (h0 : ¬ x.f0 = 0) : Calls Try.prog 79 #[.int .i64 code, thV x, thV y] w (twoPost (.error 5) w) := by
  obtain ⟨t, v, f, hx1, hx2, hx3, hx4, ⟨px, hx5⟩, ⟨nx, hx6⟩, hx7, hx8, hx9, hx10⟩ := thing_is hx.1
  obtain ⟨s, u, g, hy1, hy2, hy3, hy4, ⟨py, hy5⟩, ⟨ny, hy6⟩, hy7, hy8, hy9, hy10⟩ := thing_is hy.1
  rw [hx1, hy1]
  have HX4 := Aside0.mk hx4
  have HY4 := Aside0.mk hy4
  have HVX := Aside0.mk hx
  have HVY := Aside0.mk hy
  have HX1 := Aside0.mk hx1
  have HY1 := Aside0.mk hy1
  have HE := Aside0.mk he
  have he2 : (x.f0 == y.f0) = true := beq_iff_eq.2 he
  have he3 : (x.f0 != y.f0) = false := by rw [bne, he2]; rfl
  clear he
  have h5b : (code == 5) = false := beq_eq_false_iff_ne.2 h5
  have h6b : (code == 6) = false := beq_eq_false_iff_ne.2 h6
  have h7b : (code == 7) = false := beq_eq_false_iff_ne.2 (fun h => h78 (.inl h))
  have h8b : (code == 8) = false := beq_eq_false_iff_ne.2 (fun h => h78 (.inr h))
  clear h5 h6 h78
  have h0b : (x.f0 == 0) = false := beq_eq_false_iff_ne.2 h0
  clear h0
  clear hx4 hy4 hx7 hx8 hx9 hx10 hy7 hy8 hy9 hy10 hx hy hx1 hy1
  go_enter Try.func79, Try.ntmps79
  go_wp2_with fail
  refine (HX4.out _).mono ?_
  rintro e w1 ⟨rfl, hb1⟩
  have HB1 := Aside0.mk hb1
  clear hb1
  go_wp2_with fail
  refine (HY4.out _).mono ?_
  rintro e w2 ⟨rfl, hb2⟩
  have HB2 := Aside0.mk (below_step HB1.out hb2)
  clear hb2
  go_wp2_with fail
  go_ret2
  exact ⟨rfl, below_alloc (below_alloc HB2.out _) _⟩
theorem two_told (code : Int) (x y : SValue) (w : World) (hx : okV x) (hy : okV y) {r : Except Int SValue} (hr : twoV code x y = r) : Calls Try.prog 79 #[.int .i64 code, thV x, thV y] w (twoPost r w) := by
  unfold twoV at hr
  by_cases he : x.f0 ≠ y.f0
  · rw [if_pos he] at hr; subst hr; exact two_differ x y w hx hy code he
  rw [if_neg he] at hr
  replace he := Classical.byContradiction he
  by_cases h6 : code = 6
  · rw [if_pos h6] at hr; subst hr h6; exact two_six x y w hx hy he
  rw [if_neg h6] at hr
  by_cases h5 : code = 5
  · rw [if_pos h5] at hr; subst h5
    by_cases h1 : x.f0 = 1
    · rw [if_pos h1] at hr; subst hr; exact two_five_b x y w hx hy he h1
    · rw [if_neg h1] at hr; subst hr; exact two_five x y w hx hy he h1
  rw [if_neg h5] at hr
  by_cases h78 : code = 7 ∨ code = 8
  · rw [if_pos h78] at hr
    by_cases h1 : x.f0 = 1
    · rw [if_pos h1] at hr; subst hr
      rcases h78 with rfl | rfl
      · exact two_seven x y w hx hy he h1
      · exact two_eight x y w hx hy he h1
    · rw [if_neg h1] at hr; subst hr
      rcases h78 with rfl | rfl
      · exact two_seven_no x y w hx hy he h1
      · exact two_eight_no x y w hx hy he h1
  rw [if_neg h78] at hr
  by_cases h0 : x.f0 = 0
  · rw [if_pos h0] at hr
    cases hs : sumV code x.f1 y.f1 with
    | none => rw [hs] at hr; subst hr; exact two_over x y w hx hy code he h6 h5 h78 h0 hs
    | some n => rw [hs] at hr; subst hr; exact two_sum x y w hx hy code he h6 h5 h78 h0 hs
  · rw [if_neg h0] at hr; subst hr; exact two_type x y w hx hy code he h6 h5 h78 h0
end Go.Proofs.Ytncllbokeofdjaa.P

namespace Go.Proofs.Ytncllbokeofdjaa.P
open Go.RowKit Go.Proofs.YtncllbokeofdjaaW.PrintWords Go.Proofs.YtncllbokeofdjaaW.PrintLast Go.Proofs.YtncllbokeofdjaaW.PrintMore
attribute [local go_sem] max2_int min2_int max_two min_two max_three min_three max_four min_four   -- for this text's walks alone
set_option linter.unusedVariables false
set_option linter.unusedSimpArgs false
def partPost (w0 : World) (B : Nat) (V : Value) (k : Bool) (r : Except Int (List SValue)) (e : Ending) (w' : World) : Prop := match r with
  | .ok q => e = .returned (.int .i64 0) ∧ pileRel w0 B V k q w'
  | .error n => e = .returned (.int .i64 n) ∧ ∃ q, pileRel w0 B V k q w'
theorem at_thing {w : World} {ad : Addr} {n : Nat} {xs : List SValue} (h : Kd.C kThing w (some ad) n xs) (i : Nat) (hi : i < n) : w.cell? (ad.add i) = some (thV (xs.getD i zValue)) := by
  obtain ⟨ad', c, e, hl, hK, hcell⟩ := Kd.C_get h zValue (i : Int) (by omega) (by omega)
  cases e
  have hK2 : c = [thV (xs.getD ((i : Int).toNat) zValue)] := hK
  subst hK2
  have := hcell 0 _ rfl
  rw [show kThing.sz = 1 from rfl, Nat.mul_one, Nat.add_zero, Int.toNat_natCast] at this
  exact this
theorem addr_zero (a : Addr) : a.add 0 = a := by simp [Addr.add]
theorem at_last {w : World} {ad : Addr} {xs : List SValue} {m : Nat} (h : Kd.C kThing w (some ad) 1 (xs.drop m)) (hm : xs.length = m + 1) : w.cell? ad = some (thV (xs.getD m zValue)) := by
  have := at_thing h 0 (by decide)
  rw [addr_zero] at this
  rw [this]
  congr 2
  simp [List.getD]
theorem lay_tru (w0 : World) (B : Nat) (V : Value) (k : Bool) (xs : List SValue) (b : Bool) (w : World) (h : pileRel w0 B V k xs w) (hB : B < w0.heap.size) (hl : xs.length ≤ 1000) :
    Calls Try.prog 75 #[.pointer (some ⟨B, 0, none⟩), .iface 79 (.bool b)] w fun e w' => e = .returned (.tuple #[]) ∧ pileRel w0 B V k (xs ++ [truV b]) w' := by
  have := lay_told w0 B V k xs (truV b) w h hB hl
  rwa [thV_tru] at this
set_option maxHeartbeats 1000000 in
set_option maxRecDepth 100000 in
theorem not_told (w0 : World) (B : Nat) (V : Value) (k : Bool) (xs : List SValue) (w : World) (h : pileRel w0 B V k xs w) (hB : B < w0.heap.size) (hl : xs.length ≤ 1000) (hok : okVs xs) {r : Except Int (List SValue)}
    (hr : (if xs.length < 1 then .error 2 else if (xs.getD (xs.length - 1) zValue).f0 = 1 then .ok (xs.take (xs.length - 1) ++ [truV (!((xs.getD (xs.length - 1) zValue).f1 == 1))]) else .error 5 : Except Int (List SValue)) = r) :
    Calls Try.prog 77 #[.pointer (some ⟨B, 0, none⟩)] w (partPost w0 B V k r) := by
  have HH := Aside0.mk h
  by_cases hn : xs.length < 1
  · rw [if_pos hn] at hr
    subst hr
    clear h hok
    go_enter Try.func77, Try.ntmps77
    go_wp2_with fail
    go_at_call 78
    refine (take_no w0 B 1 V k xs _ HH.out hn (by decide)).mono ?_
    rintro e w1 ⟨rfl, rfl⟩
    go_wp2_with fail
    go_ret
    exact ⟨rfl, xs, HH.out⟩
  rw [if_neg hn] at hr
  obtain ⟨m, hm⟩ : ∃ m, xs.length = m + 1 := ⟨xs.length - 1, by omega⟩
  rw [show xs.length - 1 = m from by omega] at hr
  have hat := okVs_at hok (i := m) (by omega)
  obtain ⟨x, hx⟩ : ∃ x, xs.getD m zValue = x := ⟨_, rfl⟩
  rw [hx] at hr hat
  have HX := Aside0.mk hx
  obtain ⟨t, v, f, hx1, hx2, hx3, hx4, ⟨px, hx5⟩, _, hx7, _, _, _⟩ := thing_is hat.1
  have HX1 := Aside0.mk hx1
  clear hx1 hx2 hx3 hx4 hat hok h hx
  by_cases h1 : x.f0 = 1
  · rw [if_pos h1] at hr
    subst hr
    have a1 := hx7 h1
    clear hx5 hx7
    go_enter Try.func77, Try.ntmps77
    go_wp2_with fail
    go_at_call 78
    refine (take_told w0 B 1 V k xs _ HH.out hB (by decide) (by decide) hl (by omega)).mono ?_
    rintro e w1 ⟨A, c, ⟨rfl, hc, hC⟩, hp, hsp⟩
    rw [show xs.length - 1 = m from by omega] at hC hp
    have HC := Aside0.mk hC
    have HP := Aside0.mk hp
    have hcell := at_last hC hm
    rw [HX.out, HX1.out] at hcell
    have hcell2 : w1.cell? (A.add 0) = some (.iface t v) := by rw [addr_zero]; exact hcell
    clear hC hp hsp
    go_wp2_with fail
    go_at_call 75
    refine (lay_tru w0 B V k (xs.take m) (!(x.f1 == 1)) _ HP.out hB (by rw [List.length_take]; omega)).mono ?_
    rintro e w2 ⟨rfl, hp2⟩
    have HP2 := Aside0.mk hp2
    clear hp2
    go_wp2_with fail
    go_ret
    exact ⟨rfl, HP2.out⟩
  · rw [if_neg h1] at hr
    subst hr
    have h1b : (x.f0 == 1) = false := beq_eq_false_iff_ne.2 h1
    rw [h1b] at hx5
    clear hx7 h1 h1b
    go_enter Try.func77, Try.ntmps77
    go_wp2_with fail
    go_at_call 78
    refine (take_told w0 B 1 V k xs _ HH.out hB (by decide) (by decide) hl (by omega)).mono ?_
    rintro e w1 ⟨A, c, ⟨rfl, hc, hC⟩, hp, hsp⟩
    rw [show xs.length - 1 = m from by omega] at hC hp
    have HP := Aside0.mk hp
    have hcell := at_last hC hm
    rw [HX.out, HX1.out] at hcell
    have hcell2 : w1.cell? (A.add 0) = some (.iface t v) := by rw [addr_zero]; exact hcell
    clear hC hp hsp
    go_wp2_with fail
    go_ret
    exact ⟨rfl, _, HP.out⟩
end Go.Proofs.Ytncllbokeofdjaa.P

namespace Go.Proofs.Ytncllbokeofdjaa.P
open Go.RowKit Go.Proofs.YtncllbokeofdjaaW.PrintWords Go.Proofs.YtncllbokeofdjaaW.PrintLast Go.Proofs.YtncllbokeofdjaaW.PrintMore
attribute [local go_sem] max2_int min2_int max_two min_two max_three min_three max_four min_four   -- for this text's walks alone
set_option linter.unusedVariables false
set_option linter.unusedSimpArgs false
set_option maxHeartbeats 1000000 in
set_option maxRecDepth 100000 in
theorem of_told (x : SValue) (w : World) : Calls Try.prog 76 #[.agg #[.int .i64 x.f0, .int .i64 x.f1, .string x.f2]] w (valPost (thV x) w) := by
  unfold thV
  by_cases h0 : x.f0 = 0
  · rw [if_pos h0]
    have h0b : (x.f0 == 0) = true := beq_iff_eq.2 h0
    go_enter Try.func76, Try.ntmps76
    go_wp2
    go_ret
    exact ⟨rfl, below_alloc (Below.refl _ _) _⟩
  · rw [if_neg h0]
    have h0b : (x.f0 == 0) = false := beq_eq_false_iff_ne.2 h0
    by_cases h1 : x.f0 = 1
    · rw [if_pos h1]
      have h1b : (x.f0 == 1) = true := beq_iff_eq.2 h1
      go_enter Try.func76, Try.ntmps76
      go_wp2
      go_ret
      exact ⟨rfl, below_alloc (Below.refl _ _) _⟩
    · rw [if_neg h1]
      have h1b : (x.f0 == 1) = false := beq_eq_false_iff_ne.2 h1
      go_enter Try.func76, Try.ntmps76
      go_wp2
      go_ret
      exact ⟨rfl, below_alloc (Below.refl _ _) _⟩
end Go.Proofs.Ytncllbokeofdjaa.P

namespace Go.Proofs.Ytncllbokeofdjaa.P
open Go.RowKit Go.Proofs.YtncllbokeofdjaaW.PrintWords Go.Proofs.YtncllbokeofdjaaW.PrintLast Go.Proofs.YtncllbokeofdjaaW.PrintMore
attribute [local go_sem] max2_int min2_int max_two min_two max_three min_three max_four min_four   -- for this text's walks alone
set_option linter.unusedVariables false
set_option linter.unusedSimpArgs false
set_option maxHeartbeats 1000000 in
set_option maxRecDepth 100000 in
theorem part_push (w0 : World) (B : Nat) (Av : Option Addr) (cv : Nat) (vs : List SValue) (k : Bool) (xs : List SValue) (x : SOp) (w : World) (h : pileRel w0 B (.slice Av vs.length cv) k xs w) (hB : B < w0.heap.size) (hl : xs.length ≤ 1000) (hok : okVs xs) (hv : Kd.C kValue w Av vs.length vs) (hvk : okVs vs) (hx : okV x.f2) (hc : x.f0 = 0) : Calls Try.prog 59 #[.pointer (some ⟨B, 0, none⟩), .agg #[.int .i64 x.f0, .int .i64 x.f1, .int .i64 x.f2.f0, .int .i64 x.f2.f1, .string x.f2.f2]] w (partPost w0 B (.slice Av vs.length cv) k (.ok (xs ++ [x.f2]))) := by
  have HH := Aside0.mk h
  have hc0 : (x.f0 == 0) = true := beq_iff_eq.2 hc
  clear h hok hv hvk hx hc
  go_enter Try.func59, Try.ntmps59
  go_wp2_with fail
  go_at_call 76
  refine (of_told x.f2 _).mono ?_
  rintro e w1 ⟨rfl, hb1⟩
  have HP1 := Aside0.mk (HH.out.below (below_step (below_alloc (Below.refl _ _) _) hb1))
  clear hb1
  go_wp2_with fail
  go_at_call 75
  refine (lay_told w0 B _ k xs x.f2 _ HP1.out hB hl).mono ?_
  rintro e w2 ⟨rfl, hp2⟩
  have HP2 := Aside0.mk hp2
  clear hp2
  go_wp2_with fail
  go_ret
  exact ⟨rfl, HP2.out⟩
set_option maxHeartbeats 1000000 in
set_option maxRecDepth 100000 in
theorem part_none (w0 : World) (B : Nat) (Av : Option Addr) (cv : Nat) (vs : List SValue) (k : Bool) (xs : List SValue) (x : SOp) (w : World) (h : pileRel w0 B (.slice Av vs.length cv) k xs w) (hB : B < w0.heap.size) (hl : xs.length ≤ 1000) (hok : okVs xs) (hv : Kd.C kValue w Av vs.length vs) (hvk : okVs vs) (hx : okV x.f2) (hc : x.f0 = 1) (h0 : 0 ≤ x.f1) (hi : ¬ x.f1.toNat < vs.length) : Calls Try.prog 59 #[.pointer (some ⟨B, 0, none⟩), .agg #[.int .i64 x.f0, .int .i64 x.f1, .int .i64 x.f2.f0, .int .i64 x.f2.f1, .string x.f2.f2]] w (partPost w0 B (.slice Av vs.length cv) k (.error 3)) := by
  have HH := Aside0.mk h
  have hc0 : (x.f0 == 0) = false := beq_eq_false_iff_ne.2 (by omega)
  have hc1 : (x.f0 == 1) = true := beq_iff_eq.2 hc
  have hge : (vs.length : Int) ≤ x.f1 := by omega
  have hged : decide ((vs.length : Int) ≤ x.f1) = true := decide_eq_true hge
  obtain ⟨v, hb, ho, hs⟩ := h
  obtain ⟨A, c, rfl⟩ := Kd.R_slice ho
  unfold pileBlk at hb
  obtain ⟨k1, k2, k3, k4⟩ := know hb
  obtain ⟨q1, q2, q3, q4⟩ := know (blk_new w (.cells #[.int .i64 x.f0, .int .i64 x.f1, .int .i64 x.f2.f0, .int .i64 x.f2.f1, .string x.f2.f2] 50))
  have HK := Aside0.mk (blk_alloc hb (.cells #[.int .i64 x.f0, .int .i64 x.f1, .int .i64 x.f2.f0, .int .i64 x.f2.f1, .string x.f2.f2] 50))
  have hcp : ∀ m, ((w.alloc (.cells #[.int .i64 x.f0, .int .i64 x.f1, .int .i64 x.f2.f0, .int .i64 x.f2.f1, .string x.f2.f2] 50)).drewN m).cell? ⟨B, 1, none⟩ = some (.slice Av vs.length cv) := fun m => blk_cell (blk_drewN HK.out m) 1
  have hcq : ∀ m, ((w.alloc (.cells #[.int .i64 x.f0, .int .i64 x.f1, .int .i64 x.f2.f0, .int .i64 x.f2.f1, .string x.f2.f2] 50)).drewN m).cell? ⟨w.heap.size, 1, none⟩ = some (.int .i64 x.f1) := fun m => blk_cell (blk_drewN (blk_new w (.cells #[.int .i64 x.f0, .int .i64 x.f1, .int .i64 x.f2.f0, .int .i64 x.f2.f1, .string x.f2.f2] 50)) m) 1
  clear hok hv hvk hx hc ho hs hb
  go_enter Try.func59, Try.ntmps59
  go_wp2_with fail
  go_quiet (fail)
  go_wp2_with fail
  go_ret
  exact ⟨rfl, _, HH.out.below (pw_below_drewN (below_alloc (Below.refl _ _) _) _)⟩
set_option maxHeartbeats 1000000 in
set_option maxRecDepth 100000 in
theorem part_load (w0 : World) (B : Nat) (Av : Option Addr) (cv : Nat) (vs : List SValue) (k : Bool) (xs : List SValue) (x : SOp) (w : World) (h : pileRel w0 B (.slice Av vs.length cv) k xs w) (hB : B < w0.heap.size) (hl : xs.length ≤ 1000) (hok : okVs xs) (hv : Kd.C kValue w Av vs.length vs) (hvk : okVs vs) (hx : okV x.f2) (hc : x.f0 = 1) (h0 : 0 ≤ x.f1) (hi : x.f1.toNat < vs.length) : Calls Try.prog 59 #[.pointer (some ⟨B, 0, none⟩), .agg #[.int .i64 x.f0, .int .i64 x.f1, .int .i64 x.f2.f0, .int .i64 x.f2.f1, .string x.f2.f2]] w (partPost w0 B (.slice Av vs.length cv) k (.ok (xs ++ [vs.getD x.f1.toNat zValue]))) := by
  have HH := Aside0.mk h
  have hc0 : (x.f0 == 0) = false := beq_eq_false_iff_ne.2 (by omega)
  have hc1 : (x.f0 == 1) = true := beq_iff_eq.2 hc
  have hge : ¬ (vs.length : Int) ≤ x.f1 := by omega
  have hged : decide ((vs.length : Int) ≤ x.f1) = false := decide_eq_false hge
  have hlt : x.f1 < (vs.length : Int) := by omega
  obtain ⟨v, hb, ho, hs⟩ := h
  obtain ⟨A, c, rfl⟩ := Kd.R_slice ho
  unfold pileBlk at hb
  obtain ⟨k1, k2, k3, k4⟩ := know hb
  obtain ⟨q1, q2, q3, q4⟩ := know (blk_new w (.cells #[.int .i64 x.f0, .int .i64 x.f1, .int .i64 x.f2.f0, .int .i64 x.f2.f1, .string x.f2.f2] 50))
  have HK := Aside0.mk (blk_alloc hb (.cells #[.int .i64 x.f0, .int .i64 x.f1, .int .i64 x.f2.f0, .int .i64 x.f2.f1, .string x.f2.f2] 50))
  have hcp : ∀ m, ((w.alloc (.cells #[.int .i64 x.f0, .int .i64 x.f1, .int .i64 x.f2.f0, .int .i64 x.f2.f1, .string x.f2.f2] 50)).drewN m).cell? ⟨B, 1, none⟩ = some (.slice Av vs.length cv) := fun m => blk_cell (blk_drewN HK.out m) 1
  have hcq : ∀ m, ((w.alloc (.cells #[.int .i64 x.f0, .int .i64 x.f1, .int .i64 x.f2.f0, .int .i64 x.f2.f1, .string x.f2.f2] 50)).drewN m).cell? ⟨w.heap.size, 1, none⟩ = some (.int .i64 x.f1) := fun m => blk_cell (blk_drewN (blk_new w (.cells #[.int .i64 x.f0, .int .i64 x.f1, .int .i64 x.f2.f0, .int .i64 x.f2.f1, .string x.f2.f2] 50)) m) 1
  obtain ⟨ad, e, z0, z1, z2⟩ := at_TValue hv x.f1 h0 hlt
  subst e
  rw [show rd_TValue vs x.f1 = vs.getD x.f1.toNat zValue from rfl] at z0 z1 z2
  obtain ⟨y, hy⟩ : ∃ y, vs.getD x.f1.toNat zValue = y := ⟨_, rfl⟩
  rw [hy] at z0 z1 z2 ⊢
  clear hok hv hvk hx hc ho hs hb hy
  go_enter Try.func59, Try.ntmps59
  go_wp2_with fail
  go_quiet (fail)
  go_wp2_with fail
  have HPQ := Aside0.mk (HH.out.below (pw_below_drewN (below_alloc (Below.refl _ _) (.cells #[.int .i64 x.f0, .int .i64 x.f1, .int .i64 x.f2.f0, .int .i64 x.f2.f1, .string x.f2.f2] 50)) nq))
  have f1 := hcp nq
  have f2 := hcq nq
  have f3 : ((w.alloc (.cells #[.int .i64 x.f0, .int .i64 x.f1, .int .i64 x.f2.f0, .int .i64 x.f2.f1, .string x.f2.f2] 50)).drewN nq).cell? (ad.add (x.f1.toNat * 3)) = some (Value.int IntKind.i64 y.f0) := pw_cell_below (pw_below_drewN (below_alloc (Below.refl _ _) (.cells #[.int .i64 x.f0, .int .i64 x.f1, .int .i64 x.f2.f0, .int .i64 x.f2.f1, .string x.f2.f2] 50)) nq) z0
  have f4 := pw_cell_below (pw_below_drewN (below_alloc (Below.refl _ _) (.cells #[.int .i64 x.f0, .int .i64 x.f1, .int .i64 x.f2.f0, .int .i64 x.f2.f1, .string x.f2.f2] 50)) nq) z1
  have f5 := pw_cell_below (pw_below_drewN (below_alloc (Below.refl _ _) (.cells #[.int .i64 x.f0, .int .i64 x.f1, .int .i64 x.f2.f0, .int .i64 x.f2.f1, .string x.f2.f2] 50)) nq) z2
  have HSZ := Aside0.mk (show w.heap.size < ((w.alloc (.cells #[.int .i64 x.f0, .int .i64 x.f1, .int .i64 x.f2.f0, .int .i64 x.f2.f1, .string x.f2.f2] 50)).drewN nq).heap.size by simp)
  obtain ⟨W1, hW1⟩ : ∃ W1, (w.alloc (.cells #[.int .i64 x.f0, .int .i64 x.f1, .int .i64 x.f2.f0, .int .i64 x.f2.f1, .string x.f2.f2] 50)).drewN nq = W1 := ⟨_, rfl⟩
  rw [hW1] at f1 f2 f3 f4 f5 HPQ ⊢
  clear q1 q2 q3 q4 k1 k2 k3 k4 HK hcp hcq z0 z1 z2 hW1 HSZ HH
  go_region_law (first
    | (go_simp; go_at_call 76; refine (of_told y _).mono ?_; rintro e w1 ⟨rfl, hb1⟩)
    | (go_simp; go_at_call 75; refine (lay_told w0 B _ k xs y _ (HPQ.out.below (below_step (below_drew (Below.refl _ _)) hb1)) hB hl).mono ?_; rintro e w2 ⟨rfl, hp2⟩))
  all_goals
    go_wp2_with fail
    go_ret
    exact ⟨rfl, hp2⟩
set_option maxHeartbeats 1000000 in
set_option maxRecDepth 100000 in
theorem part_not (w0 : World) (B : Nat) (Av : Option Addr) (cv : Nat) (vs : List SValue) (k : Bool) (xs : List SValue) (x : SOp) (w : World) (h : pileRel w0 B (.slice Av vs.length cv) k xs w) (hB : B < w0.heap.size) (hl : xs.length ≤ 1000) (hok : okVs xs) (hv : Kd.C kValue w Av vs.length vs) (hvk : okVs vs) (hx : okV x.f2) (hc : x.f0 = 9) {r : Except Int (List SValue)} (hr : stepV vs k x xs = r) : Calls Try.prog 59 #[.pointer (some ⟨B, 0, none⟩), .agg #[.int .i64 x.f0, .int .i64 x.f1, .int .i64 x.f2.f0, .int .i64 x.f2.f1, .string x.f2.f2]] w (partPost w0 B (.slice Av vs.length cv) k r) := by
  have HH := Aside0.mk h
  have hc0 : (x.f0 == 0) = false := beq_eq_false_iff_ne.2 (by omega)
  have hc1 : (x.f0 == 1) = false := beq_eq_false_iff_ne.2 (by omega)
  have hc9 : (x.f0 == 9) = true := beq_iff_eq.2 hc
  unfold stepV at hr
  rw [if_neg (by omega), if_neg (by omega), if_pos hc] at hr
  have HR := Aside0.mk hr
  clear h hv hvk hx hc hr
  go_enter Try.func59, Try.ntmps59
  go_wp2_with fail
  go_at_call 77
  refine (not_told w0 B _ k xs _ (HH.out.below (below_alloc (Below.refl _ _) _)) hB hl hok HR.out).mono ?_
  intro e w1 hp
  unfold partPost at hp ⊢
  cases r with
  | ok q =>
    obtain ⟨rfl, hp1⟩ := hp
    go_wp2_with fail
    go_ret
    exact ⟨rfl, hp1⟩
  | error n =>
    obtain ⟨rfl, hp1⟩ := hp
    go_wp2_with fail
    go_ret
    exact ⟨rfl, hp1⟩
set_option maxHeartbeats 1000000 in
set_option maxRecDepth 100000 in
theorem part_few (w0 : World) (B : Nat) (Av : Option Addr) (cv : Nat) (vs : List SValue) (k : Bool) (xs : List SValue) (x : SOp) (w : World) (h : pileRel w0 B (.slice Av vs.length cv) k xs w) (hB : B < w0.heap.size) (hl : xs.length ≤ 1000) (hok : okVs xs) (hv : Kd.C kValue w Av vs.length vs) (hvk : okVs vs) (hx : okV x.f2) (hc0 : ¬ x.f0 = 0) (hc1 : ¬ x.f0 = 1) (hc9 : ¬ x.f0 = 9) (hn : xs.length < 2) : Calls Try.prog 59 #[.pointer (some ⟨B, 0, none⟩), .agg #[.int .i64 x.f0, .int .i64 x.f1, .int .i64 x.f2.f0, .int .i64 x.f2.f1, .string x.f2.f2]] w (partPost w0 B (.slice Av vs.length cv) k (.error 2)) := by
  have HH := Aside0.mk h
  have hd0 : (x.f0 == 0) = false := beq_eq_false_iff_ne.2 hc0
  have hd1 : (x.f0 == 1) = false := beq_eq_false_iff_ne.2 hc1
  have hd9 : (x.f0 == 9) = false := beq_eq_false_iff_ne.2 hc9
  clear h hv hvk hx hc0 hc1 hc9
  go_enter Try.func59, Try.ntmps59
  go_wp2_with fail
  go_at_call 78
  refine (take_no w0 B 2 _ k xs _ (HH.out.below (below_alloc (Below.refl _ _) _)) hn (by decide)).mono ?_
  rintro e w1 ⟨rfl, rfl⟩
  go_wp2_with fail
  go_ret
  exact ⟨rfl, _, HH.out.below (below_alloc (Below.refl _ _) _)⟩
theorem at_two {w : World} {ad : Addr} {xs : List SValue} {m : Nat} (h : Kd.C kThing w (some ad) 2 (xs.drop m)) (hm : xs.length = m + 2) : w.cell? ad = some (thV (xs.getD m zValue)) ∧ w.cell? ⟨ad.block, ad.off + 1, none⟩ = some (thV (xs.getD (m + 1) zValue)) := by
  have h0 := at_thing h 0 (by decide)
  have h1 := at_thing h 1 (by decide)
  rw [addr_zero] at h0
  rw [add_field _ _ 1 (by omega)] at h1
  have e0 : (xs.drop m).getD 0 zValue = xs.getD m zValue := by simp [List.getD]
  have e1 : (xs.drop m).getD 1 zValue = xs.getD (m + 1) zValue := by simp [List.getD]
  rw [e0] at h0
  rw [e1] at h1
  exact ⟨h0, h1⟩
set_option maxHeartbeats 20000000 in
set_option maxRecDepth 100000 in
theorem part_two (w0 : World) (B : Nat) (Av : Option Addr) (cv : Nat) (vs : List SValue) (k : Bool) (xs : List SValue) (x : SOp) (w : World) (h : pileRel w0 B (.slice Av vs.length cv) k xs w) (hB : B < w0.heap.size) (hl : xs.length ≤ 1000) (hok : okVs xs) (hv : Kd.C kValue w Av vs.length vs) (hvk : okVs vs) (hx : okV x.f2) (hc0 : ¬ x.f0 = 0) (hc1 : ¬ x.f0 = 1) (hc9 : ¬ x.f0 = 9) (hn : 2 ≤ xs.length) {y : SValue} (hr : twoV x.f0 (xs.getD (xs.length - 2) zValue) (xs.getD (xs.length - 1) zValue) = .ok y) : Calls Try.prog 59 #[.pointer (some ⟨B, 0, none⟩), .agg #[.int .i64 x.f0, .int .i64 x.f1, .int .i64 x.f2.f0, .int .i64 x.f2.f1, .string x.f2.f2]] w (partPost w0 B (.slice Av vs.length cv) k (.ok (xs.take (xs.length - 2) ++ [y]))) := by
  have HH := Aside0.mk h
  have hd0 : (x.f0 == 0) = false := beq_eq_false_iff_ne.2 hc0
  have hd1 : (x.f0 == 1) = false := beq_eq_false_iff_ne.2 hc1
  have hd9 : (x.f0 == 9) = false := beq_eq_false_iff_ne.2 hc9
  obtain ⟨m, hm⟩ : ∃ m, xs.length = m + 2 := ⟨xs.length - 2, by omega⟩
  rw [show xs.length - 2 = m from by omega, show xs.length - 1 = m + 1 from by omega] at hr
  have ha := okVs_at hok (i := m) (by omega)
  have hb := okVs_at hok (i := m + 1) (by omega)
  obtain ⟨a, hea⟩ : ∃ a, xs.getD m zValue = a := ⟨_, rfl⟩
  obtain ⟨b, heb⟩ : ∃ b, xs.getD (m + 1) zValue = b := ⟨_, rfl⟩
  rw [hea] at hr ha
  rw [heb] at hr hb
  have HA := Aside0.mk ha
  have HB := Aside0.mk hb
  have HEA := Aside0.mk hea
  have HEB := Aside0.mk heb
  have HRR := Aside0.mk hr
  have HX := Aside0.mk (blk_new w (.cells #[.int .i64 x.f0, .int .i64 x.f1, .int .i64 x.f2.f0, .int .i64 x.f2.f1, .string x.f2.f2] 50))
  clear h hv hvk hx hc0 hc1 hc9 ha hb hea heb hok hr
  go_enter Try.func59, Try.ntmps59
  go_wp2_with fail
  go_at_call 78
  refine (take_told w0 B 2 _ k xs _ (HH.out.below (below_alloc (Below.refl _ _) (.cells #[.int .i64 x.f0, .int .i64 x.f1, .int .i64 x.f2.f0, .int .i64 x.f2.f1, .string x.f2.f2] 50))) hB (by decide) (by decide) hl (by omega)).mono ?_
  rintro e w1 ⟨A, c, ⟨rfl, hc, hC⟩, hp, hsp⟩
  rw [show xs.length - 2 = m from by omega] at hC
  have hne : ¬ w.heap.size = B := by have := HH.out.size; omega
  have HX1 := Aside0.mk (hsp.blk HX.out hne)
  obtain ⟨q1, q2, q3, q4⟩ := know HX1.out
  obtain ⟨d0, d1⟩ := at_two hC hm
  rw [HEA.out] at d0
  rw [HEB.out] at d1
  have d0' : w1.cell? (A.add 0) = some (thV a) := by rw [addr_zero]; exact d0
  have HP := Aside0.mk hp
  obtain ⟨ta, va, hta⟩ := thV_iface a
  obtain ⟨tb, vb, htb⟩ := thV_iface b
  rw [hta] at d0 d0'
  rw [htb] at d1
  have HTW := Aside0.mk (fun W => two_told x.f0 a b W HA.out HB.out HRR.out)
  rw [hta, htb] at HTW
  clear hC hsp hp hne hta htb hc
  go_wp2_with fail
  have hq0 : w1.drew.cell? ⟨w.heap.size, 0, none⟩ = some (.int .i64 x.f0) := blk_cell (blk_drew HX1.out) 0
  have hdd0 : w1.drew.cell? A = some (.iface ta va) := d0
  have hdd1 : w1.drew.cell? ⟨A.block, A.off + 1, none⟩ = some (.iface tb vb) := d1
  have hdd2 : w1.drew.cell? (A.add 0) = some (.iface ta va) := d0'
  go_region_held3 (fun w' => w'.cell? ⟨w.heap.size, 0, none⟩ = some (.int .i64 x.f0) ∧ w'.cell? A = some (.iface ta va) ∧ w'.cell? ⟨A.block, A.off + 1, none⟩ = some (.iface tb vb) ∧ w'.cell? (A.add 0) = some (.iface ta va))
    (first | go_keep | (go_split_ands; refine ⟨?_, ?_, ?_, ?_⟩ <;> (first | assumption | (apply pw_cell_below; (first | exact hb2); assumption))))
    (first
      | (go_at_call 79; refine (HTW.out _).mono ?_; rintro e w2 ⟨rfl, hb2⟩))
  all_goals
    have HP2 := Aside0.mk (HP.out.below (below_step (below_drew (Below.refl _ _)) hb2))
    rw [show xs.length - 2 = m from by omega] at HP2
    obtain ⟨v2, hk2, ho2, hs2⟩ := HP2.out
    obtain ⟨A2, c2, rfl⟩ := Kd.R_slice ho2
    unfold pileBlk at hk2
    obtain ⟨j1, j2, j3, j4⟩ := know hk2
    clear hk2 ho2 hs2 hb2 q1 q2 q3 q4 d0 d1 d0'
    have HLY := Aside0.mk (fun W h => lay_told w0 B (.slice Av vs.length cv) k (xs.take m) y W h hB (by rw [List.length_take]; omega))
    cases k
    all_goals
      go_wp2_with fail
      go_at_call 75
      refine (HLY.out _ HP2.out).mono ?_
      rintro e w3 ⟨rfl, hp3⟩
      go_wp2_with fail
      go_ret
      exact ⟨rfl, by rw [show xs.length - 2 = m from by omega]; exact hp3⟩
set_option maxHeartbeats 1000000 in
set_option maxRecDepth 100000 in
theorem part_err (w0 : World) (B : Nat) (Av : Option Addr) (cv : Nat) (vs : List SValue) (k : Bool) (xs : List SValue) (x : SOp) (w : World) (h : pileRel w0 B (.slice Av vs.length cv) k xs w) (hB : B < w0.heap.size) (hl : xs.length ≤ 1000) (hok : okVs xs) (hv : Kd.C kValue w Av vs.length vs) (hvk : okVs vs) (hx : okV x.f2) (hc0 : ¬ x.f0 = 0) (hc1 : ¬ x.f0 = 1) (hc9 : ¬ x.f0 = 9) (hn : 2 ≤ xs.length) {n : Int} (hr : twoV x.f0 (xs.getD (xs.length - 2) zValue) (xs.getD (xs.length - 1) zValue) = .error n) (hk : ¬ (k = true ∧ n = 6)) (hn0 : n ≠ 0) : Calls Try.prog 59 #[.pointer (some ⟨B, 0, none⟩), .agg #[.int .i64 x.f0, .int .i64 x.f1, .int .i64 x.f2.f0, .int .i64 x.f2.f1, .string x.f2.f2]] w (partPost w0 B (.slice Av vs.length cv) k (.error n)) := by
  have HH := Aside0.mk h
  have hd0 : (x.f0 == 0) = false := beq_eq_false_iff_ne.2 hc0
  have hd1 : (x.f0 == 1) = false := beq_eq_false_iff_ne.2 hc1
  have hd9 : (x.f0 == 9) = false := beq_eq_false_iff_ne.2 hc9
  obtain ⟨m, hm⟩ : ∃ m, xs.length = m + 2 := ⟨xs.length - 2, by omega⟩
  rw [show xs.length - 2 = m from by omega, show xs.length - 1 = m + 1 from by omega] at hr
  have ha := okVs_at hok (i := m) (by omega)
  have hb := okVs_at hok (i := m + 1) (by omega)
  obtain ⟨a, hea⟩ : ∃ a, xs.getD m zValue = a := ⟨_, rfl⟩
  obtain ⟨b, heb⟩ : ∃ b, xs.getD (m + 1) zValue = b := ⟨_, rfl⟩
  rw [hea] at hr ha
  rw [heb] at hr hb
  have HA := Aside0.mk ha
  have HB := Aside0.mk hb
  have HEA := Aside0.mk hea
  have HEB := Aside0.mk heb
  have HRR := Aside0.mk hr
  have HX := Aside0.mk (blk_new w (.cells #[.int .i64 x.f0, .int .i64 x.f1, .int .i64 x.f2.f0, .int .i64 x.f2.f1, .string x.f2.f2] 50))
  clear h hv hvk hx hc0 hc1 hc9 ha hb hea heb hok hr
  go_enter Try.func59, Try.ntmps59
  go_wp2_with fail
  go_at_call 78
  refine (take_told w0 B 2 _ k xs _ (HH.out.below (below_alloc (Below.refl _ _) (.cells #[.int .i64 x.f0, .int .i64 x.f1, .int .i64 x.f2.f0, .int .i64 x.f2.f1, .string x.f2.f2] 50))) hB (by decide) (by decide) hl (by omega)).mono ?_
  rintro e w1 ⟨A, c, ⟨rfl, hc, hC⟩, hp, hsp⟩
  rw [show xs.length - 2 = m from by omega] at hC
  have hne : ¬ w.heap.size = B := by have := HH.out.size; omega
  have HX1 := Aside0.mk (hsp.blk HX.out hne)
  obtain ⟨q1, q2, q3, q4⟩ := know HX1.out
  obtain ⟨d0, d1⟩ := at_two hC hm
  rw [HEA.out] at d0
  rw [HEB.out] at d1
  have d0' : w1.cell? (A.add 0) = some (thV a) := by rw [addr_zero]; exact d0
  have HP := Aside0.mk hp
  obtain ⟨ta, va, hta⟩ := thV_iface a
  obtain ⟨tb, vb, htb⟩ := thV_iface b
  rw [hta] at d0 d0'
  rw [htb] at d1
  have HTW := Aside0.mk (fun W => two_told x.f0 a b W HA.out HB.out HRR.out)
  rw [hta, htb] at HTW
  clear hC hsp hp hne hta htb hc
  go_wp2_with fail
  have hq0 : w1.drew.cell? ⟨w.heap.size, 0, none⟩ = some (.int .i64 x.f0) := blk_cell (blk_drew HX1.out) 0
  have hdd0 : w1.drew.cell? A = some (.iface ta va) := d0
  have hdd1 : w1.drew.cell? ⟨A.block, A.off + 1, none⟩ = some (.iface tb vb) := d1
  have hdd2 : w1.drew.cell? (A.add 0) = some (.iface ta va) := d0'
  go_region_held3 (fun w' => w'.cell? ⟨w.heap.size, 0, none⟩ = some (.int .i64 x.f0) ∧ w'.cell? A = some (.iface ta va) ∧ w'.cell? ⟨A.block, A.off + 1, none⟩ = some (.iface tb vb) ∧ w'.cell? (A.add 0) = some (.iface ta va))
    (first | go_keep | (go_split_ands; refine ⟨?_, ?_, ?_, ?_⟩ <;> (first | assumption | (apply pw_cell_below; (first | exact hb2); assumption))))
    (first
      | (go_at_call 79; refine (HTW.out _).mono ?_; rintro e w2 ⟨rfl, hb2⟩))
  all_goals
    have HP2 := Aside0.mk (HP.out.below (below_step (below_drew (Below.refl _ _)) hb2))
    rw [show xs.length - 2 = m from by omega] at HP2
    obtain ⟨v2, hk2, ho2, hs2⟩ := HP2.out
    obtain ⟨A2, c2, rfl⟩ := Kd.R_slice ho2
    unfold pileBlk at hk2
    obtain ⟨j1, j2, j3, j4⟩ := know hk2
    clear hk2 ho2 hs2 hb2 q1 q2 q3 q4 d0 d1 d0'
    have hn0b : (n == 0) = false := beq_eq_false_iff_ne.2 hn0
    cases k
    · go_wp2_with fail
      go_ret
      exact ⟨rfl, _, HP2.out⟩
    · have hn6 : (n == 6) = false := beq_eq_false_iff_ne.2 (fun h => hk ⟨rfl, h⟩)
      go_wp2_with fail
      go_ret
      exact ⟨rfl, _, HP2.out⟩
set_option maxHeartbeats 1000000 in
set_option maxRecDepth 100000 in
theorem part_over (w0 : World) (B : Nat) (Av : Option Addr) (cv : Nat) (vs : List SValue) (k : Bool) (xs : List SValue) (x : SOp) (w : World) (h : pileRel w0 B (.slice Av vs.length cv) k xs w) (hB : B < w0.heap.size) (hl : xs.length ≤ 1000) (hok : okVs xs) (hv : Kd.C kValue w Av vs.length vs) (hvk : okVs vs) (hx : okV x.f2) (hc0 : ¬ x.f0 = 0) (hc1 : ¬ x.f0 = 1) (hc9 : ¬ x.f0 = 9) (hn : 2 ≤ xs.length) (hr : twoV x.f0 (xs.getD (xs.length - 2) zValue) (xs.getD (xs.length - 1) zValue) = .error 6) (hk : k = true) : Calls Try.prog 59 #[.pointer (some ⟨B, 0, none⟩), .agg #[.int .i64 x.f0, .int .i64 x.f1, .int .i64 x.f2.f0, .int .i64 x.f2.f1, .string x.f2.f2]] w (partPost w0 B (.slice Av vs.length cv) k (.ok (xs.take (xs.length - 2) ++ [zeroV]))) := by
  subst hk
  have HH := Aside0.mk h
  have hd0 : (x.f0 == 0) = false := beq_eq_false_iff_ne.2 hc0
  have hd1 : (x.f0 == 1) = false := beq_eq_false_iff_ne.2 hc1
  have hd9 : (x.f0 == 9) = false := beq_eq_false_iff_ne.2 hc9
  obtain ⟨m, hm⟩ : ∃ m, xs.length = m + 2 := ⟨xs.length - 2, by omega⟩
  rw [show xs.length - 2 = m from by omega, show xs.length - 1 = m + 1 from by omega] at hr
  have ha := okVs_at hok (i := m) (by omega)
  have hb := okVs_at hok (i := m + 1) (by omega)
  obtain ⟨a, hea⟩ : ∃ a, xs.getD m zValue = a := ⟨_, rfl⟩
  obtain ⟨b, heb⟩ : ∃ b, xs.getD (m + 1) zValue = b := ⟨_, rfl⟩
  rw [hea] at hr ha
  rw [heb] at hr hb
  have HA := Aside0.mk ha
  have HB := Aside0.mk hb
  have HEA := Aside0.mk hea
  have HEB := Aside0.mk heb
  have HRR := Aside0.mk hr
  have HX := Aside0.mk (blk_new w (.cells #[.int .i64 x.f0, .int .i64 x.f1, .int .i64 x.f2.f0, .int .i64 x.f2.f1, .string x.f2.f2] 50))
  clear h hv hvk hx hc0 hc1 hc9 ha hb hea heb hok hr
  go_enter Try.func59, Try.ntmps59
  go_wp2_with fail
  go_at_call 78
  refine (take_told w0 B 2 _ true xs _ (HH.out.below (below_alloc (Below.refl _ _) (.cells #[.int .i64 x.f0, .int .i64 x.f1, .int .i64 x.f2.f0, .int .i64 x.f2.f1, .string x.f2.f2] 50))) hB (by decide) (by decide) hl (by omega)).mono ?_
  rintro e w1 ⟨A, c, ⟨rfl, hc, hC⟩, hp, hsp⟩
  rw [show xs.length - 2 = m from by omega] at hC
  have hne : ¬ w.heap.size = B := by have := HH.out.size; omega
  have HX1 := Aside0.mk (hsp.blk HX.out hne)
  obtain ⟨q1, q2, q3, q4⟩ := know HX1.out
  obtain ⟨d0, d1⟩ := at_two hC hm
  rw [HEA.out] at d0
  rw [HEB.out] at d1
  have d0' : w1.cell? (A.add 0) = some (thV a) := by rw [addr_zero]; exact d0
  have HP := Aside0.mk hp
  obtain ⟨ta, va, hta⟩ := thV_iface a
  obtain ⟨tb, vb, htb⟩ := thV_iface b
  rw [hta] at d0 d0'
  rw [htb] at d1
  have HTW := Aside0.mk (fun W => two_told x.f0 a b W HA.out HB.out HRR.out)
  rw [hta, htb] at HTW
  clear hC hsp hp hne hta htb hc
  go_wp2_with fail
  have hq0 : w1.drew.cell? ⟨w.heap.size, 0, none⟩ = some (.int .i64 x.f0) := blk_cell (blk_drew HX1.out) 0
  have hdd0 : w1.drew.cell? A = some (.iface ta va) := d0
  have hdd1 : w1.drew.cell? ⟨A.block, A.off + 1, none⟩ = some (.iface tb vb) := d1
  have hdd2 : w1.drew.cell? (A.add 0) = some (.iface ta va) := d0'
  go_region_held3 (fun w' => w'.cell? ⟨w.heap.size, 0, none⟩ = some (.int .i64 x.f0) ∧ w'.cell? A = some (.iface ta va) ∧ w'.cell? ⟨A.block, A.off + 1, none⟩ = some (.iface tb vb) ∧ w'.cell? (A.add 0) = some (.iface ta va))
    (first | go_keep | (go_split_ands; refine ⟨?_, ?_, ?_, ?_⟩ <;> (first | assumption | (apply pw_cell_below; (first | exact hb2); assumption))))
    (first
      | (go_at_call 79; refine (HTW.out _).mono ?_; rintro e w2 ⟨rfl, hb2⟩))
  all_goals
    have HP2 := Aside0.mk (HP.out.below (below_step (below_drew (Below.refl _ _)) hb2))
    rw [show xs.length - 2 = m from by omega] at HP2
    obtain ⟨v2, hk2, ho2, hs2⟩ := HP2.out
    obtain ⟨A2, c2, rfl⟩ := Kd.R_slice ho2
    unfold pileBlk at hk2
    obtain ⟨j1, j2, j3, j4⟩ := know hk2
    clear hk2 ho2 hs2 hb2 q1 q2 q3 q4 d0 d1 d0'
    have HLY := Aside0.mk (fun W h => lay_told w0 B (.slice Av vs.length cv) true (xs.take m) zeroV W h hB (by rw [List.length_take]; omega))
    rw [show thV zeroV = .iface 115 (.int .i64 0) from rfl] at HLY
    go_wp2_with fail
    go_at_call 75
    refine (HLY.out _ HP2.out).mono ?_
    rintro e w3 ⟨rfl, hp3⟩
    go_wp2_with fail
    go_ret
    exact ⟨rfl, by rw [show xs.length - 2 = m from by omega]; exact hp3⟩
theorem twoV_err {code : Int} {a b : SValue} {n : Int} (h : twoV code a b = .error n) : n ≠ 0 := by
  unfold twoV at h
  repeat' split at h
  all_goals first
    | (obtain rfl := Except.error.inj h; decide)
    | cases h
theorem stepV_err {v : List SValue} {k : Bool} {x : SOp} {p : List SValue} {n : Int} (h : stepV v k x p = .error n) : n ≠ 0 := by
  unfold stepV at h
  repeat' split at h
  all_goals first
    | (obtain rfl := Except.error.inj h; first | decide | (rename_i ht _; exact twoV_err ht) | (rename_i ht; exact twoV_err ht))
    | cases h
theorem part_told (w0 : World) (B : Nat) (Av : Option Addr) (cv : Nat) (vs : List SValue) (k : Bool) (xs : List SValue) (x : SOp) (w : World) (h : pileRel w0 B (.slice Av vs.length cv) k xs w) (hB : B < w0.heap.size) (hl : xs.length ≤ 1000) (hok : okVs xs) (hv : Kd.C kValue w Av vs.length vs) (hvk : okVs vs) (hx : okV x.f2) (h0 : 0 ≤ x.f1) {r : Except Int (List SValue)} (hr : stepV vs k x xs = r) : Calls Try.prog 59 #[.pointer (some ⟨B, 0, none⟩), .agg #[.int .i64 x.f0, .int .i64 x.f1, .int .i64 x.f2.f0, .int .i64 x.f2.f1, .string x.f2.f2]] w (partPost w0 B (.slice Av vs.length cv) k r) := by
  have hr0 := hr
  unfold stepV at hr
  by_cases c0 : x.f0 = 0
  · rw [if_pos c0] at hr; subst hr; exact part_push w0 B Av cv vs k xs x w h hB hl hok hv hvk hx c0
  rw [if_neg c0] at hr
  by_cases c1 : x.f0 = 1
  · rw [if_pos c1] at hr
    by_cases hi : x.f1.toNat < vs.length
    · rw [if_pos hi] at hr; subst hr; exact part_load w0 B Av cv vs k xs x w h hB hl hok hv hvk hx c1 h0 hi
    · rw [if_neg hi] at hr; subst hr; exact part_none w0 B Av cv vs k xs x w h hB hl hok hv hvk hx c1 h0 hi
  rw [if_neg c1] at hr
  by_cases c9 : x.f0 = 9
  · exact part_not w0 B Av cv vs k xs x w h hB hl hok hv hvk hx c9 hr0
  rw [if_neg c9] at hr
  by_cases hn : xs.length < 2
  · rw [if_pos hn] at hr; subst hr; exact part_few w0 B Av cv vs k xs x w h hB hl hok hv hvk hx c0 c1 c9 hn
  rw [if_neg hn] at hr
  cases ht : twoV x.f0 (xs.getD (xs.length - 2) zValue) (xs.getD (xs.length - 1) zValue) with
  | ok y => rw [ht] at hr; subst hr; exact part_two w0 B Av cv vs k xs x w h hB hl hok hv hvk hx c0 c1 c9 (by omega) ht
  | error n =>
    rw [ht] at hr
    by_cases hk : k = true ∧ n = 6
    · replace hr : (if k = true ∧ n = 6 then .ok (xs.take (xs.length - 2) ++ [zeroV]) else .error n : Except Int (List SValue)) = r := hr
      rw [if_pos hk] at hr
      subst hr
      obtain ⟨hk1, rfl⟩ := hk
      exact part_over w0 B Av cv vs k xs x w h hB hl hok hv hvk hx c0 c1 c9 (by omega) ht hk1
    · replace hr : (if k = true ∧ n = 6 then .ok (xs.take (xs.length - 2) ++ [zeroV]) else .error n : Except Int (List SValue)) = r := hr
      rw [if_neg hk] at hr
      subst hr
      exact part_err w0 B Av cv vs k xs x w h hB hl hok hv hvk hx c0 c1 c9 (by omega) ht hk (twoV_err ht)
end Go.Proofs.Ytncllbokeofdjaa.P

namespace Go.Proofs.Ytncllbokeofdjaa.P
open Go.RowKit Go.Proofs.YtncllbokeofdjaaW.PrintWords Go.Proofs.YtncllbokeofdjaaW.PrintLast Go.Proofs.YtncllbokeofdjaaW.PrintMore
attribute [local go_sem] max2_int min2_int max_two min_two max_three min_three max_four min_four   -- for this text's walks alone
set_option linter.unusedVariables false
set_option linter.unusedSimpArgs false
def throughRel (vs : List SValue) (k : Bool) (l : List SOp) (V : Value) (w0 : World) (B i : Nat) (w' : World) : Prop := ∃ p, i ≤ l.length ∧ okVs p ∧ p.length ≤ i ∧ runV vs k l [] = runV vs k (l.drop i) p ∧ pileRel w0 B V k p w'
def throughPost (y : SValue) (n : Int) (B : Nat) (w : World) (e : Ending) (w' : World) : Prop := e = .returned (.tuple #[.agg #[.int .i64 y.f0, .int .i64 y.f1, .string y.f2], .int .i64 n]) ∧ Spares (fun i => i = B) w w'
theorem Spares.old {S : Nat → Prop} {w w1 : World} {o : Obj} (h : Spares S (w.alloc o) w1) : Spares S w w1 := (Spares.of_below (below_alloc (Below.refl _ _) o)).trans h
set_option maxHeartbeats 8000000 in
set_option maxRecDepth 100000 in
theorem through_told (w : World) (B : Nat) (Av : Option Addr) (cv : Nat) (vs : List SValue) (k : Bool) (Al : Option Addr) (cl : Nat) (l : List SOp) (hb : w.heap[B]? = some (pileBlk (.slice none 0 0) (.slice Av vs.length cv) k)) (hvs : ∀ w', Spares (fun i => i = B) w w' → Kd.C kValue w' Av vs.length vs) (hls : ∀ w', Spares (fun i => i = B) w w' → Kd.C kOp w' Al l.length l) (hc : l.length ≤ cl) (hvk : okVs vs) (hm : mayO l = true) (hi64 : ∀ x ∈ l, i64V x.f2) {y : SValue} {n : Int} (hr : endV (runV vs k l []) = (y, n)) :
    Calls Try.prog 33 #[.pointer (some ⟨B, 0, none⟩), .slice Al l.length cl] w (throughPost y n B w) := by
  have hlen := (mayO_iff.1 hm).1
  have HMP := Aside0.mk (mayO_iff.1 hm).2
  have HI := Aside0.mk hi64
  have HVS := Aside0.mk hvs
  have HLS := Aside0.mk hls
  have HVK := Aside0.mk hvk
  have HR := Aside0.mk hr
  have hBw : B < w.heap.size := blk_lt hb
  obtain ⟨o, ho⟩ : ∃ o : Obj, (.cells #[.int .i64 0, .int .i64 0, .string ⟨#[]⟩] 38) = o := ⟨_, rfl⟩
  have HO := Aside0.mk ho
  have HP0 : Aside0 (pileRel (w.alloc o) B (.slice Av vs.length cv) k [] (w.alloc o)) := ⟨⟨_, blk_alloc hb o, Kd.R_nil _ _ _ _ _, Spares.refl _ _⟩⟩
  have HNEW := Aside0.mk (blk_new w o)
  have HB2 : Aside0 (B < (w.alloc o).heap.size) := ⟨by rw [World.size_alloc]; omega⟩
  have HWB : Aside0 (w.heap.size < (w.alloc o).heap.size ∧ ¬ w.heap.size = B) := ⟨by rw [World.size_alloc]; omega, by omega⟩
  subst ho
  clear hb hvs hls hvk hm hi64 hr
  go_enter Try.func33, Try.ntmps33
  go_wp2
  go_loopw [7, 8, 11] (fun _ _ v11 w' => ∃ i : Nat, v11 = .int .i64 i ∧ throughRel vs k l (.slice Av vs.length cv) (w.alloc (.cells #[.int .i64 0, .int .i64 0, .string ⟨#[]⟩] 38)) B i w') (fun _ _ i _ => l.length - (intOf i).toNat)
  case atStart => exact ⟨0, rfl, [], Nat.zero_le _, okVs_nil, Nat.le_refl _, rfl, HP0.out⟩
  case round =>
    obtain ⟨i, rfl, p, hi, hok, hpl, hrun, hp⟩ := hrel
    have HP := Aside0.mk hp
    have HRUN := Aside0.mk hrun
    have HOK := Aside0.mk hok
    have HLR := Aside0.mk (HLS.out wr (by obtain ⟨_, _, _, hs⟩ := hp; exact hs.old))
    have HVR := Aside0.mk (HVS.out wr (by obtain ⟨_, _, _, hs⟩ := hp; exact hs.old))
    clear hp hrun hok HP0
    by_cases hlt : i < l.length
    · obtain ⟨ad, e, z0, z1, z2, z3, z4⟩ := at_TOp HLR.out (i : Int) (by omega) (by omega)
      subst e
      simp only [Int.toNat_natCast] at z0 z1 z2 z3 z4
      rw [show rd_TOp l (i : Int) = l.getD i zOp from rfl] at z0 z1 z2 z3 z4
      have hin := getD_in zOp hlt
      have HDR := Aside0.mk (drop_cons zOp l hlt)
      have hmp := HMP.out _ hin
      have hix := HI.out _ hin
      obtain ⟨x, hx⟩ : ∃ x, l.getD i zOp = x := ⟨_, rfl⟩
      rw [hx] at z0 z1 z2 z3 z4 hmp hix
      rw [hx] at HDR
      have hmq := mayP_iff.1 hmp
      have HKX : Aside0 (okV x.f2) := ⟨⟨hmq.2.2.2.2.2.2, hix⟩⟩
      have h0 := hmq.2.2.1
      cases hst : stepV vs k x p with
      | error m =>
        have hfin : endV (runV vs k l []) = (zeroV, m) := by rw [HRUN.out, HDR.out, runV_stop hst]; rfl
        rw [HR.out] at hfin
        simp only [Prod.mk.injEq] at hfin
        obtain ⟨rfl, rfl⟩ := hfin
        have HST := Aside0.mk hst
        have hn0 : (n != 0) = true := by rw [bne_iff_ne]; exact stepV_err hst
        have hn1 : (n == 0) = false := by rw [beq_eq_false_iff_ne]; exact stepV_err hst
        clear hst hmp hmq hix hin hx
        go_wp2_with fail
        go_at_call 59
        refine (part_told (w.alloc (.cells #[.int .i64 0, .int .i64 0, .string ⟨#[]⟩] 38)) B Av cv vs k p x _ (HP.out.below (below_alloc (Below.refl _ _) _)) HB2.out (by omega) HOK.out (Kd.C_below HVR.out (below_alloc (Below.refl _ _) _)) HVK.out HKX.out h0 HST.out).mono ?_
        rintro e w1 ⟨rfl, q, hq⟩
        have HQ := Aside0.mk hq
        obtain ⟨_, _, _, hs⟩ := hq
        have HZ := Aside0.mk (hs.blk HNEW.out HWB.out.2)
        obtain ⟨j1, j2, j3, j4⟩ := know HZ.out
        have HSP := Aside0.mk hs.old
        clear hs
        have hfz := blk_put3 HZ.out (.int .i64 0) (.int .i64 0) (.string ⟨#[]⟩)
        have hz0 := blk_cell hfz 0
        have hz1 := blk_cell hfz 1
        have hz2 := blk_cell hfz 2
        go_wp2_with fail
        exact bodyPost_ret (v := .tuple #[.agg #[.int .i64 0, .int .i64 0, .string ⟨#[]⟩], .int .i64 n]) (by simp [results, Try.results33, go_sem, hz0, hz1, hz2]) rfl ⟨rfl, Spares.set (Spares.set (HSP.out.set 0 (.inr (Nat.le_refl _)) _) 1 (.inr (Nat.le_refl _)) _) 2 (.inr (Nat.le_refl _)) _⟩
      | ok q =>
        have hq2 := stepV_ok HVK.out HKX.out HOK.out hst
        have hql := stepV_len hst
        have HNX : Aside0 (runV vs k l [] = runV vs k (l.drop (i + 1)) q) := ⟨by rw [HRUN.out, HDR.out, runV_cons hst]⟩
        have HQK := Aside0.mk hq2
        have HST := Aside0.mk hst
        clear hst hmp hmq hix hin hx hq2
        go_wp2_with fail
        go_at_call 59
        refine (part_told (w.alloc (.cells #[.int .i64 0, .int .i64 0, .string ⟨#[]⟩] 38)) B Av cv vs k p x _ (HP.out.below (below_alloc (Below.refl _ _) _)) HB2.out (by omega) HOK.out (Kd.C_below HVR.out (below_alloc (Below.refl _ _) _)) HVK.out HKX.out h0 HST.out).mono ?_
        rintro e w1 ⟨rfl, hq⟩
        have HQ := Aside0.mk hq
        clear hq
        go_wp2_with fail
        go_roundw
        case rel => exact ⟨i + 1, by go_num, q, by omega, HQK.out, by omega, HNX.out, HQ.out⟩
        case measure => simp [intOf]; omega
    · obtain rfl : i = l.length := by omega
      have hrun := HRUN.out
      rw [List.drop_length] at hrun
      have hfin : endV (.ok p) = (y, n) := by rw [← HR.out, hrun]; rfl
      obtain ⟨v, hbk, hro, hsp⟩ := HP.out
      obtain ⟨A, c, rfl, hAc, hrd⟩ := Kd.R_reads hro
      unfold pileBlk at hbk
      have HZ := Aside0.mk (hsp.blk HNEW.out HWB.out.2)
      obtain ⟨j1, j2, j3, j4⟩ := know HZ.out
      obtain ⟨k1, k2, k3, k4⟩ := know hbk
      have HSP := Aside0.mk hsp.old
      have HOKP := Aside0.mk HOK.out
      clear hbk hro hsp hrun
      match p, hfin, hrd with
      | [], hfin, hrd =>
        simp only [endV, Prod.mk.injEq] at hfin
        obtain ⟨rfl, rfl⟩ := hfin
        have hfz := blk_put3 HZ.out (.int .i64 0) (.int .i64 0) (.string ⟨#[]⟩)
        have hz0 := blk_cell hfz 0
        have hz1 := blk_cell hfz 1
        have hz2 := blk_cell hfz 2
        go_wp2_with fail
        exact bodyPost_ret (v := .tuple #[.agg #[.int .i64 0, .int .i64 0, .string ⟨#[]⟩], .int .i64 2]) (by simp [results, Try.results33, go_sem, hz0, hz1, hz2]) rfl ⟨rfl, Spares.set (Spares.set (HSP.out.set 0 (.inr (Nat.le_refl _)) _) 1 (.inr (Nat.le_refl _)) _) 2 (.inr (Nat.le_refl _)) _⟩
      | [x], hfin, hrd =>
        simp only [endV, Prod.mk.injEq] at hfin
        obtain ⟨rfl, rfl⟩ := hfin
        obtain ⟨ad, e, _⟩ := hrd.2.2 (show 0 < 1 by decide)
        subst e
        have hat := at_thing hrd 0 (show 0 < 1 by decide)
        have hat2 : wr.cell? (ad.add 0) = some (thV x) := hat
        have hat3 : wr.cell? ad = some (thV x) := by rw [addr_zero] at hat2; exact hat2
        obtain ⟨t, v, f, hx1, hx2, hx3, hx4, _⟩ := thing_is (HOKP.out x (List.mem_singleton.2 rfl)).1
        have HX4 := Aside0.mk hx4
        rw [hx1] at hat2 hat3
        clear hat hrd hx4 hx1
        go_wp2_with fail
        refine (HX4.out _).mono ?_
        rintro e w1 ⟨rfl, hb1⟩
        have HZ1 := Aside0.mk (blk_below HZ.out hb1)
        have HSP1 := Aside0.mk (HSP.out.step hb1)
        obtain ⟨i1, i2, i3, i4⟩ := know HZ1.out
        have hfz := blk_put3 HZ1.out (.int .i64 x.f0) (.int .i64 x.f1) (.string x.f2)
        have hz0 := blk_cell hfz 0
        have hz1 := blk_cell hfz 1
        have hz2 := blk_cell hfz 2
        clear hb1
        go_wp2_with fail
        exact bodyPost_ret (v := .tuple #[.agg #[.int .i64 x.f0, .int .i64 x.f1, .string x.f2], .int .i64 0]) (by simp [results, Try.results33, go_sem, hz0, hz1, hz2]) rfl ⟨rfl, Spares.set (Spares.set (HSP1.out.set 0 (.inr (Nat.le_refl _)) _) 1 (.inr (Nat.le_refl _)) _) 2 (.inr (Nat.le_refl _)) _⟩
      | x :: z :: q, hfin, hrd =>
        simp only [endV, Prod.mk.injEq] at hfin
        obtain ⟨rfl, rfl⟩ := hfin
        have hl2 : ((x :: z :: q).length : Int) = (q.length : Int) + 2 := by simp only [List.length_cons]; omega
        have hne : ((x :: z :: q).length : Int) ≠ 1 := by omega
        have hne2 : (((x :: z :: q).length : Int) != 1) = true := bne_iff_ne.2 hne
        have hne3 : (((x :: z :: q).length : Int) == 1) = false := beq_eq_false_iff_ne.2 hne
        clear hrd hl2 hne
        generalize (x :: z :: q).length = len at *
        have hfz := blk_put3 HZ.out (.int .i64 0) (.int .i64 0) (.string ⟨#[]⟩)
        have hz0 := blk_cell hfz 0
        have hz1 := blk_cell hfz 1
        have hz2 := blk_cell hfz 2
        go_wp2_with fail
        exact bodyPost_ret (v := .tuple #[.agg #[.int .i64 0, .int .i64 0, .string ⟨#[]⟩], .int .i64 2]) (by simp [results, Try.results33, go_sem, hz0, hz1, hz2]) rfl ⟨rfl, Spares.set (Spares.set (HSP.out.set 0 (.inr (Nat.le_refl _)) _) 1 (.inr (Nat.le_refl _)) _) 2 (.inr (Nat.le_refl _)) _⟩
end Go.Proofs.Ytncllbokeofdjaa.P

namespace Go.Proofs.Ytncllbokeofdjaa.P
open Go.RowKit Go.Proofs.YtncllbokeofdjaaW.PrintWords Go.Proofs.YtncllbokeofdjaaW.PrintLast Go.Proofs.YtncllbokeofdjaaW.PrintMore
attribute [local go_sem] max2_int min2_int max_two min_two max_three min_three max_four min_four   -- for this text's walks alone
set_option linter.unusedVariables false
set_option linter.unusedSimpArgs false
def kindPost (y n : Int) (w : World) (e : Ending) (w' : World) : Prop := e = .returned (.tuple #[.int .i64 y, .int .i64 n]) ∧ Below w.heap.size w w'
def kindRel (F : List SField) (w : World) (B i : Nat) (w' : World) : Prop := ∃ v, i ≤ F.length ∧ w'.heap[B]? = some (pileBlk (.slice none 0 0) v true) ∧ Kd.R kValue 38 w' w.heap.size (fun _ => True) v ((F.take i).map fun f => (⟨f.f1, 0, ⟨#[]⟩⟩ : SValue)) ∧ Below w.heap.size w w'
theorem value_types : ∀ q, q ∈ 38 :: kValue.E → q ≠ 67 := by decide
theorem kindsOf_ok {x : SSchema} (h : mayS x = true) : okVs (kindsOf x) ∧ x.f2.length ≤ 6 := by
  obtain ⟨_, _, _, h6, hF⟩ := mayS_iff8.1 h
  refine ⟨fun v hv => ?_, h6⟩
  unfold kindsOf at hv
  obtain ⟨f, hf, rfl⟩ := List.mem_map.1 hv
  obtain ⟨i, hi, rfl⟩ := List.mem_iff_getElem.1 hf
  have hk := fieldOK_parts (hF i hi)
  rw [show x.f2.getD i zField = x.f2[i] from by simp [List.getD, hi]] at hk
  have he : (⟨#[]⟩ : ByteArray).toList = [] := by decide +kernel
  have hs : (⟨#[]⟩ : ByteArray).size = 0 := rfl
  obtain ⟨_, hk0, hk4⟩ := hk
  refine ⟨mayV_iff.2 ?_, show -9223372036854775808 ≤ (0 : Int) ∧ (0 : Int) ≤ 9223372036854775807 by decide⟩
  show (x.f2[i].f1 = 0 ∧ (⟨#[]⟩ : ByteArray).toList = []) ∨ (x.f2[i].f1 = 1 ∧ (⟨#[]⟩ : ByteArray).toList = [] ∧ (0 : Int) ≤ 0 ∧ (0 : Int) < 2) ∨ (x.f2[i].f1 = 2 ∧ (0 : Int) = 0 ∧ (⟨#[]⟩ : ByteArray).size ≤ 40) ∨ (x.f2[i].f1 = 3 ∧ (⟨#[]⟩ : ByteArray).toList = [] ∧ (0 : Int) ≤ 0 ∧ (0 : Int) ≤ 1125899906842624)
  rw [he, hs]
  have h4 : x.f2[i].f1 = 0 ∨ x.f2[i].f1 = 1 ∨ x.f2[i].f1 = 2 ∨ x.f2[i].f1 = 3 := by omega
  rcases h4 with h | h | h | h
  · exact .inl ⟨h, rfl⟩
  · exact .inr (.inl ⟨h, rfl, by decide, by decide⟩)
  · exact .inr (.inr (.inl ⟨h, rfl, by decide⟩))
  · exact .inr (.inr (.inr ⟨h, rfl, by decide, by decide⟩))
set_option maxHeartbeats 1000000 in
set_option maxRecDepth 100000 in
theorem kind_no1 (x : SSchema) (A : Option Addr) (c : Nat) (l : List SOp) (Al : Option Addr) (cl : Nat) (w : World) (hr : Kd.C kField w A x.f2.length x.f2) (hc : x.f2.length ≤ c) (hl : Kd.C kOp w Al l.length l) (hlc : l.length ≤ cl) (hwl : ∀ x ∈ l, i64V x.f2) (h1 : mayS x = false) : Calls Try.prog 15 #[.agg #[.string x.f0, .int .i64 x.f1, .slice A x.f2.length c], .slice Al l.length cl] w (kindPost 0 1 w) := by
  have HR := Aside0.mk hr
  have HC := Aside0.mk hc
  have HL := Aside0.mk hl
  have HLC := Aside0.mk hlc
  have HWL := Aside0.mk hwl
  have HM1 := Aside0.mk (show schema_May.f x.f0 x.f1 x.f2 = some (mayS x) from rfl)
  rw [h1] at HM1
  clear hr hc hl hlc hwl h1
  go_enter Try.func15, Try.ntmps15
  go_wp2_with fail
  go_at_call 31
  refine (schema_May.calls x.f0 x.f1 A c x.f2 _ _ (Kd.C_below HR.out (below_alloc (Below.refl _ _) _)) HC.out HM1.out).mono ?_
  rintro e w1_ ⟨rfl, hb1_⟩
  have HB1_ := Aside0.mk (below_step (below_alloc (Below.refl _ _) _) hb1_)
  have HKs1_ := Aside0.mk (blk_below (blk_new _ _) hb1_)
  obtain ⟨ks1a_, ks1b_, ks1c_, ks1d_⟩ := know HKs1_.out
  clear hb1_
  go_wp2_with fail
  go_ret2
  exact ⟨rfl, HB1_.out⟩
set_option maxHeartbeats 1000000 in
set_option maxRecDepth 100000 in
theorem kind_no2 (x : SSchema) (A : Option Addr) (c : Nat) (l : List SOp) (Al : Option Addr) (cl : Nat) (w : World) (hr : Kd.C kField w A x.f2.length x.f2) (hc : x.f2.length ≤ c) (hl : Kd.C kOp w Al l.length l) (hlc : l.length ≤ cl) (hwl : ∀ x ∈ l, i64V x.f2) (h1 : mayS x = true) (h2 : mayO l = false) : Calls Try.prog 15 #[.agg #[.string x.f0, .int .i64 x.f1, .slice A x.f2.length c], .slice Al l.length cl] w (kindPost 0 1 w) := by
  have HR := Aside0.mk hr
  have HC := Aside0.mk hc
  have HL := Aside0.mk hl
  have HLC := Aside0.mk hlc
  have HWL := Aside0.mk hwl
  have HM1 := Aside0.mk (show schema_May.f x.f0 x.f1 x.f2 = some (mayS x) from rfl)
  rw [h1] at HM1
  have HM2 := Aside0.mk h2
  clear hr hc hl hlc hwl h1 h2
  go_enter Try.func15, Try.ntmps15
  go_wp2_with fail
  go_at_call 31
  refine (schema_May.calls x.f0 x.f1 A c x.f2 _ _ (Kd.C_below HR.out (below_alloc (Below.refl _ _) _)) HC.out HM1.out).mono ?_
  rintro e w1_ ⟨rfl, hb1_⟩
  have HB1_ := Aside0.mk (below_step (below_alloc (Below.refl _ _) _) hb1_)
  have HKs1_ := Aside0.mk (blk_below (blk_new _ _) hb1_)
  obtain ⟨ks1a_, ks1b_, ks1c_, ks1d_⟩ := know HKs1_.out
  clear hb1_
  go_wp2_with fail
  go_at_call 32
  refine (mayO_told l Al cl _ (Kd.C_below HL.out (HB1_.out)) HLC.out HWL.out HM2.out).mono ?_
  rintro e w2_ ⟨rfl, hb2_⟩
  have HB2_ := Aside0.mk (below_step (HB1_.out) hb2_)
  have HKs2_ := Aside0.mk (blk_below (HKs1_.out) hb2_)
  obtain ⟨ks2a_, ks2b_, ks2c_, ks2d_⟩ := know HKs2_.out
  clear ks1a_ ks1b_ ks1c_ ks1d_
  clear hb2_
  go_wp2_with fail
  go_ret2
  exact ⟨rfl, HB2_.out⟩
set_option maxHeartbeats 8000000 in
set_option maxRecDepth 100000 in
theorem kind_go (x : SSchema) (A : Option Addr) (c : Nat) (l : List SOp) (Al : Option Addr) (cl : Nat) (w : World) (hr : Kd.C kField w A x.f2.length x.f2) (hc : x.f2.length ≤ c) (hl : Kd.C kOp w Al l.length l) (hlc : l.length ≤ cl) (hwl : ∀ x ∈ l, i64V x.f2) (h1 : mayS x = true) (h2 : mayO l = true) {y : SValue} {n : Int} (hq : endV (runV (kindsOf x) true l []) = (y, n)) : Calls Try.prog 15 #[.agg #[.string x.f0, .int .i64 x.f1, .slice A x.f2.length c], .slice Al l.length cl] w (kindPost y.f0 n w) := by
  have HR := Aside0.mk hr
  have HC := Aside0.mk hc
  have HL := Aside0.mk hl
  have HLC := Aside0.mk hlc
  have HWL := Aside0.mk hwl
  have HM1 := Aside0.mk (show schema_May.f x.f0 x.f1 x.f2 = some (mayS x) from rfl)
  rw [h1] at HM1
  have HM2 := Aside0.mk h2
  have HOK := Aside0.mk (kindsOf_ok h1).1
  have hl6 := (kindsOf_ok h1).2
  have HEV := Aside0.mk hq
  clear hr hc hl hlc hwl h1 h2 hq
  go_enter Try.func15, Try.ntmps15
  go_wp2_with fail
  go_at_call 31
  refine (schema_May.calls x.f0 x.f1 A c x.f2 _ _ (Kd.C_below HR.out (below_alloc (Below.refl _ _) _)) HC.out HM1.out).mono ?_
  rintro e w1_ ⟨rfl, hb1_⟩
  have HB1_ := Aside0.mk (below_step (below_alloc (Below.refl _ _) _) hb1_)
  have HKs1_ := Aside0.mk (blk_below (blk_new _ _) hb1_)
  obtain ⟨ks1a_, ks1b_, ks1c_, ks1d_⟩ := know HKs1_.out
  clear hb1_
  go_wp2_with fail
  go_at_call 32
  refine (mayO_told l Al cl _ (Kd.C_below HL.out (HB1_.out)) HLC.out HWL.out HM2.out).mono ?_
  rintro e w2_ ⟨rfl, hb2_⟩
  have HB2_ := Aside0.mk (below_step (HB1_.out) hb2_)
  have HKs2_ := Aside0.mk (blk_below (HKs1_.out) hb2_)
  obtain ⟨ks2a_, ks2b_, ks2c_, ks2d_⟩ := know HKs2_.out
  clear ks1a_ ks1b_ ks1c_ ks1d_
  clear hb2_
  go_wp2_with fail
  have HPB := Aside0.mk (blk_new w2_ (pileBlk (.slice none 0 0) (.slice none 0 0) true))
  have HBL := Aside0.mk (below_alloc (HB2_.out) (pileBlk (.slice none 0 0) (.slice none 0 0) true))
  have HLE := Aside0.mk (below_size (HB2_.out))
  clear ks2a_ ks2b_ ks2c_ ks2d_
  generalize w2_.heap.size = B at *
  go_loopw [8, 24] (fun _ v24 w' => ∃ i : Nat, v24 = .int .i64 i ∧ kindRel x.f2 w B i w') (fun _ i _ => x.f2.length - (intOf i).toNat)
  case atStart => exact ⟨0, rfl, _, Nat.zero_le _, HPB.out, Kd.R_nil _ _ _ _ _, HBL.out⟩
  case round =>
    obtain ⟨i, rfl, v, hi, hk, ho, hb⟩ := hrel
    have HK := Aside0.mk hk
    have HO := Aside0.mk ho
    have HB := Aside0.mk hb
    obtain ⟨A0, c0, rfl⟩ := Kd.R_slice ho
    clear ho hb HPB HBL
    by_cases hlt : i < x.f2.length
    · obtain ⟨ad, e, z0, z1⟩ := at_TField (Kd.C_below HR.out HB.out) (i : Int) (by omega) (by omega)
      cases e
      simp only [Int.toNat_natCast] at z0 z1
      rw [show rd_TField x.f2 (i : Int) = x.f2.getD i zField from rfl] at z0 z1
      have HT := Aside0.mk (take_snoc zField x.f2 i hlt)
      generalize x.f2.getD i zField = f at *
      have hml : (List.map (fun f => (⟨f.f1, 0, ⟨#[]⟩⟩ : SValue)) (x.f2.take i)).length = i := by rw [List.length_map, List.length_take]; omega
      obtain ⟨ks, hks⟩ : ∃ ks, List.map (fun f => (⟨f.f1, 0, ⟨#[]⟩⟩ : SValue)) (x.f2.take i) = ks := ⟨_, rfl⟩
      rw [hks] at HO HK hml hk
      rw [hml] at HO HK hk
      have HML := Aside0.mk hml
      have HKN : Aside0 (List.map (fun f => (⟨f.f1, 0, ⟨#[]⟩⟩ : SValue)) (x.f2.take (i + 1)) = ks ++ [⟨f.f1, 0, ⟨#[]⟩⟩]) := ⟨by rw [HT.out, List.map_append, hks]; rfl⟩
      unfold pileBlk at hk
      have HK2 := Aside0.mk (blk_alloc hk (.cells #[.string f.f0, .int .i64 f.f1] 63))
      have HQ2 := Aside0.mk (blk_new wr (.cells #[.string f.f0, .int .i64 f.f1] 63))
      have HB2 := Aside0.mk (below_alloc HB.out (.cells #[.string f.f0, .int .i64 f.f1] 63))
      have HO2 := Aside0.mk (Kd.R_alloc HO.out (.cells #[.string f.f0, .int .i64 f.f1] 63))
      have hks63 : ks.length ≤ 6 := by omega
      clear hk hml hks
      go_wp2_with fail
      generalize wr.alloc (.cells #[.string f.f0, .int .i64 f.f1] 63) = Wb at HK2 HQ2 HB2 HO2 ⊢
      obtain ⟨d1, d2, d3, d4⟩ := know HK2.out
      obtain ⟨q1, q2, q3, q4⟩ := know HQ2.out
      go_region_law (first
        | (refine Kd.R_append_step (o := ⟨some 37, _, _, _, _, _⟩) kValue (w0 := w) (W := Wb.drew) w.heap.size ?hw (.tmp 32) (.tmp 36) 25 38 (.agg #[(.int .i64 0), (.int .i64 0), (.string ⟨#[]⟩)]) 32 rfl Try.underlying25 infoValue rfl ?h0 ?h1 (.slice A0 i c0) ks (⟨f.f1, 0, ⟨#[]⟩⟩ : SValue) [.int .i64 f.f1, .int .i64 0, .string ⟨#[]⟩] (fun _ => True) (fun _ => False) ?hs ?hx ?aP (fun _ h => h.elim) (fun _ _ => trivial) ?aO ?aB ?aS ?aL ?_; (case hw => rfl); (case h0 => decide); (case h1 => decide); (case hs => rfl); (case hx => rfl); (case aP => exact kValue_mkM _ _ _ (⟨f.f1, 0, ⟨#[]⟩⟩ : SValue)); (case aO => exact Kd.R_drew HO2.out); (case aB => exact below_drew HB2.out); (case aS => exact below_size (below_drew HB2.out)); (case aL => omega); intro v6 w6 ho6 hb6 hg6 hat6; obtain ⟨A6, c6, hv6⟩ := Kd.R_slice ho6; rw [List.length_append, List.length_singleton, HML.out] at hv6; subst hv6; have HO6 := Aside0.mk ho6; have HK6 := Aside0.mk (blk_grown (blk_drew HK2.out) hg6 (Kd.R_ne HO2.out HK2.out (by decide))); have HB6 := Aside0.mk hb6; have hd60 : w6.cell? ⟨B, 1, none⟩ = some (.slice A0 i c0) := blk_cell HK6.out 1; have hd61 : w6.frozen? ⟨B, 1, none⟩ = false := blk_frozen HK6.out 1; clear ho6 hb6 hg6 hat6))
      all_goals
        have HK7 := Aside0.mk (blk_set HK6.out 1 (Value.slice A6 (i + 1) c6))
        have HO7 := Aside0.mk (Kd.R_set HO6.out HK6.out value_types 1 (Value.slice A6 (i + 1) c6))
        have HB7 := Aside0.mk (HB6.out.setCell (p := ⟨B, 1, none⟩) HLE.out (Value.slice A6 (i + 1) c6))
        go_wp2_with fail
        go_roundw
        case measure => simp [intOf]; omega
        case rel => exact ⟨i + 1, by go_num, _, by omega, HK7.out, by rw [HKN.out]; exact HO7.out, HB7.out⟩
    · obtain rfl : i = x.f2.length := by omega
      rw [List.take_length] at HO HK hk
      obtain ⟨ks, hks⟩ : ∃ ks, kindsOf x = ks := ⟨_, rfl⟩
      have hks2 : List.map (fun f => (⟨f.f1, 0, ⟨#[]⟩⟩ : SValue)) x.f2 = ks := hks
      rw [hks2] at HO HK hk
      rw [hks] at HEV HOK
      have HRT := Aside0.mk (Kd.R_types HO.out HK.out value_types)
      unfold pileBlk at hk
      obtain ⟨d1, d2, d3, d4⟩ := know hk
      clear hks hks2 hk
      go_wp2_with fail
      go_at_call 33
      refine (through_told wr B A0 c0 ks true Al cl l HK.out (fun w' h => (Kd.R_reads' (Spares.row h HRT.out (fun k hk _ => hk.2))).2.2) (fun w' h => Kd.C_below HL.out (below_spares HB.out h HLE.out)) HLC.out HOK.out HM2.out HWL.out HEV.out).mono ?_
      rintro e w9_ ⟨rfl, hs9_⟩
      have HB9 := Aside0.mk (below_spares HB.out hs9_ HLE.out)
      clear hs9_
      go_wp2_with fail
      go_ret2
      exact ⟨rfl, below_alloc HB9.out _⟩
theorem kind_told (x : SSchema) (A : Option Addr) (c : Nat) (l : List SOp) (Al : Option Addr) (cl : Nat) (w : World) (hr : Kd.C kField w A x.f2.length x.f2) (hc : x.f2.length ≤ c) (hl : Kd.C kOp w Al l.length l) (hlc : l.length ≤ cl) (hwl : ∀ x ∈ l, i64V x.f2) {y n : Int} (hq : kindV x l = (y, n)) : Calls Try.prog 15 #[.agg #[.string x.f0, .int .i64 x.f1, .slice A x.f2.length c], .slice Al l.length cl] w (kindPost y n w) := by
  unfold kindV at hq
  cases h1 : mayS x with
  | false =>
    rw [h1, if_neg (by simp), Prod.mk.injEq] at hq
    obtain ⟨rfl, rfl⟩ := hq
    exact kind_no1 x A c l Al cl w hr hc hl hlc hwl h1
  | true =>
    cases h2 : mayO l with
    | false =>
      rw [h1, h2, if_neg (by simp), Prod.mk.injEq] at hq
      obtain ⟨rfl, rfl⟩ := hq
      exact kind_no2 x A c l Al cl w hr hc hl hlc hwl h1 h2
    | true =>
      rw [h1, h2, if_pos ⟨rfl, rfl⟩, Prod.mk.injEq] at hq
      obtain ⟨rfl, rfl⟩ := hq
      exact kind_go x A c l Al cl w hr hc hl hlc hwl h1 h2 rfl
end Go.Proofs.Ytncllbokeofdjaa.P

namespace Go.Proofs.Ytncllbokeofdjaa.P
open Go.RowKit Go.Proofs.YtncllbokeofdjaaW.PrintWords Go.Proofs.YtncllbokeofdjaaW.PrintLast Go.Proofs.YtncllbokeofdjaaW.PrintMore
attribute [local go_sem] max2_int min2_int max_two min_two max_three min_three max_four min_four   -- for this text's walks alone
set_option linter.unusedVariables false
set_option linter.unusedSimpArgs false
def le_Get.l0 : Nat → List Int → Int → Int → Int → Option (Int × Int × Bool)
  | 0, _, _, _, _ => none
  | k + 1, x0, x5, x10, x11 => if x11 < x10 then (if 0 ≤ x11 then (if x11 < (x0.length : Int) then (if 0 ≤ (wrap64 (7 * x11)) then (if (IntKind.u64.wrap (rd x0 x11)) ≥ 128 then (le_Get.l0 k x0 (Go.bits .or .u64 x5 (shl .u64 (Go.bits .andNot .u64 (IntKind.u64.wrap (rd x0 x11)) 128) (wrap64 (7 * x11)))) x10 (wrap64 (x11 + 1))) else (if x11 > 0 then (if (IntKind.u64.wrap (rd x0 x11)) = 0 then (some (0, 0, false)) else (if x11 = 9 then (if (IntKind.u64.wrap (rd x0 x11)) > 1 then (some (0, 0, false)) else (some (Go.bits .or .u64 x5 (shl .u64 (Go.bits .andNot .u64 (IntKind.u64.wrap (rd x0 x11)) 128) (wrap64 (7 * x11))), wrap64 (x11 + 1), true))) else (some (Go.bits .or .u64 x5 (shl .u64 (Go.bits .andNot .u64 (IntKind.u64.wrap (rd x0 x11)) 128) (wrap64 (7 * x11))), wrap64 (x11 + 1), true)))) else (if x11 = 9 then (if (IntKind.u64.wrap (rd x0 x11)) > 1 then (some (0, 0, false)) else (some (Go.bits .or .u64 x5 (shl .u64 (Go.bits .andNot .u64 (IntKind.u64.wrap (rd x0 x11)) 128) (wrap64 (7 * x11))), wrap64 (x11 + 1), true))) else (some (Go.bits .or .u64 x5 (shl .u64 (Go.bits .andNot .u64 (IntKind.u64.wrap (rd x0 x11)) 128) (wrap64 (7 * x11))), wrap64 (x11 + 1), true))))) else (none)) else (none)) else (none)) else (some (0, 0, false))
def le_Get.f (k : Nat) (l0 : List Int) : Option (Int × Int × Bool) := le_Get.l0 k l0 0 (mn (l0.length : Int) 10) 0
set_option maxHeartbeats 8000000 in
set_option maxRecDepth 100000 in
theorem le_Get.calls (k : Nat) (A0 : Option Addr) (c0 : Nat) (l0 : List Int) (r1 : Int) (r2 : Int) (r3 : Bool) (w : World) (hr0 : Kd.C (Kd.int .u8) w A0 l0.length l0) (hc0 : l0.length ≤ c0) (h : le_Get.f k l0 = some (r1, r2, r3)) :
    Calls Try.prog 43 #[.slice A0 l0.length c0] w fun e w' => e = .returned (.tuple #[.int .u64 r1, .int .i64 r2, .bool r3]) ∧ Below w.heap.size w w' := by
  have HR0 := Aside0.mk hr0
  have HC0 := Aside0.mk hc0
  clear hr0 hc0
  have HB := Aside0.mk (Below.refl w.heap.size w)
  have H : (le_Get.l0 k l0 0 (mn (l0.length : Int) 10) 0) = some (r1, r2, r3) := h
  clear h
  obtain ⟨ji2, hji2⟩ : ∃ j_ : Int, (mn (l0.length : Int) 10) = j_ := ⟨_, rfl⟩
  replace H : (le_Get.l0 k l0 0 ji2 0) = some (r1, r2, r3) := by first | (rw [hji2] at H; exact H) | (simp only [hji2] at H ⊢; exact H)
  (try (have hji2h : ji2 ≤ 10 := by (rw [← hji2]; unfold mn; (repeat' split) <;> omega)))
  (try (have hji2g : ji2 ≤ 64 := by omega))
  (try (have hji2l : 0 ≤ ji2 := by (rw [← hji2]; unfold mn; (repeat' split) <;> omega)))
  (try (have hji2m : 0 ≤ ji2 := by omega))
  have hji2_ : (if 10 < (l0.length : Int) then 10 else (l0.length : Int)) = ji2 := hji2
  have H' := Aside0.mk H
  clear H
  go_enter Try.func43, Try.ntmps43
  go_wp2
  go_loopg [5, 11] k (fun kq v5 v11 w' => ∃ (x5_1 : Int) (x11_1 : Int), v5 = .int .u64 x5_1 ∧ v11 = .int .i64 x11_1 ∧ Aside0 (le_Get.l0 kq l0 x5_1 ji2 x11_1 = some (r1, r2, r3)) ∧ Aside0 (kq ≤ k) ∧ Aside0 (Below w.heap.size w w'))
  case atStart => exact ⟨(0), (0), (by first | rfl | (simp; done) | (simp [*]; done)), (by first | rfl | (simp; done) | (simp [*]; done)), H', ⟨Nat.le_refl _⟩, ⟨by repeat (first | (with_reducible first | exact HB.out | apply below_alloc | apply pw_below_drewN | apply below_drew1) | exact HB.out)⟩⟩
  case round =>
    clear H'
    try clear p2
    obtain ⟨x5_1, x11_1, rfl, rfl, HA, HK1, HB⟩ := hrel
    cases gk with
    | zero => exact absurd HA.out (by simp [le_Get.l0])
    | succ k1 =>
      have H := HA.out
      clear HA
      simp only [le_Get.l0] at H
      by_cases c3 : x11_1 < ji2
      · rw [if_pos c3] at H
        have c3b0 : decide (x11_1 < ji2) = true := decide_eq_true c3
        clear c3
        by_cases c4 : 0 ≤ x11_1
        · rw [if_pos c4] at H
          have c4b0 : decide (0 ≤ x11_1) = true := decide_eq_true c4
          clear c4
          by_cases c5 : x11_1 < (l0.length : Int)
          · rw [if_pos c5] at H
            have c5b0 : decide (x11_1 < (l0.length : Int)) = true := decide_eq_true c5
            clear c5
            obtain ⟨ji6, hji6⟩ : ∃ j_ : Int, (wrap64 (7 * x11_1)) = j_ := ⟨_, rfl⟩
            replace H : (if 0 ≤ (ji6) then (if (IntKind.u64.wrap (rd l0 x11_1)) ≥ 128 then (le_Get.l0 k1 l0 (Go.bits .or .u64 x5_1 (shl .u64 (Go.bits .andNot .u64 (IntKind.u64.wrap (rd l0 x11_1)) 128) (ji6))) ji2 (wrap64 (x11_1 + 1))) else (if x11_1 > 0 then (if (IntKind.u64.wrap (rd l0 x11_1)) = 0 then (some (0, 0, false)) else (if x11_1 = 9 then (if (IntKind.u64.wrap (rd l0 x11_1)) > 1 then (some (0, 0, false)) else (some (Go.bits .or .u64 x5_1 (shl .u64 (Go.bits .andNot .u64 (IntKind.u64.wrap (rd l0 x11_1)) 128) (ji6)), wrap64 (x11_1 + 1), true))) else (some (Go.bits .or .u64 x5_1 (shl .u64 (Go.bits .andNot .u64 (IntKind.u64.wrap (rd l0 x11_1)) 128) (ji6)), wrap64 (x11_1 + 1), true)))) else (if x11_1 = 9 then (if (IntKind.u64.wrap (rd l0 x11_1)) > 1 then (some (0, 0, false)) else (some (Go.bits .or .u64 x5_1 (shl .u64 (Go.bits .andNot .u64 (IntKind.u64.wrap (rd l0 x11_1)) 128) (ji6)), wrap64 (x11_1 + 1), true))) else (some (Go.bits .or .u64 x5_1 (shl .u64 (Go.bits .andNot .u64 (IntKind.u64.wrap (rd l0 x11_1)) 128) (ji6)), wrap64 (x11_1 + 1), true))))) else (none)) = some (r1, r2, r3) := by first | (rw [hji6] at H; exact H) | (simp only [hji6] at H ⊢; exact H)
            have hji6w : (IntKind.i64.wrap (7 * x11_1)) = ji6 := (i64_w _).trans hji6
            by_cases c7 : 0 ≤ (ji6)
            · rw [if_pos c7] at H
              have c7b0 := eq_true c7
              have c7b1 : decide (0 ≤ (ji6)) = true := decide_eq_true c7
              clear c7
              obtain ⟨ji8, hji8⟩ : ∃ j_ : Int, (shl .u64 (Go.bits .andNot .u64 (IntKind.u64.wrap (rd l0 x11_1)) 128) (ji6)) = j_ := ⟨_, rfl⟩
              replace H : (if (IntKind.u64.wrap (rd l0 x11_1)) ≥ 128 then (le_Get.l0 k1 l0 (Go.bits .or .u64 x5_1 (ji8)) ji2 (wrap64 (x11_1 + 1))) else (if x11_1 > 0 then (if (IntKind.u64.wrap (rd l0 x11_1)) = 0 then (some (0, 0, false)) else (if x11_1 = 9 then (if (IntKind.u64.wrap (rd l0 x11_1)) > 1 then (some (0, 0, false)) else (some (Go.bits .or .u64 x5_1 (ji8), wrap64 (x11_1 + 1), true))) else (some (Go.bits .or .u64 x5_1 (ji8), wrap64 (x11_1 + 1), true)))) else (if x11_1 = 9 then (if (IntKind.u64.wrap (rd l0 x11_1)) > 1 then (some (0, 0, false)) else (some (Go.bits .or .u64 x5_1 (ji8), wrap64 (x11_1 + 1), true))) else (some (Go.bits .or .u64 x5_1 (ji8), wrap64 (x11_1 + 1), true))))) = some (r1, r2, r3) := by first | (rw [hji8] at H; exact H) | (simp only [hji8] at H ⊢; exact H)
              have hji8_ : (IntKind.u64.wrap ((Go.bits .andNot .u64 (IntKind.u64.wrap (rd l0 x11_1)) 128) * 2 ^ min (ji6).toNat 64)) = ji8 := hji8
              have hji8z : (ji6) ≤ 64 → (IntKind.u64.wrap ((Go.bits .andNot .u64 (IntKind.u64.wrap (rd l0 x11_1)) 128) * 2 ^ (ji6).toNat)) = ji8 := shl_small hji8
              by_cases c9 : (IntKind.u64.wrap (rd l0 x11_1)) ≥ 128
              · rw [if_pos c9] at H
                have c9b0 : decide (128 ≤ (IntKind.u64.wrap (rd l0 x11_1))) = true := decide_eq_true c9
                clear c9
                have H' := Aside0.mk H
                clear H
                have p114 : 0 ≤ (x11_1 : Int) := of_decide_eq_true (by first | (with_reducible assumption) | assumption)
                have q114 : x11_1 < (l0.length : Int) := of_decide_eq_true (by first | (with_reducible assumption) | assumption)
                obtain ⟨ad114, e114, hx114_0⟩ := Kd.at_int HR0.out x11_1 p114 q114
                cases e114
                replace hx114_0 := (HB.out.cell (World.block_lt_of_cell? w _ hx114_0)).trans hx114_0
                replace p114 := eq_true p114
                replace q114 := eq_true q114
                go_wp2
                go_roundg k1
                case measure => have := HK1.out; omega
                case rel => exact ⟨(Go.bits .or .u64 x5_1 (ji8)), (wrap64 (x11_1 + 1)), (by first | rfl | (simp; done) | (simp only [← hji8] <;> (first | rfl | simp)) | (simp [*]; done)), (by first | rfl | (simp; done) | (simp [*]; done)), H', ⟨by have := HK1.out; omega⟩, ⟨by repeat (first | (with_reducible first | exact HB.out | apply below_alloc | apply pw_below_drewN | apply below_drew1) | exact HB.out)⟩⟩
              · rw [if_neg c9] at H
                have c9b0 : decide (128 ≤ (IntKind.u64.wrap (rd l0 x11_1))) = false := decide_eq_false c9
                clear c9
                by_cases c10 : x11_1 > 0
                · rw [if_pos c10] at H
                  have c10b0 : decide (0 < x11_1) = true := decide_eq_true c10
                  clear c10
                  by_cases c11 : (IntKind.u64.wrap (rd l0 x11_1)) = 0
                  · rw [if_pos c11] at H
                    have c11b0 : ((IntKind.u64.wrap (rd l0 x11_1)) == 0) = true := beq_iff_eq.mpr c11
                    have c11b1 : ((IntKind.u64.wrap (rd l0 x11_1)) != 0) = false := bne_eq_false_iff_eq.mpr c11
                    clear c11
                    simp only [Option.some.injEq, Prod.mk.injEq] at H
                    obtain ⟨rfl, rfl, rfl⟩ := H
                    have p114 : 0 ≤ (x11_1 : Int) := of_decide_eq_true (by first | (with_reducible assumption) | assumption)
                    have q114 : x11_1 < (l0.length : Int) := of_decide_eq_true (by first | (with_reducible assumption) | assumption)
                    obtain ⟨ad114, e114, hx114_0⟩ := Kd.at_int HR0.out x11_1 p114 q114
                    cases e114
                    replace hx114_0 := (HB.out.cell (World.block_lt_of_cell? w _ hx114_0)).trans hx114_0
                    replace p114 := eq_true p114
                    replace q114 := eq_true q114
                    go_wp2
                    go_ret3
                    exact ⟨by first | rfl | (simp [errW_none, errW_some] <;> rfl) | (simp only [← hji2, ← hji6, ← hji8]; first | rfl | (simp [errW_none, errW_some] <;> rfl)) | (simp [*, errW_none, errW_some] <;> rfl), by repeat (first | (with_reducible first | exact HB.out | apply below_alloc | apply pw_below_drewN | apply below_drew1) | exact HB.out)⟩
                  · rw [if_neg c11] at H
                    have c11b0 : ((IntKind.u64.wrap (rd l0 x11_1)) == 0) = false := beq_eq_false_iff_ne.mpr c11
                    have c11b1 : ((IntKind.u64.wrap (rd l0 x11_1)) != 0) = true := bne_iff_ne.mpr c11
                    by_cases c12 : x11_1 = 9
                    · rw [if_pos c12] at H
                      have c12b0 : (x11_1 == 9) = true := beq_iff_eq.mpr c12
                      have c12b1 : (x11_1 != 9) = false := bne_eq_false_iff_eq.mpr c12
                      clear c12
                      by_cases c13 : (IntKind.u64.wrap (rd l0 x11_1)) > 1
                      · rw [if_pos c13] at H
                        have c13b0 : decide (1 < (IntKind.u64.wrap (rd l0 x11_1))) = true := decide_eq_true c13
                        clear c13
                        simp only [Option.some.injEq, Prod.mk.injEq] at H
                        obtain ⟨rfl, rfl, rfl⟩ := H
                        have p114 : 0 ≤ (x11_1 : Int) := of_decide_eq_true (by first | (with_reducible assumption) | assumption)
                        have q114 : x11_1 < (l0.length : Int) := of_decide_eq_true (by first | (with_reducible assumption) | assumption)
                        obtain ⟨ad114, e114, hx114_0⟩ := Kd.at_int HR0.out x11_1 p114 q114
                        cases e114
                        replace hx114_0 := (HB.out.cell (World.block_lt_of_cell? w _ hx114_0)).trans hx114_0
                        replace p114 := eq_true p114
                        replace q114 := eq_true q114
                        go_wp2
                        go_ret3
                        exact ⟨by first | rfl | (simp [errW_none, errW_some] <;> rfl) | (simp only [← hji2, ← hji6, ← hji8]; first | rfl | (simp [errW_none, errW_some] <;> rfl)) | (simp [*, errW_none, errW_some] <;> rfl), by repeat (first | (with_reducible first | exact HB.out | apply below_alloc | apply pw_below_drewN | apply below_drew1) | exact HB.out)⟩
                      · rw [if_neg c13] at H
                        have c13b0 : decide (1 < (IntKind.u64.wrap (rd l0 x11_1))) = false := decide_eq_false c13
                        clear c13
                        simp only [Option.some.injEq, Prod.mk.injEq] at H
                        obtain ⟨rfl, rfl, rfl⟩ := H
                        have p114 : 0 ≤ (x11_1 : Int) := of_decide_eq_true (by first | (with_reducible assumption) | assumption)
                        have q114 : x11_1 < (l0.length : Int) := of_decide_eq_true (by first | (with_reducible assumption) | assumption)
                        obtain ⟨ad114, e114, hx114_0⟩ := Kd.at_int HR0.out x11_1 p114 q114
                        cases e114
                        replace hx114_0 := (HB.out.cell (World.block_lt_of_cell? w _ hx114_0)).trans hx114_0
                        replace p114 := eq_true p114
                        replace q114 := eq_true q114
                        go_wp2
                        go_ret3
                        exact ⟨by first | rfl | (simp [errW_none, errW_some] <;> rfl) | (simp only [← hji2, ← hji6, ← hji8]; first | rfl | (simp [errW_none, errW_some] <;> rfl)) | (simp [*, errW_none, errW_some] <;> rfl), by repeat (first | (with_reducible first | exact HB.out | apply below_alloc | apply pw_below_drewN | apply below_drew1) | exact HB.out)⟩
                    · rw [if_neg c12] at H
                      have c12b0 : (x11_1 == 9) = false := beq_eq_false_iff_ne.mpr c12
                      have c12b1 : (x11_1 != 9) = true := bne_iff_ne.mpr c12
                      simp only [Option.some.injEq, Prod.mk.injEq] at H
                      obtain ⟨rfl, rfl, rfl⟩ := H
                      have p114 : 0 ≤ (x11_1 : Int) := of_decide_eq_true (by first | (with_reducible assumption) | assumption)
                      have q114 : x11_1 < (l0.length : Int) := of_decide_eq_true (by first | (with_reducible assumption) | assumption)
                      obtain ⟨ad114, e114, hx114_0⟩ := Kd.at_int HR0.out x11_1 p114 q114
                      cases e114
                      replace hx114_0 := (HB.out.cell (World.block_lt_of_cell? w _ hx114_0)).trans hx114_0
                      replace p114 := eq_true p114
                      replace q114 := eq_true q114
                      go_wp2
                      go_ret3
                      exact ⟨by first | rfl | (simp [errW_none, errW_some] <;> rfl) | (simp only [← hji2, ← hji6, ← hji8]; first | rfl | (simp [errW_none, errW_some] <;> rfl)) | (simp [*, errW_none, errW_some] <;> rfl), by repeat (first | (with_reducible first | exact HB.out | apply below_alloc | apply pw_below_drewN | apply below_drew1) | exact HB.out)⟩
                · rw [if_neg c10] at H
                  have c10b0 : decide (0 < x11_1) = false := decide_eq_false c10
                  clear c10
                  by_cases c14 : x11_1 = 9
                  · rw [if_pos c14] at H
                    have c14b0 : (x11_1 == 9) = true := beq_iff_eq.mpr c14
                    have c14b1 : (x11_1 != 9) = false := bne_eq_false_iff_eq.mpr c14
                    clear c14
                    by_cases c15 : (IntKind.u64.wrap (rd l0 x11_1)) > 1
                    · rw [if_pos c15] at H
                      have c15b0 : decide (1 < (IntKind.u64.wrap (rd l0 x11_1))) = true := decide_eq_true c15
                      clear c15
                      simp only [Option.some.injEq, Prod.mk.injEq] at H
                      obtain ⟨rfl, rfl, rfl⟩ := H
                      have p114 : 0 ≤ (x11_1 : Int) := of_decide_eq_true (by first | (with_reducible assumption) | assumption)
                      have q114 : x11_1 < (l0.length : Int) := of_decide_eq_true (by first | (with_reducible assumption) | assumption)
                      obtain ⟨ad114, e114, hx114_0⟩ := Kd.at_int HR0.out x11_1 p114 q114
                      cases e114
                      replace hx114_0 := (HB.out.cell (World.block_lt_of_cell? w _ hx114_0)).trans hx114_0
                      replace p114 := eq_true p114
                      replace q114 := eq_true q114
                      go_wp2
                      go_ret3
                      exact ⟨by first | rfl | (simp [errW_none, errW_some] <;> rfl) | (simp only [← hji2, ← hji6, ← hji8]; first | rfl | (simp [errW_none, errW_some] <;> rfl)) | (simp [*, errW_none, errW_some] <;> rfl), by repeat (first | (with_reducible first | exact HB.out | apply below_alloc | apply pw_below_drewN | apply below_drew1) | exact HB.out)⟩
                    · rw [if_neg c15] at H
                      have c15b0 : decide (1 < (IntKind.u64.wrap (rd l0 x11_1))) = false := decide_eq_false c15
                      clear c15
                      simp only [Option.some.injEq, Prod.mk.injEq] at H
                      obtain ⟨rfl, rfl, rfl⟩ := H
                      have p114 : 0 ≤ (x11_1 : Int) := of_decide_eq_true (by first | (with_reducible assumption) | assumption)
                      have q114 : x11_1 < (l0.length : Int) := of_decide_eq_true (by first | (with_reducible assumption) | assumption)
                      obtain ⟨ad114, e114, hx114_0⟩ := Kd.at_int HR0.out x11_1 p114 q114
                      cases e114
                      replace hx114_0 := (HB.out.cell (World.block_lt_of_cell? w _ hx114_0)).trans hx114_0
                      replace p114 := eq_true p114
                      replace q114 := eq_true q114
                      go_wp2
                      go_ret3
                      exact ⟨by first | rfl | (simp [errW_none, errW_some] <;> rfl) | (simp only [← hji2, ← hji6, ← hji8]; first | rfl | (simp [errW_none, errW_some] <;> rfl)) | (simp [*, errW_none, errW_some] <;> rfl), by repeat (first | (with_reducible first | exact HB.out | apply below_alloc | apply pw_below_drewN | apply below_drew1) | exact HB.out)⟩
                  · rw [if_neg c14] at H
                    have c14b0 : (x11_1 == 9) = false := beq_eq_false_iff_ne.mpr c14
                    have c14b1 : (x11_1 != 9) = true := bne_iff_ne.mpr c14
                    simp only [Option.some.injEq, Prod.mk.injEq] at H
                    obtain ⟨rfl, rfl, rfl⟩ := H
                    have p114 : 0 ≤ (x11_1 : Int) := of_decide_eq_true (by first | (with_reducible assumption) | assumption)
                    have q114 : x11_1 < (l0.length : Int) := of_decide_eq_true (by first | (with_reducible assumption) | assumption)
                    obtain ⟨ad114, e114, hx114_0⟩ := Kd.at_int HR0.out x11_1 p114 q114
                    cases e114
                    replace hx114_0 := (HB.out.cell (World.block_lt_of_cell? w _ hx114_0)).trans hx114_0
                    replace p114 := eq_true p114
                    replace q114 := eq_true q114
                    go_wp2
                    go_ret3
                    exact ⟨by first | rfl | (simp [errW_none, errW_some] <;> rfl) | (simp only [← hji2, ← hji6, ← hji8]; first | rfl | (simp [errW_none, errW_some] <;> rfl)) | (simp [*, errW_none, errW_some] <;> rfl), by repeat (first | (with_reducible first | exact HB.out | apply below_alloc | apply pw_below_drewN | apply below_drew1) | exact HB.out)⟩
            · rw [if_neg c7] at H
              exact absurd H (by simp)
          · rw [if_neg c5] at H
            exact absurd H (by simp)
        · rw [if_neg c4] at H
          exact absurd H (by simp)
      · rw [if_neg c3] at H
        have c3b0 : decide (x11_1 < ji2) = false := decide_eq_false c3
        clear c3
        simp only [Option.some.injEq, Prod.mk.injEq] at H
        obtain ⟨rfl, rfl, rfl⟩ := H
        go_wp2
        go_ret3
        exact ⟨by first | rfl | (simp [errW_none, errW_some] <;> rfl) | (simp only [← hji2]; first | rfl | (simp [errW_none, errW_some] <;> rfl)) | (simp [*, errW_none, errW_some] <;> rfl), by repeat (first | (with_reducible first | exact HB.out | apply below_alloc | apply pw_below_drewN | apply below_drew1) | exact HB.out)⟩
theorem u64_small {n : Nat} (h : n < 18446744073709551616) : IntKind.wrap .u64 (n : Int) = (n : Int) := by simp [IntKind.wrap, IntKind.bits, IntKind.signed]; omega
theorem or_nat {a b : Nat} (ha : a < 18446744073709551616) (hb : b < 18446744073709551616) : Go.bits .or .u64 (a : Int) (b : Int) = ((a ||| b : Nat) : Int) := by
  have e1 : (BitVec.ofInt 64 (a : Int)).toNat = a := by rw [BitVec.ofInt_natCast, BitVec.toNat_ofNat, Nat.mod_eq_of_lt ha]
  have e2 : (BitVec.ofInt 64 (b : Int)).toNat = b := by rw [BitVec.ofInt_natCast, BitVec.toNat_ofNat, Nat.mod_eq_of_lt hb]
  show IntKind.wrap .u64 (((BitVec.ofInt 64 (a : Int) ||| BitVec.ofInt 64 (b : Int)).toNat : Nat) : Int) = _
  rw [BitVec.toNat_or, e1, e2]
  exact u64_small (Nat.or_lt_two_pow (n := 64) ha hb)
theorem or_sum {a x s : Nat} (ha : a < 2 ^ s) (hx : x * 2 ^ s < 18446744073709551616) (hs : s < 64) : Go.bits .or .u64 (a : Int) ((x * 2 ^ s : Nat) : Int) = ((a + x * 2 ^ s : Nat) : Int) := by
  have h64 : 2 ^ s < 2 ^ 64 := Nat.pow_lt_pow_right (by decide) hs
  rw [or_nat (by have : (2:Nat) ^ 64 = 18446744073709551616 := by decide
                 omega) hx]
  congr 1
  rw [Nat.or_comm, ← Nat.shiftLeft_eq, ← Nat.shiftLeft_add_eq_or_of_lt ha, Nat.add_comm]
theorem low_seven {c : Nat} (h : c < 256) : Go.bits .andNot .u64 (IntKind.wrap .u64 (c : Int)) 128 = ((c % 128 : Nat) : Int) := by
  have h0 : ∀ b : Fin 256, Go.bits .andNot .u64 (IntKind.wrap .u64 ((b.val : Nat) : Int)) 128 = ((b.val % 128 : Nat) : Int) := by decide +kernel
  exact h0 ⟨c, h⟩
theorem shl_nat {x s : Nat} (hs : s < 64) (h : x * 2 ^ s < 18446744073709551616) : shl .u64 (x : Int) (s : Int) = ((x * 2 ^ s : Nat) : Int) := by
  unfold shl
  rw [Int.toNat_natCast, Nat.min_eq_left (show s ≤ IntKind.bits .u64 from by show s ≤ 64; omega)]
  rw [show (x : Int) * 2 ^ s = ((x * 2 ^ s : Nat) : Int) from by push_cast; rfl]
  exact u64_small h
theorem le_Get_loop (l : List Int) (hl : ∀ c ∈ l, 0 ≤ c ∧ c < 256) (hlen : l.length < 4611686018427387904) : ∀ (d i k : Nat) (acc : Int) (a : Nat), i + d = 10 → d < k → i ≤ l.length → (i ≤ 9 → acc = (a : Int) ∧ a < 128 ^ i) →
    le_Get.l0 k l acc (mn (l.length : Int) 10) (i : Int) = some (tellN (getNAux i a (l.drop i))) := by
  have hmn : mn (l.length : Int) 10 = ((min l.length 10 : Nat) : Int) := by unfold mn; split <;> omega
  rw [hmn]
  intro d
  induction d with
  | zero =>
    intro i k acc a hi hk hil _
    obtain ⟨k, rfl⟩ := rounds_of hk
    simp only [le_Get.l0]
    rw [if_neg (by omega), getNAux_late _ _ (by omega)]
    rfl
  | succ d ih =>
    intro i k acc a hi hk hil hA
    obtain ⟨k, rfl⟩ := rounds_of hk
    obtain ⟨rfl, ha⟩ := hA (by omega)
    simp only [le_Get.l0]
    by_cases h : i < l.length
    · have hc := hl (l.getD i 0) (by simp [List.getD, h])
      have hd : l.drop i = l.getD i 0 :: l.drop (i + 1) := by rw [List.drop_eq_getElem_cons h]; simp [List.getD, h]
      rw [if_pos (by omega), if_pos (by omega), if_pos (by omega), show rd l (i : Int) = l.getD i 0 from by simp [rd], hd]
      have ew : wrap64 (7 * (i : Int)) = ((7 * i : Nat) : Int) := by unfold wrap64; omega
      rw [ew, if_pos (by omega), wrap_succ (by omega)]
      obtain ⟨c, hce⟩ := Int.eq_ofNat_of_zero_le hc.1
      rw [hce] at hc ⊢
      have hc2 : c < 256 := by omega
      rw [low_seven hc2, u64_small (show c < 18446744073709551616 from by omega)]
      have hp : (2 : Nat) ^ (7 * i) = 128 ^ i := by rw [Nat.pow_mul]
      have hG : getNAux i a (((c : Nat) : Int) :: l.drop (i + 1)) = if 128 ≤ ((c : Nat) : Int) then getNAux (i + 1) (a + ((c : Nat) : Int).toNat % 128 * 128 ^ i) (l.drop (i + 1)) else if (0 < i ∧ ((c : Nat) : Int) = 0) ∨ (i = 9 ∧ 1 < ((c : Nat) : Int)) then none else some (a + ((c : Nat) : Int).toNat * 128 ^ i, i + 1) := by
        rw [getNAux, if_neg (by omega)]
      rw [hG]
      have hpl : 128 ^ i ≤ 128 ^ 9 := Nat.pow_le_pow_right (by decide) (by omega)
      have h9 : (128 : Nat) ^ 9 = 9223372036854775808 := by decide
      have hsum : ∀ x : Nat, x * 128 ^ i < 18446744073709551616 → Go.bits .or .u64 (a : Int) (shl .u64 (x : Int) ((7 * i : Nat) : Int)) = ((a + x * 128 ^ i : Nat) : Int) := by
        intro x hx
        rw [shl_nat (by omega) (by rw [hp]; exact hx), or_sum (by rw [hp]; exact ha) (by rw [hp]; exact hx) (by omega), hp]
      by_cases h128 : (c : Int) ≥ 128
      · rw [if_pos h128, if_pos (show (128 : Int) ≤ ((c : Nat) : Int) from h128)]
        refine ih (i + 1) k _ (a + ((c : Nat) : Int).toNat % 128 * 128 ^ i) (by omega) (by omega) (by omega) (fun h8 => ?_)
        have hpl8 : 128 ^ i ≤ 128 ^ 8 := Nat.pow_le_pow_right (by decide) (by omega)
        have h88 : (128 : Nat) ^ 8 = 72057594037927936 := by decide
        have hx : c % 128 * 128 ^ i ≤ 127 * 128 ^ i := Nat.mul_le_mul_right _ (by omega)
        rw [hsum _ (by omega)]
        refine ⟨rfl, ?_⟩
        show a + c % 128 * 128 ^ i < 128 ^ (i + 1)
        rw [Nat.pow_succ]
        omega
      · have hcm : c % 128 = c := Nat.mod_eq_of_lt (by omega)
        rw [if_neg h128, if_neg (show ¬ (128 : Int) ≤ ((c : Nat) : Int) from h128), hcm]
        have hlow : ∀ (hx : c * 128 ^ i < 18446744073709551616), some (Go.bits .or .u64 (a : Int) (shl .u64 (c : Int) ((7 * i : Nat) : Int)), ((i + 1 : Nat) : Int), true) = some (tellN (some (a + ((c : Nat) : Int).toNat * 128 ^ i, i + 1))) := by
          intro hx
          rw [hsum _ hx]
          rfl
        have hsmall : i ≠ 9 → c * 128 ^ i < 18446744073709551616 := by
          intro h8
          have hpl8 : 128 ^ i ≤ 128 ^ 8 := Nat.pow_le_pow_right (by decide) (by omega)
          have h88 : (128 : Nat) ^ 8 = 72057594037927936 := by decide
          have hx : c * 128 ^ i ≤ 127 * 128 ^ i := Nat.mul_le_mul_right _ (by omega)
          omega
        have hone : c ≤ 1 → c * 128 ^ i < 18446744073709551616 := by
          intro h1
          have hx : c * 128 ^ i ≤ 1 * 128 ^ i := Nat.mul_le_mul_right _ h1
          omega
        by_cases h0 : (i : Int) > 0
        · rw [if_pos h0]
          by_cases hc0 : (c : Int) = 0
          · rw [if_pos hc0, if_pos (.inl ⟨by omega, hc0⟩)]
            rfl
          · rw [if_neg hc0]
            by_cases hi9 : (i : Int) = 9
            · rw [if_pos hi9]
              by_cases hc1 : (c : Int) > 1
              · rw [if_pos hc1, if_pos (.inr ⟨by omega, hc1⟩)]
                rfl
              · rw [if_neg hc1, if_neg (by omega)]
                exact hlow (hone (by omega))
            · rw [if_neg hi9, if_neg (by omega)]
              exact hlow (hsmall (by omega))
        · rw [if_neg h0, if_neg (by omega), if_neg (by omega)]
          exact hlow (hsmall (by omega))
    · rw [if_neg (by omega), List.drop_of_length_le (by omega)]
      rfl
theorem le_Get_is (l : List Int) (hl : ∀ c ∈ l, 0 ≤ c ∧ c < 256) (hlen : l.length < 4611686018427387904) {k : Nat} (hk : 10 < k) : le_Get.f k l = some (tellN (getN l)) :=
  le_Get_loop l hl hlen 10 0 k 0 0 (by omega) (by omega) (by omega) (fun _ => ⟨rfl, by decide⟩)
theorem le_Get.told (A0 : Option Addr) (c0 : Nat) (l0 : List Int) (w : World) (hb : byteL l0) (hlen : l0.length < 4611686018427387904) (hr0 : Kd.C (Kd.int .u8) w A0 l0.length l0) (hc0 : l0.length ≤ c0) :
    Calls Try.prog 43 #[.slice A0 l0.length c0] w (getPost l0 w) := by
  have h := le_Get_is l0 hb hlen (k := 11) (by decide)
  cases hg : tellN (getN l0) with
  | mk n p =>
    obtain ⟨u, b⟩ := p
    rw [hg] at h
    refine (le_Get.calls 11 A0 c0 l0 n u b w hr0 hc0 h).mono ?_
    rintro e w' ⟨rfl, h3⟩
    unfold getPost
    rw [hg]
    exact ⟨rfl, h3⟩
theorem le_Get.yes (A0 : Option Addr) (c0 : Nat) (l0 : List Int) (w : World) {n u : Nat} (hg : getN l0 = some (n, u)) (hb : byteL l0) (hlen : l0.length < 4611686018427387904) (hr0 : Kd.C (Kd.int .u8) w A0 l0.length l0) (hc0 : l0.length ≤ c0) : Calls Try.prog 43 #[.slice A0 l0.length c0] w (numYes n u w) :=
  (le_Get.told A0 c0 l0 w hb hlen hr0 hc0).mono fun e w' h => by unfold getPost at h; rw [hg] at h; exact h
theorem le_Get.no (A0 : Option Addr) (c0 : Nat) (l0 : List Int) (w : World) (hg : getN l0 = none) (hb : byteL l0) (hlen : l0.length < 4611686018427387904) (hr0 : Kd.C (Kd.int .u8) w A0 l0.length l0) (hc0 : l0.length ≤ c0) : Calls Try.prog 43 #[.slice A0 l0.length c0] w (numNo w) :=
  (le_Get.told A0 c0 l0 w hb hlen hr0 hc0).mono fun e w' h => by unfold getPost at h; rw [hg] at h; exact h
end Go.Proofs.Ytncllbokeofdjaa.P

namespace Go.Proofs.Ytncllbokeofdjaa.P
open Go.RowKit Go.Proofs.YtncllbokeofdjaaW.PrintWords Go.Proofs.YtncllbokeofdjaaW.PrintLast Go.Proofs.YtncllbokeofdjaaW.PrintMore
attribute [local go_sem] max2_int min2_int max_two min_two max_three min_three max_four min_four   -- for this text's walks alone
set_option linter.unusedVariables false
set_option linter.unusedSimpArgs false
def le_Zag.f (a0 : Int) : Option (Int) := some (Go.bits .xor .i64 (wrap64 (a0 / 2)) (wrap64 (-(wrap64 (Go.bits .and .u64 a0 1)))))
set_option maxHeartbeats 8000000 in
set_option maxRecDepth 100000 in
theorem le_Zag.calls (a0 : Int) (r : Int) (w : World) (h : le_Zag.f a0 = some r) :
    Calls Try.prog 85 #[.int .u64 a0] w fun e w' => e = .returned (.int .i64 r) ∧ Drawn0 w w' := by
  have H : (some (Go.bits .xor .i64 (wrap64 (a0 / 2)) (wrap64 (-(wrap64 (Go.bits .and .u64 a0 1)))))) = some r := h
  clear h
  obtain rfl := Option.some.inj H
  go_enter Try.func85, Try.ntmps85
  go_wp2
  go_ret
  exact ⟨by first | rfl | (simp; done) | (simp [*]; done), by repeat (first | exact Drawn0.refl _ | apply Drawn0.step)⟩
theorem zag_is {m : Nat} (h : m < 18446744073709551616) : le_Zag.f (m : Int) = some (zagN m) := by
  unfold le_Zag.f zagN
  have hand : Go.bits .and .u64 (m : Int) 1 = ((m % 2 : Nat) : Int) := by
    show IntKind.wrap .u64 (((BitVec.ofInt 64 (m : Int) &&& BitVec.ofInt 64 1).toNat : Nat) : Int) = _
    rw [BitVec.toNat_and, ofInt_u64 (by omega) (by omega), show (BitVec.ofInt 64 1).toNat = 1 from by decide, Int.toNat_natCast, Nat.and_one_is_mod, wrap_u64]
    omega
  rw [hand]
  have e1 : wrap64 ((m : Int) / 2) = ((m / 2 : Nat) : Int) := by unfold wrap64; omega
  rw [e1]
  by_cases h2 : m % 2 = 0
  · rw [if_pos h2, h2, show wrap64 (-wrap64 ((0 : Nat) : Int)) = 0 from by unfold wrap64; decide]
    rw [xor_zeroI _ (by rw [ofInt_u64 (by omega) (by omega), wrap_i64]; unfold wrap64; omega)]
  · rw [if_neg h2, show m % 2 = 1 from by omega, show wrap64 (-wrap64 ((1 : Nat) : Int)) = -1 from by unfold wrap64; decide]
    show some (IntKind.wrap .i64 (((BitVec.ofInt 64 ((m / 2 : Nat) : Int) ^^^ BitVec.ofInt 64 (-1)).toNat : Nat) : Int)) = _
    rw [show BitVec.ofInt 64 (-1) = BitVec.allOnes 64 from by decide, not64, ofInt_u64 (by omega) (by omega), wrap_i64]
    congr 1
    unfold wrap64
    omega
end Go.Proofs.Ytncllbokeofdjaa.P

namespace Go.Proofs.Ytncllbokeofdjaa.P
open Go.RowKit Go.Proofs.YtncllbokeofdjaaW.PrintWords Go.Proofs.YtncllbokeofdjaaW.PrintLast Go.Proofs.YtncllbokeofdjaaW.PrintMore
attribute [local go_sem] max2_int min2_int max_two min_two max_three min_three max_four min_four   -- for this text's walks alone
set_option linter.unusedVariables false
set_option linter.unusedSimpArgs false
set_option maxHeartbeats 4000000 in
set_option maxRecDepth 100000 in
theorem value_Get.told (w : World) (A : Option Addr) (c : Nat) (l : List Int) (hr0 : Kd.C (Kd.int .u8) w A l.length l) (hc0 : l.length ≤ c) (hb : byteL l) (hl : l.length < 4611686018427387904) {x : SValue} {m : Nat} {b : Bool} (hq : gotV (getV l) = (x, m, b)) :
    Calls Try.prog 68 #[.slice A l.length c] w (valPost3 x m b w) := by
  have HR := Aside0.mk hr0
  have HC := Aside0.mk hc0
  clear hr0
  cases l with
  | nil =>
    obtain ⟨rfl, rfl, rfl⟩ : x = ⟨0, 0, ⟨#[]⟩⟩ ∧ m = 0 ∧ b = false := by
      have h : ((⟨0, 0, ⟨#[]⟩⟩ : SValue), 0, false) = (x, m, b) := hq
      simp only [Prod.mk.injEq] at h
      exact ⟨h.1.symm, h.2.1.symm, h.2.2.symm⟩
    clear hq hl
    show Calls _ _ #[.slice A 0 c] w _
    have HKr := Aside0.mk (blk_alloc (blk_new w (.cells #[.int .i64 0, .int .i64 0, .string ⟨#[]⟩] 38)) (.cells #[.int .i64 0, .int .i64 0, .string ⟨#[]⟩] 38))
    have HB := Aside0.mk (show Below w.heap.size w ((w.alloc (.cells #[.int .i64 0, .int .i64 0, .string ⟨#[]⟩] 38)).alloc (.cells #[.int .i64 0, .int .i64 0, .string ⟨#[]⟩] 38)) from below_alloc (below_alloc (Below.refl _ _) _) _)
    go_enter Try.func68, Try.ntmps68
    go_wp2
    exact bodyPost_ret (v := .tuple #[.agg #[.int .i64 0, .int .i64 0, .string ⟨#[]⟩], .int .i64 0, .bool false]) (by simp [results, Try.results68, go_sem]) rfl ⟨rfl, HB.out⟩
  | cons k r =>
    have hk := hb k (by simp)
    obtain ⟨hk0, hk1⟩ := hk
    have HBR := Aside0.mk (show byteL r from fun c hc => hb c (by simp [hc]))
    clear hb
    obtain ⟨i0, hi0, _, hsz0, _⟩ := info_parts info5
    obtain ⟨A1, hcut1, hD1, hlc1⟩ := drop_row (P := Try.prog) (d := Kd.int .u8) Try.underlying29 hi0 hsz0 A c (k :: r) 1 1 rfl (by simp) HC.out
    rw [List.drop_succ_cons, List.drop_zero] at hD1 hlc1
    simp only [List.drop_succ_cons, List.drop_zero] at hcut1
    have HD1 := Aside0.mk (hD1 w HR.out)
    have HL1 := Aside0.mk hlc1
    obtain ⟨ad, had, hx⟩ := Kd.at_int HR.out 0 (by omega) (by simp)
    subst had
    replace hx : w.cell? ad = some (.int .u8 k) := hx
    have HX := Aside0.mk hx
    have hlr : r.length + 1 < 4611686018427387904 := by simpa using hl
    have hln : (k :: r).length = r.length + 1 := rfl
    rw [hln] at hcut1 hc0 ⊢
    have HLN := Aside0.mk hln
    clear hD1 hlc1 hx hl hln
    have hw0 : IntKind.wrap .i64 k = k := IntWalk.i64_in _ (by omega)
    cases hg : getN r with
    | none =>
      obtain ⟨rfl, rfl, rfl⟩ : x = ⟨0, 0, ⟨#[]⟩⟩ ∧ m = 0 ∧ b = false := by
        have h : gotV (getV (k :: r)) = ((⟨0, 0, ⟨#[]⟩⟩ : SValue), 0, false) := by unfold getV; simp only [hg]; rfl
        rw [h] at hq
        simp only [Prod.mk.injEq] at hq
        exact ⟨hq.1.symm, hq.2.1.symm, hq.2.2.symm⟩
      have HG := Aside0.mk hg
      clear hg hq hw0
      go_enter Try.func68, Try.ntmps68
      go_wp2_with (go_at_call 43; refine (le_Get.no A1 _ r _ HG.out HBR.out (by omega) (Kd.C_below HD1.out (below_alloc (below_alloc (Below.refl _ _) _) _)) HL1.out).mono ?_; rintro e w1 ⟨rfl, hb1⟩; have HB1 := Aside0.mk (below_step (below_alloc (below_alloc (Below.refl _ _) _) _) hb1); have HKr1 := Aside0.mk (blk_below (blk_alloc (blk_new w (.cells #[.int .i64 0, .int .i64 0, .string ⟨#[]⟩] 38)) (.cells #[.int .i64 0, .int .i64 0, .string ⟨#[]⟩] 38)) hb1); obtain ⟨kr1, kr2, kr3, kr4⟩ := know HKr1.out; have HKn1 := Aside0.mk (blk_below (blk_new2 w (.cells #[.int .i64 0, .int .i64 0, .string ⟨#[]⟩] 38) (.cells #[.int .i64 0, .int .i64 0, .string ⟨#[]⟩] 38)) hb1); obtain ⟨kn1, kn2, kn3, kn4⟩ := know HKn1.out; clear hb1)
      have hz := blk_put3 HKr1.out (.int .i64 0) (.int .i64 0) (.string ⟨#[]⟩)
      have hbz := below_put3 HB1.out (Nat.le_refl _) (.int .i64 0) (.int .i64 0) (.string ⟨#[]⟩)
      generalize World.setCell (World.setCell (World.setCell _ _ _) _ _) _ _ = W3 at hz hbz ⊢
      have hz0 : W3.cell? ⟨w.heap.size, 0, none⟩ = some (.int .i64 0) := blk_cell hz 0
      have hz1 : W3.cell? ⟨w.heap.size, 1, none⟩ = some (.int .i64 0) := blk_cell hz 1
      have hz2 : W3.cell? ⟨w.heap.size, 2, none⟩ = some (.string ⟨#[]⟩) := blk_cell hz 2
      exact bodyPost_ret (v := .tuple #[.agg #[.int .i64 0, .int .i64 0, .string ⟨#[]⟩], .int .i64 0, .bool false]) (by simp [results, Try.results68, go_sem, hz0, hz1, hz2]) rfl ⟨rfl, hbz⟩
    | some p =>
      obtain ⟨n, u⟩ := p
      have hu := (getN_used hg).2
      have hnb : n < 18446744073709551616 := (getN_some HBR.out hg).1
      have HG := Aside0.mk hg
      by_cases hk3 : k = 0
      · subst hk3
        obtain ⟨rfl, rfl, rfl⟩ : x = ⟨0, zagN n, ⟨#[]⟩⟩ ∧ m = u + 1 ∧ b = true := by
          have h : gotV (getV (0 :: r)) = ((⟨0, zagN n, ⟨#[]⟩⟩ : SValue), u + 1, true) := by unfold getV; simp only [hg]; rfl
          rw [h] at hq
          simp only [Prod.mk.injEq] at hq
          exact ⟨hq.1.symm, hq.2.1.symm, hq.2.2.symm⟩
        have HZ := Aside0.mk (zag_is hnb)
        have HZB := Aside0.mk (zag_in hnb)
        have HM := Aside0.mk (show mayV ⟨0, zagN n, ⟨#[]⟩⟩ = true from mayV_iff.2 (.inl ⟨rfl, (by decide +kernel : (⟨#[]⟩ : ByteArray).toList = [])⟩))
        generalize zagN n = z at *
        clear hg hq hw0
        go_enter Try.func68, Try.ntmps68
        go_wp2_with (first
          | (go_at_call 43; refine (le_Get.yes A1 _ r _ HG.out HBR.out (by omega) (Kd.C_below HD1.out (below_alloc (below_alloc (Below.refl _ _) _) _)) HL1.out).mono ?_; rintro e w1 ⟨rfl, hb1⟩; have HB1 := Aside0.mk (below_step (below_alloc (below_alloc (Below.refl _ _) _) _) hb1); have HKr1 := Aside0.mk (blk_below (blk_alloc (blk_new w (.cells #[.int .i64 0, .int .i64 0, .string ⟨#[]⟩] 38)) (.cells #[.int .i64 0, .int .i64 0, .string ⟨#[]⟩] 38)) hb1); obtain ⟨kr1, kr2, kr3, kr4⟩ := know HKr1.out; have HKn1 := Aside0.mk (blk_below (blk_new2 w (.cells #[.int .i64 0, .int .i64 0, .string ⟨#[]⟩] 38) (.cells #[.int .i64 0, .int .i64 0, .string ⟨#[]⟩] 38)) hb1); obtain ⟨kn1, kn2, kn3, kn4⟩ := know HKn1.out; have hx1 := pw_cell_below HB1.out HX.out; clear hb1)
          | (go_at_call 85; refine (le_Zag.calls (n : Int) _ _ HZ.out).mono ?_; rintro e w2 ⟨rfl, hd2⟩; have hb2 := hd2.below; have HB2 := Aside0.mk (below_step (below_alloc HB1.out _) hb2); have HKr2 := Aside0.mk (blk_below (blk_alloc HKr1.out _) hb2); have HKv2 := Aside0.mk (blk_below (blk_new w1 (.cells #[.int .i64 0, .int .i64 0, .string ⟨#[]⟩] 38)) hb2); have hcv2 := cells_of HKv2.out; have hfv2 := frozen_of HKv2.out; clear hb2 hd2)
          | (go_at_call 27; refine (mayV_told ⟨0, z, ⟨#[]⟩⟩ _ HZB.out HM.out).mono ?_; rintro e w3 ⟨rfl, hb3⟩; have HB3 := Aside0.mk (below_step (below_set (j := 1) (v := Value.int .i64 z) (g := w1.heap.size) HB2.out (below_size HB1.out)) hb3); have HKr3 := Aside0.mk (blk_below (blk_far HKr2.out (p := ⟨w1.heap.size, 1, none⟩) (Nat.ne_of_lt (blk_lt HKr1.out)) (Value.int .i64 z)) hb3); have HKv3 := Aside0.mk (blk_below (blk_set HKv2.out 1 (Value.int .i64 z)) hb3); have hcr3 := cells_of HKr3.out; have hfr3 := frozen_of HKr3.out; have hcv3 := cells_of HKv3.out; clear hb3))
        have hz := blk_put3 HKr3.out (.int .i64 0) (.int .i64 z) (.string ⟨#[]⟩)
        have hbz := below_put3 HB3.out (Nat.le_refl _) (.int .i64 0) (.int .i64 z) (.string ⟨#[]⟩)
        generalize World.setCell (World.setCell (World.setCell _ _ _) _ _) _ _ = W3 at hz hbz ⊢
        have hz0 : W3.cell? ⟨w.heap.size, 0, none⟩ = some (.int .i64 0) := blk_cell hz 0
        have hz1 : W3.cell? ⟨w.heap.size, 1, none⟩ = some (.int .i64 z) := blk_cell hz 1
        have hz2 : W3.cell? ⟨w.heap.size, 2, none⟩ = some (.string ⟨#[]⟩) := blk_cell hz 2
        exact bodyPost_ret (v := .tuple #[.agg #[.int .i64 0, .int .i64 z, .string ⟨#[]⟩], .int .i64 ((u + 1 : Nat) : Int), .bool true]) (by simp [results, Try.results68, go_sem, hz0, hz1, hz2]) rfl ⟨rfl, hbz⟩
      · by_cases hk4 : k = 2
        · subst hk4
          have hq2 : gotV (getV (2 :: r)) = if n ≤ 40 ∧ n ≤ r.length - u then (⟨2, 0, strOfNums ((r.drop u).take n)⟩, u + 1 + n, true) else (⟨0, 0, ⟨#[]⟩⟩, 0, false) := by
            have h : getV (2 :: r) = if n ≤ 40 ∧ n ≤ r.length - u then some (⟨2, 0, strOfNums ((r.drop u).take n)⟩, u + 1 + n) else none := by
              unfold getV
              simp only [hg]
              rfl
            rw [h]
            split <;> rfl
          rw [hq2] at hq
          clear hq2 hk3
          have hwe : IntKind.wrap .u64 ((r.length : Int) + 1 - ((u : Int) + 1)) = (r.length : Int) + 1 - ((u : Int) + 1) := by rw [wrap_u64]; omega
          by_cases hfit : n ≤ r.length - u
          · have hwn : IntKind.wrap .i64 (n : Int) = (n : Int) := IntWalk.i64_in _ (by omega)
            obtain ⟨A2, hcut2, hD2, hln2⟩ := mid_row (P := Try.prog) (d := Kd.int .u8) Try.underlying29 hi0 hsz0 (some ad) c (2 :: r) (u + 1) n ((u : Int) + 1) (((u : Int) + 1) + (n : Int)) (by omega) (by omega) (by rw [HLN.out]; omega) HC.out
            rw [List.drop_succ_cons] at hD2 hln2
            rw [HLN.out] at hcut2
            have HD2 := Aside0.mk (hD2 w (by rw [HLN.out]; exact HR.out))
            have hstr := fun (W : World) (h : Below w.heap.size w W) => Kd.C_string (P := Try.prog) (c := c - (u + 1)) Try.underlying29 Try.underlying5 Try.underlying9 (Kd.C_below HD2.out h)
            have hsz : (strOfNums ((r.drop u).take n)).size = n := by rw [strOfNums_size]; exact hln2
            have HSTR := Aside0.mk hstr
            have HSZ := Aside0.mk hsz
            have hf1 : (n : Int) ≤ (r.length : Int) + 1 - ((u : Int) + 1) := by omega
            clear hD2 hln2 hstr hsz
            by_cases h40 : n ≤ 40
            · skip
              obtain ⟨rfl, rfl, rfl⟩ : x = ⟨2, 0, strOfNums ((r.drop u).take n)⟩ ∧ m = u + 1 + n ∧ b = true := by
                rw [if_pos ⟨h40, hfit⟩] at hq
                simp only [Prod.mk.injEq] at hq
                exact ⟨hq.1.symm, hq.2.1.symm, hq.2.2.symm⟩
              have HM := Aside0.mk (show mayV ⟨2, 0, strOfNums ((r.drop u).take n)⟩ = true from by exact mayV_iff.2 (.inr (.inr (.inl ⟨rfl, rfl, by rw [HSZ.out]; omega⟩))))
              generalize strOfNums ((r.drop u).take n) = t at *
              clear hg hq hi0 hsz0
              go_enter Try.func68, Try.ntmps68
              go_wp2_with (first
                | (go_at_call 43; refine (le_Get.yes A1 _ r _ HG.out HBR.out (by omega) (Kd.C_below HD1.out (below_alloc (below_alloc (Below.refl _ _) _) _)) HL1.out).mono ?_; rintro e w1 ⟨rfl, hb1⟩; have HB1 := Aside0.mk (below_step (below_alloc (below_alloc (Below.refl _ _) _) _) hb1); have HKr1 := Aside0.mk (blk_below (blk_alloc (blk_new w (.cells #[.int .i64 0, .int .i64 0, .string ⟨#[]⟩] 38)) (.cells #[.int .i64 0, .int .i64 0, .string ⟨#[]⟩] 38)) hb1); obtain ⟨kr1, kr2, kr3, kr4⟩ := know HKr1.out; have HKn1 := Aside0.mk (blk_below (blk_new2 w (.cells #[.int .i64 0, .int .i64 0, .string ⟨#[]⟩] 38) (.cells #[.int .i64 0, .int .i64 0, .string ⟨#[]⟩] 38)) hb1); obtain ⟨kn1, kn2, kn3, kn4⟩ := know HKn1.out; have hx1 := pw_cell_below HB1.out HX.out; have hstr1 := HSTR.out _ (below_alloc HB1.out (.cells #[.int .i64 2, .int .i64 0, .string ⟨#[]⟩] 38)); clear hb1)
                | (go_at_call 27; refine (mayV_told ⟨2, 0, t⟩ _ zero_i64 HM.out).mono ?_; rintro e w3 ⟨rfl, hb3⟩; have HB3 := Aside0.mk (below_step (below_alloc HB1.out _) hb3); have HKr3 := Aside0.mk (blk_below (blk_alloc HKr1.out _) hb3); have HKv3 := Aside0.mk (blk_below (blk_new w1 (.cells #[.int .i64 2, .int .i64 0, .string t] 38)) hb3); have hcr3 := cells_of HKr3.out; have hfr3 := frozen_of HKr3.out; have hcv3 := cells_of HKv3.out; have HKn3 := Aside0.mk (blk_below (blk_alloc HKn1.out _) hb3); have hcn3 := cells_of HKn3.out; clear hb3))
              have hz := blk_put3 HKr3.out (.int .i64 2) (.int .i64 0) (.string t)
              have hbz := below_put3 HB3.out (Nat.le_refl _) (.int .i64 2) (.int .i64 0) (.string t)
              generalize World.setCell (World.setCell (World.setCell _ _ _) _ _) _ _ = W3 at hz hbz ⊢
              have hz0 : W3.cell? ⟨w.heap.size, 0, none⟩ = some (.int .i64 2) := blk_cell hz 0
              have hz1 : W3.cell? ⟨w.heap.size, 1, none⟩ = some (.int .i64 0) := blk_cell hz 1
              have hz2 : W3.cell? ⟨w.heap.size, 2, none⟩ = some (.string t) := blk_cell hz 2
              exact bodyPost_ret (v := .tuple #[.agg #[.int .i64 2, .int .i64 0, .string t], .int .i64 ((u + 1 + n : Nat) : Int), .bool true]) (by simp [results, Try.results68, go_sem, hz0, hz1, hz2]) rfl ⟨rfl, hbz⟩
            skip
            · skip
              obtain ⟨rfl, rfl, rfl⟩ : x = ⟨0, 0, ⟨#[]⟩⟩ ∧ m = 0 ∧ b = false := by
                rw [if_neg (by omega)] at hq
                simp only [Prod.mk.injEq] at hq
                exact ⟨hq.1.symm, hq.2.1.symm, hq.2.2.symm⟩
              have HM := Aside0.mk (show mayV ⟨2, 0, strOfNums ((r.drop u).take n)⟩ = false from by rw [← Bool.not_eq_true, mayV_iff]; simp only [HSZ.out]; omega)
              generalize strOfNums ((r.drop u).take n) = t at *
              clear hg hq hi0 hsz0
              go_enter Try.func68, Try.ntmps68
              go_wp2_with (first
                | (go_at_call 43; refine (le_Get.yes A1 _ r _ HG.out HBR.out (by omega) (Kd.C_below HD1.out (below_alloc (below_alloc (Below.refl _ _) _) _)) HL1.out).mono ?_; rintro e w1 ⟨rfl, hb1⟩; have HB1 := Aside0.mk (below_step (below_alloc (below_alloc (Below.refl _ _) _) _) hb1); have HKr1 := Aside0.mk (blk_below (blk_alloc (blk_new w (.cells #[.int .i64 0, .int .i64 0, .string ⟨#[]⟩] 38)) (.cells #[.int .i64 0, .int .i64 0, .string ⟨#[]⟩] 38)) hb1); obtain ⟨kr1, kr2, kr3, kr4⟩ := know HKr1.out; have HKn1 := Aside0.mk (blk_below (blk_new2 w (.cells #[.int .i64 0, .int .i64 0, .string ⟨#[]⟩] 38) (.cells #[.int .i64 0, .int .i64 0, .string ⟨#[]⟩] 38)) hb1); obtain ⟨kn1, kn2, kn3, kn4⟩ := know HKn1.out; have hx1 := pw_cell_below HB1.out HX.out; have hstr1 := HSTR.out _ (below_alloc HB1.out (.cells #[.int .i64 2, .int .i64 0, .string ⟨#[]⟩] 38)); clear hb1)
                | (go_at_call 27; refine (mayV_told ⟨2, 0, t⟩ _ zero_i64 HM.out).mono ?_; rintro e w3 ⟨rfl, hb3⟩; have HB3 := Aside0.mk (below_step (below_alloc HB1.out _) hb3); have HKr3 := Aside0.mk (blk_below (blk_alloc HKr1.out _) hb3); have HKv3 := Aside0.mk (blk_below (blk_new w1 (.cells #[.int .i64 2, .int .i64 0, .string t] 38)) hb3); have hcr3 := cells_of HKr3.out; have hfr3 := frozen_of HKr3.out; have hcv3 := cells_of HKv3.out; have HKn3 := Aside0.mk (blk_below (blk_alloc HKn1.out _) hb3); have hcn3 := cells_of HKn3.out; clear hb3))
              have hz := blk_put3 HKr3.out (.int .i64 0) (.int .i64 0) (.string ⟨#[]⟩)
              have hbz := below_put3 HB3.out (Nat.le_refl _) (.int .i64 0) (.int .i64 0) (.string ⟨#[]⟩)
              generalize World.setCell (World.setCell (World.setCell _ _ _) _ _) _ _ = W3 at hz hbz ⊢
              have hz0 : W3.cell? ⟨w.heap.size, 0, none⟩ = some (.int .i64 0) := blk_cell hz 0
              have hz1 : W3.cell? ⟨w.heap.size, 1, none⟩ = some (.int .i64 0) := blk_cell hz 1
              have hz2 : W3.cell? ⟨w.heap.size, 2, none⟩ = some (.string ⟨#[]⟩) := blk_cell hz 2
              exact bodyPost_ret (v := .tuple #[.agg #[.int .i64 0, .int .i64 0, .string ⟨#[]⟩], .int .i64 0, .bool false]) (by simp [results, Try.results68, go_sem, hz0, hz1, hz2]) rfl ⟨rfl, hbz⟩
          · obtain ⟨rfl, rfl, rfl⟩ : x = ⟨0, 0, ⟨#[]⟩⟩ ∧ m = 0 ∧ b = false := by
              rw [if_neg (by omega)] at hq
              simp only [Prod.mk.injEq] at hq
              exact ⟨hq.1.symm, hq.2.1.symm, hq.2.2.symm⟩
            have hf1 : (r.length : Int) + 1 - ((u : Int) + 1) < (n : Int) := by omega
            clear hg hq hi0 hsz0
            go_enter Try.func68, Try.ntmps68
            go_wp2_with (go_at_call 43; refine (le_Get.yes A1 _ r _ HG.out HBR.out (by omega) (Kd.C_below HD1.out (below_alloc (below_alloc (Below.refl _ _) _) _)) HL1.out).mono ?_; rintro e w1 ⟨rfl, hb1⟩; have HB1 := Aside0.mk (below_step (below_alloc (below_alloc (Below.refl _ _) _) _) hb1); have HKr1 := Aside0.mk (blk_below (blk_alloc (blk_new w (.cells #[.int .i64 0, .int .i64 0, .string ⟨#[]⟩] 38)) (.cells #[.int .i64 0, .int .i64 0, .string ⟨#[]⟩] 38)) hb1); obtain ⟨kr1, kr2, kr3, kr4⟩ := know HKr1.out; have HKn1 := Aside0.mk (blk_below (blk_new2 w (.cells #[.int .i64 0, .int .i64 0, .string ⟨#[]⟩] 38) (.cells #[.int .i64 0, .int .i64 0, .string ⟨#[]⟩] 38)) hb1); obtain ⟨kn1, kn2, kn3, kn4⟩ := know HKn1.out; have hx1 := pw_cell_below HB1.out HX.out; clear hb1)
            have hz := blk_put3 (blk_alloc HKr1.out (.cells #[.int .i64 2, .int .i64 0, .string ⟨#[]⟩] 38)) (.int .i64 0) (.int .i64 0) (.string ⟨#[]⟩)
            have hbz := below_put3 (below_alloc HB1.out (.cells #[.int .i64 2, .int .i64 0, .string ⟨#[]⟩] 38)) (Nat.le_refl _) (.int .i64 0) (.int .i64 0) (.string ⟨#[]⟩)
            generalize World.setCell (World.setCell (World.setCell _ _ _) _ _) _ _ = W3 at hz hbz ⊢
            have hz0 : W3.cell? ⟨w.heap.size, 0, none⟩ = some (.int .i64 0) := blk_cell hz 0
            have hz1 : W3.cell? ⟨w.heap.size, 1, none⟩ = some (.int .i64 0) := blk_cell hz 1
            have hz2 : W3.cell? ⟨w.heap.size, 2, none⟩ = some (.string ⟨#[]⟩) := blk_cell hz 2
            exact bodyPost_ret (v := .tuple #[.agg #[.int .i64 0, .int .i64 0, .string ⟨#[]⟩], .int .i64 0, .bool false]) (by simp [results, Try.results68, go_sem, hz0, hz1, hz2]) rfl ⟨rfl, hbz⟩
        · have hq2 := getV_rest hg hk3 hk4 hnb
          rw [hq] at hq2
          clear hq
          have hqb : -9223372036854775808 ≤ IntKind.wrap .i64 (n : Int) ∧ IntKind.wrap .i64 (n : Int) ≤ 9223372036854775807 := by rw [wrap_i64]; unfold wrap64; omega
          obtain ⟨q, hwn⟩ : ∃ q, IntKind.wrap .i64 (n : Int) = q := ⟨_, rfl⟩
          rw [hwn] at hq2 hqb
          have HQB := Aside0.mk hqb
          have e0 : (k == 0) = false := by simpa using hk3
          have e2 : (k == 2) = false := by simpa using hk4
          clear hqb hg hi0 hsz0 hk3 hk4
          cases hm : mayV ⟨k, q, ⟨#[]⟩⟩ with
          | false =>
            rw [hm] at hq2
            obtain ⟨rfl, rfl, rfl⟩ : x = ⟨0, 0, ⟨#[]⟩⟩ ∧ m = 0 ∧ b = false := by
              have h : (x, m, b) = ((⟨0, 0, ⟨#[]⟩⟩ : SValue), 0, false) := hq2
              simp only [Prod.mk.injEq] at h
              exact h
            have HM := Aside0.mk hm
            clear hm hq2
            go_enter Try.func68, Try.ntmps68
            go_wp2_with (first
              | (go_at_call 43; refine (le_Get.yes A1 _ r _ HG.out HBR.out (by omega) (Kd.C_below HD1.out (below_alloc (below_alloc (Below.refl _ _) _) _)) HL1.out).mono ?_; rintro e w1 ⟨rfl, hb1⟩; have HB1 := Aside0.mk (below_step (below_alloc (below_alloc (Below.refl _ _) _) _) hb1); have HKr1 := Aside0.mk (blk_below (blk_alloc (blk_new w (.cells #[.int .i64 0, .int .i64 0, .string ⟨#[]⟩] 38)) (.cells #[.int .i64 0, .int .i64 0, .string ⟨#[]⟩] 38)) hb1); obtain ⟨kr1, kr2, kr3, kr4⟩ := know HKr1.out; have HKn1 := Aside0.mk (blk_below (blk_new2 w (.cells #[.int .i64 0, .int .i64 0, .string ⟨#[]⟩] 38) (.cells #[.int .i64 0, .int .i64 0, .string ⟨#[]⟩] 38)) hb1); obtain ⟨kn1, kn2, kn3, kn4⟩ := know HKn1.out; have hx1 := pw_cell_below HB1.out HX.out; clear hb1)
              | (go_at_call 27; refine (mayV_told ⟨k, q, ⟨#[]⟩⟩ _ HQB.out HM.out).mono ?_; rintro e w3 ⟨rfl, hb3⟩; have HB3 := Aside0.mk (below_step (below_alloc HB1.out _) hb3); have HKr3 := Aside0.mk (blk_below (blk_alloc HKr1.out _) hb3); have HKv3 := Aside0.mk (blk_below (blk_new w1 (.cells #[.int .i64 k, .int .i64 q, .string ⟨#[]⟩] 38)) hb3); have hcr3 := cells_of HKr3.out; have hfr3 := frozen_of HKr3.out; have hcv3 := cells_of HKv3.out; have HKn3 := Aside0.mk (blk_below (blk_alloc HKn1.out _) hb3); have hcn3 := cells_of HKn3.out; clear hb3))
            have hz := blk_put3 HKr3.out (.int .i64 0) (.int .i64 0) (.string ⟨#[]⟩)
            have hbz := below_put3 HB3.out (Nat.le_refl _) (.int .i64 0) (.int .i64 0) (.string ⟨#[]⟩)
            generalize World.setCell (World.setCell (World.setCell _ _ _) _ _) _ _ = W3 at hz hbz ⊢
            have hz0 : W3.cell? ⟨w.heap.size, 0, none⟩ = some (.int .i64 0) := blk_cell hz 0
            have hz1 : W3.cell? ⟨w.heap.size, 1, none⟩ = some (.int .i64 0) := blk_cell hz 1
            have hz2 : W3.cell? ⟨w.heap.size, 2, none⟩ = some (.string ⟨#[]⟩) := blk_cell hz 2
            exact bodyPost_ret (v := .tuple #[.agg #[.int .i64 0, .int .i64 0, .string ⟨#[]⟩], .int .i64 0, .bool false]) (by simp [results, Try.results68, go_sem, hz0, hz1, hz2]) rfl ⟨rfl, hbz⟩
          | true =>
            rw [hm] at hq2
            obtain ⟨rfl, rfl, rfl⟩ : x = ⟨k, q, ⟨#[]⟩⟩ ∧ m = u + 1 ∧ b = true := by
              have h : (x, m, b) = ((⟨k, q, ⟨#[]⟩⟩ : SValue), u + 1, true) := hq2
              simp only [Prod.mk.injEq] at h
              exact h
            have HM := Aside0.mk hm
            clear hm hq2
            go_enter Try.func68, Try.ntmps68
            go_wp2_with (first
              | (go_at_call 43; refine (le_Get.yes A1 _ r _ HG.out HBR.out (by omega) (Kd.C_below HD1.out (below_alloc (below_alloc (Below.refl _ _) _) _)) HL1.out).mono ?_; rintro e w1 ⟨rfl, hb1⟩; have HB1 := Aside0.mk (below_step (below_alloc (below_alloc (Below.refl _ _) _) _) hb1); have HKr1 := Aside0.mk (blk_below (blk_alloc (blk_new w (.cells #[.int .i64 0, .int .i64 0, .string ⟨#[]⟩] 38)) (.cells #[.int .i64 0, .int .i64 0, .string ⟨#[]⟩] 38)) hb1); obtain ⟨kr1, kr2, kr3, kr4⟩ := know HKr1.out; have HKn1 := Aside0.mk (blk_below (blk_new2 w (.cells #[.int .i64 0, .int .i64 0, .string ⟨#[]⟩] 38) (.cells #[.int .i64 0, .int .i64 0, .string ⟨#[]⟩] 38)) hb1); obtain ⟨kn1, kn2, kn3, kn4⟩ := know HKn1.out; have hx1 := pw_cell_below HB1.out HX.out; clear hb1)
              | (go_at_call 27; refine (mayV_told ⟨k, q, ⟨#[]⟩⟩ _ HQB.out HM.out).mono ?_; rintro e w3 ⟨rfl, hb3⟩; have HB3 := Aside0.mk (below_step (below_alloc HB1.out _) hb3); have HKr3 := Aside0.mk (blk_below (blk_alloc HKr1.out _) hb3); have HKv3 := Aside0.mk (blk_below (blk_new w1 (.cells #[.int .i64 k, .int .i64 q, .string ⟨#[]⟩] 38)) hb3); have hcr3 := cells_of HKr3.out; have hfr3 := frozen_of HKr3.out; have hcv3 := cells_of HKv3.out; have HKn3 := Aside0.mk (blk_below (blk_alloc HKn1.out _) hb3); have hcn3 := cells_of HKn3.out; clear hb3))
            have hz := blk_put3 HKr3.out (.int .i64 k) (.int .i64 q) (.string ⟨#[]⟩)
            have hbz := below_put3 HB3.out (Nat.le_refl _) (.int .i64 k) (.int .i64 q) (.string ⟨#[]⟩)
            generalize World.setCell (World.setCell (World.setCell _ _ _) _ _) _ _ = W3 at hz hbz ⊢
            have hz0 : W3.cell? ⟨w.heap.size, 0, none⟩ = some (.int .i64 k) := blk_cell hz 0
            have hz1 : W3.cell? ⟨w.heap.size, 1, none⟩ = some (.int .i64 q) := blk_cell hz 1
            have hz2 : W3.cell? ⟨w.heap.size, 2, none⟩ = some (.string ⟨#[]⟩) := blk_cell hz 2
            exact bodyPost_ret (v := .tuple #[.agg #[.int .i64 k, .int .i64 q, .string ⟨#[]⟩], .int .i64 ((u + 1 : Nat) : Int), .bool true]) (by simp [results, Try.results68, go_sem, hz0, hz1, hz2]) rfl ⟨rfl, hbz⟩
end Go.Proofs.Ytncllbokeofdjaa.P
