/- What QuerySame's row stands on: words, contracts of the functions that it reaches, plain facts, its walk (part 3): no condition but those that each theorem names. -/
import Derived.Test.YtooemobolfoefaaZQuerySame2
set_option linter.unusedVariables false
set_option linter.unusedSimpArgs false
namespace Go.Proofs.Ytooemobolfoefaa.P
open Go.RowKit Go.Proofs.YtooemobolfoefaaW.PrintWords Go.Proofs.YtooemobolfoefaaW.PrintLast Go.Proofs.YtooemobolfoefaaW.PrintMore
attribute [local go_sem] zaX zaV zbf zbe zaO zaN zaW zaU   -- for this text's walks alone
set_option linter.unusedVariables false
set_option linter.unusedSimpArgs false
def query_asked.f (a0 : ByteArray) (l1 : List SOp) : Option Bool := if i64B l1 = true then some (askedB a0 l1) else none
set_option maxHeartbeats 1000000 in
theorem query_asked.calls (a0 : ByteArray) (A1 : Option Addr) (c1 : Nat) (l1 : List SOp) (r : Bool) (w : World) (hr1 : Kd.C kOp w A1 l1.length l1) (hc1 : l1.length ≤ c1) (h : query_asked.f a0 l1 = some r) :
  Calls Try.prog 57 #[.string a0, .slice A1 l1.length c1] w fun e w' => e = .returned (.bool r) ∧ Below w.heap.size w w' := by
 unfold query_asked.f at h
 split at h
 ·rename_i hb
  obtain rfl := Option.some.inj h
  have HR := Aside0.mk hr1
  have HC := Aside0.mk hc1
  have HW := Aside0.mk (i64B_iff.1 hb)
  clear hr1 hc1 hb h
  unfold askedB
  cases hm : mayO l1 with
  | false =>
   have HM := Aside0.mk hm
   clear hm
   go_enter Try.func57, Try.ntmps57
   go_wp2_with fail
   go_at_call 40
   refine (putO_told l1 A1 c1 _ HR.out HC.out HW.out HM.out rfl).mono ?_
   rintro e w1 ⟨v1, rfl, ho1, hb1⟩
   clear ho1
   go_wp2_with fail
   go_ret
   exact ⟨rfl, hb1⟩
  | true =>
   have HM := Aside0.mk hm
   obtain ⟨b, hn⟩ : ∃ b, nameB a0 = b := ⟨_, rfl⟩
   have HN := Aside0.mk hn
   rw [Bool.true_and, hn]
   clear hm hn
   go_enter Try.func57, Try.ntmps57
   go_wp2_with fail
   go_at_call 40
   refine (putO_told l1 A1 c1 _ HR.out HC.out HW.out HM.out rfl).mono ?_
   rintro e w1 ⟨v1, rfl, ho1, hb1⟩
   clear ho1
   go_wp2_with fail
   go_at_call 50
   refine (name_told HN.out _).mono ?_
   rintro e w2 ⟨rfl, hb2⟩
   go_wp2_with fail
   go_ret
   exact ⟨rfl, zah hb1 hb2⟩
 ·cases h
def query_in.f (a0 : Int) (a1 : Int) (a2 : Int) : Option (Bool) := if a0 ≥ a1 then (some (decide (a0 ≤ a2))) else (some false)
set_option maxHeartbeats 8000000 in
set_option maxRecDepth 100000 in
theorem query_in.calls (a0 : Int) (a1 : Int) (a2 : Int) (r : Bool) (w : World) (h : query_in.f a0 a1 a2 = some r) :
  Calls Try.prog 39 #[.int .i64 a0, .int .i64 a1, .int .i64 a2] w fun e w' => e = .returned (.bool r) ∧ Drawn0 w w' := by
 have H : (if a0 ≥ a1 then (some (decide (a0 ≤ a2))) else (some false)) = some r := h
 clear h
 by_cases c4 : a0 ≥ a1
 ·rw [if_pos c4] at H
  have c4b0 : decide (a1 ≤ a0) = true := decide_eq_true c4
  clear c4
  obtain rfl := Option.some.inj H
  go_enter Try.func39, Try.ntmps39
  go_wp2
  go_ret
  exact ⟨by first | rfl | (simp; done) | (simp [*]; done), by repeat (first | exact Drawn0.refl _ | apply Drawn0.step)⟩
 ·rw [if_neg c4] at H
  have c4b0 : decide (a1 ≤ a0) = false := decide_eq_false c4
  clear c4
  obtain rfl := Option.some.inj H
  go_enter Try.func39, Try.ntmps39
  go_wp2
  go_ret
  exact ⟨by first | rfl | (simp; done) | (simp [*]; done), by repeat (first | exact Drawn0.refl _ | apply Drawn0.step)⟩
def query_step.j0 : Nat → Bool → Bool → Bool → ByteArray → List (SOp) → Int → Int → Bool → ByteArray → List (SOp) → Option (Bool)
 | 0, _, _, _, _, _, _, _, _, _, _ => none
 | k + 1, x1, x2, x7, x102000, x102001, x102002, x102003, x102004, x102005, x102006 => if x102004 = true then (if x1 = true then (some false) else ((query_asked.f x102005 x102006).bind fun t102 => (if t102 = true then ((query_asked.f x102000 x102001).bind fun t103 => (if t103 = true then ((query_in.f x102002 1 x102003).bind fun t104 => (if t104 = true then (if x102003 ≤ 4 then (if x2 = true then (some (x102002 == x102003)) else (some true)) else (some false)) else (some false))) else (some false))) else (some false)))) else (if x7 = true then ((query_asked.f x102000 x102001).bind fun t105 => (if t105 = true then ((query_in.f x102002 1 x102003).bind fun t106 => (if t106 = true then (if x102003 ≤ 4 then (if x2 = true then (some (x102002 == x102003)) else (some true)) else (some false)) else (some false))) else (some false))) else (some false))
def query_step.f (k : Nat) (a0_0 : ByteArray) (l0_1 : List (SOp)) (a0_2 : Int) (a0_3 : Int) (a0_4 : Bool) (a0_5 : ByteArray) (l0_6 : List (SOp)) (a1 : Bool) (a2 : Bool) : Option (Bool) := if a0_5.toList = ([] : List UInt8) then (query_step.j0 k a1 a2 ((l0_6.length : Int) == 0) a0_0 l0_1 a0_2 a0_3 a0_4 a0_5 l0_6) else (query_step.j0 k a1 a2 false a0_0 l0_1 a0_2 a0_3 a0_4 a0_5 l0_6)
set_option maxHeartbeats 8000000 in
set_option maxRecDepth 100000 in
theorem query_step.calls (k : Nat) (a0_0 : ByteArray) (A0_1 : Option Addr) (c0_1 : Nat) (l0_1 : List (SOp)) (a0_2 : Int) (a0_3 : Int) (a0_4 : Bool) (a0_5 : ByteArray) (A0_6 : Option Addr) (c0_6 : Nat) (l0_6 : List (SOp)) (a1 : Bool) (a2 : Bool) (r : Bool) (w : World) (hr0_1 : Kd.C kOp w A0_1 l0_1.length l0_1) (hc0_1 : l0_1.length ≤ c0_1) (hr0_6 : Kd.C kOp w A0_6 l0_6.length l0_6) (hc0_6 : l0_6.length ≤ c0_6) (h : query_step.f k a0_0 l0_1 a0_2 a0_3 a0_4 a0_5 l0_6 a1 a2 = some r) :
  Calls Try.prog 38 #[.agg #[.string a0_0, .slice A0_1 l0_1.length c0_1, .int .i64 a0_2, .int .i64 a0_3, .bool a0_4, .string a0_5, .slice A0_6 l0_6.length c0_6], .bool a1, .bool a2] w fun e w' => e = .returned (.bool r) ∧ Below w.heap.size w w' := by
 have hu40 := Try.underlying40
 have HR0_1 := Aside0.mk hr0_1
 have HC0_1 := Aside0.mk hc0_1
 clear hr0_1 hc0_1
 have HR0_6 := Aside0.mk hr0_6
 have HC0_6 := Aside0.mk hc0_6
 clear hr0_6 hc0_6
 have HB := Aside0.mk (Below.refl w.heap.size w)
 have H : (if a0_5.toList = ([] : List UInt8) then (query_step.j0 k a1 a2 ((l0_6.length : Int) == 0) a0_0 l0_1 a0_2 a0_3 a0_4 a0_5 l0_6) else (query_step.j0 k a1 a2 false a0_0 l0_1 a0_2 a0_3 a0_4 a0_5 l0_6)) = some r := h
 clear h
 have HC4 := Aside0.mk H
 clear H
 go_enter Try.func38, Try.ntmps38
 go_upto_region 1 with (first | ((with_reducible refine zaw (N := 3) rfl ?_); (try (refine zaQ (by rfl) ?_; dsimp only)); refine zas ?hg (N := 3) ?hd (cs := #[.string a0_0, .slice A0_1 l0_1.length c0_1, .int .i64 a0_2, .int .i64 a0_3, .bool a0_4, .string a0_5, .slice A0_6 l0_6.length c0_6]) (t := 40) ?hr ?_; (case hd => rfl); (case hg => rfl); (case hr => first | (go_simp; done) | (go_simp; rfl)); intro gb101 hg w5 hbox hb; have n0_ := Aside0.mk (zah (by repeat (first | (with_reducible first | exact HB.out | apply zab | apply zad | apply zae) | exact HB.out)) hb); have n1_ := Aside0.mk (hbox); have n2_ := Aside0.mk ((by rw [hg]; exact (zao (by repeat (first | (with_reducible first | exact HB.out | apply zab | apply zad | apply zae) | exact HB.out))) : w.heap.size ≤ gb101)); have n3_ := Aside0.mk ((by rw [hg]; exact (zao (by repeat (first | (with_reducible first | exact HB.out | apply zab | apply zad | apply zae) | exact HB.out))) : w.heap.size ≤ gb101)); clear HB; have HB := n0_; have BK101 := n1_; have GW101 := n2_; have GE101 := n3_; clear n0_ n1_ n2_ n3_; clear hb hbox hg))
 (try simp only [Act.put, List.setIfInBounds_toArray, List.set_cons_zero, List.set_cons_succ])
 go_cut [7] (fun v7 wc => ∃ (kq : Nat) (x7_3 : Bool), v7 = .bool x7_3 ∧ Aside0 (query_step.j0 kq a1 a2 x7_3 a0_0 l0_1 a0_2 a0_3 a0_4 a0_5 l0_6 = some r) ∧ Aside0 (kq ≤ k) ∧ Aside0 (wc.heap[gb101]? = some (.cells #[.string a0_0, (.slice A0_1 l0_1.length c0_1), .int .i64 a0_2, .int .i64 a0_3, .bool a0_4, .string a0_5, (.slice A0_6 l0_6.length c0_6)] 40 (0, 0))) ∧ Aside0 (Below w.heap.size w wc))
 case first =>
  have H := HC4.out
  clear HC4
  by_cases c6 : a0_5.toList = ([] : List UInt8)
  ·rw [if_pos c6] at H
   have c6b0 : (a0_5.toList == ([] : List UInt8)) = true := beq_iff_eq.mpr c6
   have c6b1 : (a0_5.toList != ([] : List UInt8)) = false := bne_eq_false_iff_eq.mpr c6
   clear c6
   (first | rw [c6b0] | (simp only [i64_w, i32_w]; rw [c6b0]) | skip)
   have H' := Aside0.mk H
   clear H
   have hcz7_0 : w5.cell? ⟨gb101, 0, none⟩ = some (.string a0_0) := (zac BK101.out 0).trans rfl
   have hcz7_1 : w5.cell? ⟨gb101, 1, none⟩ = some (.slice A0_1 l0_1.length c0_1) := (zac BK101.out 1).trans rfl
   have hcz7_2 : w5.cell? ⟨gb101, 2, none⟩ = some (.int .i64 a0_2) := (zac BK101.out 2).trans rfl
   have hcz7_3 : w5.cell? ⟨gb101, 3, none⟩ = some (.int .i64 a0_3) := (zac BK101.out 3).trans rfl
   have hcz7_4 : w5.cell? ⟨gb101, 4, none⟩ = some (.bool a0_4) := (zac BK101.out 4).trans rfl
   have hcz7_5 : w5.cell? ⟨gb101, 5, none⟩ = some (.string a0_5) := (zac BK101.out 5).trans rfl
   have hcz7_6 : w5.cell? ⟨gb101, 6, none⟩ = some (.slice A0_6 l0_6.length c0_6) := (zac BK101.out 6).trans rfl
   have hfz7_0 := zaa BK101.out 0
   have hfz7_1 := zaa BK101.out 1
   have hfz7_2 := zaa BK101.out 2
   have hfz7_3 := zaa BK101.out 3
   have hfz7_4 := zaa BK101.out 4
   have hfz7_5 := zaa BK101.out 5
   have hfz7_6 := zaa BK101.out 6
   go_wp2
   go_meet
   case rel => exact ⟨_, (((l0_6.length : Int) == 0)), (by first | rfl | (simp; done) | (simp [*]; done)), H', ⟨by first | omega | exact Nat.le_refl _⟩, ⟨by (with_reducible repeat (first | refine zai ?_ _ | refine zal ?_ | refine zag ?_ _)); exact BK101.out⟩, ⟨by repeat (first | (with_reducible first | exact HB.out | apply zab | apply zad | apply zae | refine zaf ?_ GE101.out) | exact HB.out)⟩⟩
  ·rw [if_neg c6] at H
   have c6b0 : (a0_5.toList == ([] : List UInt8)) = false := beq_eq_false_iff_ne.mpr c6
   have c6b1 : (a0_5.toList != ([] : List UInt8)) = true := bne_iff_ne.mpr c6
   (first | rw [c6b0] | (simp only [i64_w, i32_w]; rw [c6b0]) | skip)
   have H' := Aside0.mk H
   clear H
   have hcz8_0 : w5.cell? ⟨gb101, 0, none⟩ = some (.string a0_0) := (zac BK101.out 0).trans rfl
   have hcz8_1 : w5.cell? ⟨gb101, 1, none⟩ = some (.slice A0_1 l0_1.length c0_1) := (zac BK101.out 1).trans rfl
   have hcz8_2 : w5.cell? ⟨gb101, 2, none⟩ = some (.int .i64 a0_2) := (zac BK101.out 2).trans rfl
   have hcz8_3 : w5.cell? ⟨gb101, 3, none⟩ = some (.int .i64 a0_3) := (zac BK101.out 3).trans rfl
   have hcz8_4 : w5.cell? ⟨gb101, 4, none⟩ = some (.bool a0_4) := (zac BK101.out 4).trans rfl
   have hcz8_5 : w5.cell? ⟨gb101, 5, none⟩ = some (.string a0_5) := (zac BK101.out 5).trans rfl
   have hcz8_6 : w5.cell? ⟨gb101, 6, none⟩ = some (.slice A0_6 l0_6.length c0_6) := (zac BK101.out 6).trans rfl
   have hfz8_0 := zaa BK101.out 0
   have hfz8_1 := zaa BK101.out 1
   have hfz8_2 := zaa BK101.out 2
   have hfz8_3 := zaa BK101.out 3
   have hfz8_4 := zaa BK101.out 4
   have hfz8_5 := zaa BK101.out 5
   have hfz8_6 := zaa BK101.out 6
   go_wp2
   go_meet
   case rel => exact ⟨_, (false), (by first | rfl | (simp; done) | (simp [*]; done)), H', ⟨by first | omega | exact Nat.le_refl _⟩, ⟨by (with_reducible repeat (first | refine zai ?_ _ | refine zal ?_ | refine zag ?_ _)); exact BK101.out⟩, ⟨by repeat (first | (with_reducible first | exact HB.out | apply zab | apply zad | apply zae | refine zaf ?_ GE101.out) | exact HB.out)⟩⟩
 case rest =>
  clear HC4
  try clear p2
  try clear c3
  try clear c6
  try clear c6b0
  try clear c6b1
  try clear hcz7_0
  try clear hcz7_1
  try clear hcz7_2
  try clear hcz7_3
  try clear hcz7_4
  try clear hcz7_5
  try clear hcz7_6
  try clear hcz8_0
  try clear hcz8_1
  try clear hcz8_2
  try clear hcz8_3
  try clear hcz8_4
  try clear hcz8_5
  try clear hcz8_6
  try clear hfz7_0
  try clear hfz7_1
  try clear hfz7_2
  try clear hfz7_3
  try clear hfz7_4
  try clear hfz7_5
  try clear hfz7_6
  try clear hfz8_0
  try clear hfz8_1
  try clear hfz8_2
  try clear hfz8_3
  try clear hfz8_4
  try clear hfz8_5
  try clear hfz8_6
  obtain ⟨kq, x7_3, rfl, HA, HJ3, BK101, HB⟩ := hcut
  cases kq with
  | zero => exact absurd HA.out (by simp [query_step.j0])
  | succ kj3 =>
   have H := HA.out
   clear HA
   simp only [query_step.j0] at H
   by_cases c9 : a0_4 = true
   ·subst c9
    have H1 : (if a1 = true then (some false) else ((query_asked.f a0_5 l0_6).bind fun t102 => (if t102 = true then ((query_asked.f a0_0 l0_1).bind fun t103 => (if t103 = true then ((query_in.f a0_2 1 a0_3).bind fun t104 => (if t104 = true then (if a0_3 ≤ 4 then (if a2 = true then (some (a0_2 == a0_3)) else (some true)) else (some false)) else (some false))) else (some false))) else (some false)))) = some r := by rw [if_pos rfl] at H; exact H
    clear H
    have H := H1
    clear H1
    by_cases c10 : a1 = true
    ·subst c10
     have H1 : (some false) = some r := by rw [if_pos rfl] at H; exact H
     clear H
     have H := H1
     clear H1
     obtain rfl := Option.some.inj H
     have hcz11_0 : wc.cell? ⟨gb101, 0, none⟩ = some (.string a0_0) := (zac BK101.out 0).trans rfl
     have hcz11_1 : wc.cell? ⟨gb101, 1, none⟩ = some (.slice A0_1 l0_1.length c0_1) := (zac BK101.out 1).trans rfl
     have hcz11_2 : wc.cell? ⟨gb101, 2, none⟩ = some (.int .i64 a0_2) := (zac BK101.out 2).trans rfl
     have hcz11_3 : wc.cell? ⟨gb101, 3, none⟩ = some (.int .i64 a0_3) := (zac BK101.out 3).trans rfl
     have hcz11_4 : wc.cell? ⟨gb101, 4, none⟩ = some (.bool true) := (zac BK101.out 4).trans rfl
     have hcz11_5 : wc.cell? ⟨gb101, 5, none⟩ = some (.string a0_5) := (zac BK101.out 5).trans rfl
     have hcz11_6 : wc.cell? ⟨gb101, 6, none⟩ = some (.slice A0_6 l0_6.length c0_6) := (zac BK101.out 6).trans rfl
     have hfz11_0 := zaa BK101.out 0
     have hfz11_1 := zaa BK101.out 1
     have hfz11_2 := zaa BK101.out 2
     have hfz11_3 := zaa BK101.out 3
     have hfz11_4 := zaa BK101.out 4
     have hfz11_5 := zaa BK101.out 5
     have hfz11_6 := zaa BK101.out 6
     go_wp2
     go_ret
     exact ⟨by first | rfl | (simp [zan, zam] <;> rfl) | (simp [*, zan, zam] <;> rfl), by repeat (first | (with_reducible first | exact HB.out | apply zab | apply zad | apply zae | refine zaf ?_ GE101.out) | exact HB.out)⟩
    ·replace c10 := Bool.eq_false_iff.mpr c10
     subst c10
     have H1 : ((query_asked.f a0_5 l0_6).bind fun t102 => (if t102 = true then ((query_asked.f a0_0 l0_1).bind fun t103 => (if t103 = true then ((query_in.f a0_2 1 a0_3).bind fun t104 => (if t104 = true then (if a0_3 ≤ 4 then (if a2 = true then (some (a0_2 == a0_3)) else (some true)) else (some false)) else (some false))) else (some false))) else (some false))) = some r := by rw [if_neg (show ¬ (false = true) by decide)] at H; exact H
     clear H
     have H := H1
     clear H1
     replace H := Option.bind_eq_some_iff.mp H
     obtain ⟨t102, A120, H⟩ := H
     replace H : (if t102 = true then ((query_asked.f a0_0 l0_1).bind fun t103 => (if t103 = true then ((query_in.f a0_2 1 a0_3).bind fun t104 => (if t104 = true then (if a0_3 ≤ 4 then (if a2 = true then (some (a0_2 == a0_3)) else (some true)) else (some false)) else (some false))) else (some false))) else (some false)) = some r := H
     have A12 := Aside0.mk A120
     clear A120
     by_cases c13 : t102 = true
     ·subst c13
      have H1 : ((query_asked.f a0_0 l0_1).bind fun t103 => (if t103 = true then ((query_in.f a0_2 1 a0_3).bind fun t104 => (if t104 = true then (if a0_3 ≤ 4 then (if a2 = true then (some (a0_2 == a0_3)) else (some true)) else (some false)) else (some false))) else (some false))) = some r := by rw [if_pos rfl] at H; exact H
      clear H
      have H := H1
      clear H1
      replace H := Option.bind_eq_some_iff.mp H
      obtain ⟨t103, A140, H⟩ := H
      replace H : (if t103 = true then ((query_in.f a0_2 1 a0_3).bind fun t104 => (if t104 = true then (if a0_3 ≤ 4 then (if a2 = true then (some (a0_2 == a0_3)) else (some true)) else (some false)) else (some false))) else (some false)) = some r := H
      have A14 := Aside0.mk A140
      clear A140
      by_cases c15 : t103 = true
      ·subst c15
       have H1 : ((query_in.f a0_2 1 a0_3).bind fun t104 => (if t104 = true then (if a0_3 ≤ 4 then (if a2 = true then (some (a0_2 == a0_3)) else (some true)) else (some false)) else (some false))) = some r := by rw [if_pos rfl] at H; exact H
       clear H
       have H := H1
       clear H1
       replace H := Option.bind_eq_some_iff.mp H
       obtain ⟨t104, A160, H⟩ := H
       replace H : (if t104 = true then (if a0_3 ≤ 4 then (if a2 = true then (some (a0_2 == a0_3)) else (some true)) else (some false)) else (some false)) = some r := H
       have A16 := Aside0.mk A160
       clear A160
       by_cases c17 : t104 = true
       ·subst c17
        have H1 : (if a0_3 ≤ 4 then (if a2 = true then (some (a0_2 == a0_3)) else (some true)) else (some false)) = some r := by rw [if_pos rfl] at H; exact H
        clear H
        have H := H1
        clear H1
        by_cases c18 : a0_3 ≤ 4
        ·rw [if_pos c18] at H
         have c18b0 : decide (a0_3 ≤ 4) = true := decide_eq_true c18
         clear c18
         by_cases c19 : a2 = true
         ·subst c19
          have H1 : (some (a0_2 == a0_3)) = some r := by rw [if_pos rfl] at H; exact H
          clear H
          have H := H1
          clear H1
          obtain rfl := Option.some.inj H
          have hcz20_0 : wc.cell? ⟨gb101, 0, none⟩ = some (.string a0_0) := (zac BK101.out 0).trans rfl
          have hcz20_1 : wc.cell? ⟨gb101, 1, none⟩ = some (.slice A0_1 l0_1.length c0_1) := (zac BK101.out 1).trans rfl
          have hcz20_2 : wc.cell? ⟨gb101, 2, none⟩ = some (.int .i64 a0_2) := (zac BK101.out 2).trans rfl
          have hcz20_3 : wc.cell? ⟨gb101, 3, none⟩ = some (.int .i64 a0_3) := (zac BK101.out 3).trans rfl
          have hcz20_4 : wc.cell? ⟨gb101, 4, none⟩ = some (.bool true) := (zac BK101.out 4).trans rfl
          have hcz20_5 : wc.cell? ⟨gb101, 5, none⟩ = some (.string a0_5) := (zac BK101.out 5).trans rfl
          have hcz20_6 : wc.cell? ⟨gb101, 6, none⟩ = some (.slice A0_6 l0_6.length c0_6) := (zac BK101.out 6).trans rfl
          have hfz20_0 := zaa BK101.out 0
          have hfz20_1 := zaa BK101.out 1
          have hfz20_2 := zaa BK101.out 2
          have hfz20_3 := zaa BK101.out 3
          have hfz20_4 := zaa BK101.out 4
          have hfz20_5 := zaa BK101.out 5
          have hfz20_6 := zaa BK101.out 6
          go_wp2_with (first | (go_at_call 57; (with_reducible refine (query_asked.calls a0_5 _ _ l0_6 true _ ?side1 ?side2 A12.out).mono ?_); (case side1 => repeat (first | exact (Kd.C_below HR0_6.out HB.out) | (with_reducible refine Kd.C_alloc ?_ _) | (with_reducible refine Kd.C_drewN ?_ _) | (with_reducible refine Kd.C_drew ?_))); (case side2 => exact HC0_6.out); rintro e w21 ⟨rfl, hb⟩; have n0_ := Aside0.mk (zak (g := gb101) (o := .cells #[.string a0_0, .slice A0_1 l0_1.length c0_1, .int .i64 a0_2, .int .i64 a0_3, .bool true, .string a0_5, .slice A0_6 l0_6.length c0_6] 40 (0, 0)) (by (with_reducible repeat (first | refine zai ?_ _ | refine zal ?_ | refine zag ?_ _)); exact BK101.out) hb); have n1_ := Aside0.mk (zah (by repeat (first | (with_reducible first | exact HB.out | apply zab | apply zad | apply zae | refine zaf ?_ GE101.out) | exact HB.out)) hb); clear BK101; clear HB; have BK101 := n0_; have HB := n1_; clear n0_ n1_; (try clear hb); (try clear hb2); (try clear hk); (try clear hi); have hcz22_0 : w21.cell? ⟨gb101, 0, none⟩ = some (.string a0_0) := (zac BK101.out 0).trans rfl; have hcz22_1 : w21.cell? ⟨gb101, 1, none⟩ = some (.slice A0_1 l0_1.length c0_1) := (zac BK101.out 1).trans rfl; have hcz22_2 : w21.cell? ⟨gb101, 2, none⟩ = some (.int .i64 a0_2) := (zac BK101.out 2).trans rfl; have hcz22_3 : w21.cell? ⟨gb101, 3, none⟩ = some (.int .i64 a0_3) := (zac BK101.out 3).trans rfl; have hcz22_4 : w21.cell? ⟨gb101, 4, none⟩ = some (.bool true) := (zac BK101.out 4).trans rfl; have hcz22_5 : w21.cell? ⟨gb101, 5, none⟩ = some (.string a0_5) := (zac BK101.out 5).trans rfl; have hcz22_6 : w21.cell? ⟨gb101, 6, none⟩ = some (.slice A0_6 l0_6.length c0_6) := (zac BK101.out 6).trans rfl; have hfz22_0 := zaa BK101.out 0; have hfz22_1 := zaa BK101.out 1; have hfz22_2 := zaa BK101.out 2; have hfz22_3 := zaa BK101.out 3; have hfz22_4 := zaa BK101.out 4; have hfz22_5 := zaa BK101.out 5; have hfz22_6 := zaa BK101.out 6) | (go_at_call 57; (with_reducible refine (query_asked.calls a0_0 _ _ l0_1 true _ ?side1 ?side2 A14.out).mono ?_); (case side1 => repeat (first | exact (Kd.C_below HR0_1.out HB.out) | (with_reducible refine Kd.C_alloc ?_ _) | (with_reducible refine Kd.C_drewN ?_ _) | (with_reducible refine Kd.C_drew ?_))); (case side2 => exact HC0_1.out); rintro e w23 ⟨rfl, hb⟩; have n0_ := Aside0.mk (zak (g := gb101) (o := .cells #[.string a0_0, .slice A0_1 l0_1.length c0_1, .int .i64 a0_2, .int .i64 a0_3, .bool true, .string a0_5, .slice A0_6 l0_6.length c0_6] 40 (0, 0)) (by (with_reducible repeat (first | refine zai ?_ _ | refine zal ?_ | refine zag ?_ _)); exact BK101.out) hb); have n1_ := Aside0.mk (zah (by repeat (first | (with_reducible first | exact HB.out | apply zab | apply zad | apply zae | refine zaf ?_ GE101.out) | exact HB.out)) hb); clear BK101; clear HB; have BK101 := n0_; have HB := n1_; clear n0_ n1_; (try clear hb); (try clear hb2); (try clear hk); (try clear hi); have hcz24_0 : w23.cell? ⟨gb101, 0, none⟩ = some (.string a0_0) := (zac BK101.out 0).trans rfl; have hcz24_1 : w23.cell? ⟨gb101, 1, none⟩ = some (.slice A0_1 l0_1.length c0_1) := (zac BK101.out 1).trans rfl; have hcz24_2 : w23.cell? ⟨gb101, 2, none⟩ = some (.int .i64 a0_2) := (zac BK101.out 2).trans rfl; have hcz24_3 : w23.cell? ⟨gb101, 3, none⟩ = some (.int .i64 a0_3) := (zac BK101.out 3).trans rfl; have hcz24_4 : w23.cell? ⟨gb101, 4, none⟩ = some (.bool true) := (zac BK101.out 4).trans rfl; have hcz24_5 : w23.cell? ⟨gb101, 5, none⟩ = some (.string a0_5) := (zac BK101.out 5).trans rfl; have hcz24_6 : w23.cell? ⟨gb101, 6, none⟩ = some (.slice A0_6 l0_6.length c0_6) := (zac BK101.out 6).trans rfl; have hfz24_0 := zaa BK101.out 0; have hfz24_1 := zaa BK101.out 1; have hfz24_2 := zaa BK101.out 2; have hfz24_3 := zaa BK101.out 3; have hfz24_4 := zaa BK101.out 4; have hfz24_5 := zaa BK101.out 5; have hfz24_6 := zaa BK101.out 6) | (go_at_call 39; (with_reducible refine (query_in.calls a0_2 1 a0_3 true _ A16.out).mono ?_); rintro e w' ⟨rfl, ⟨nd, rfl⟩⟩))
          go_ret
          exact ⟨by first | rfl | (simp [zan, zam] <;> rfl) | (simp [*, zan, zam] <;> rfl), by repeat (first | (with_reducible first | exact HB.out | apply zab | apply zad | apply zae | refine zaf ?_ GE101.out) | exact HB.out)⟩
         ·replace c19 := Bool.eq_false_iff.mpr c19
          subst c19
          have H1 : (some true) = some r := by rw [if_neg (show ¬ (false = true) by decide)] at H; exact H
          clear H
          have H := H1
          clear H1
          obtain rfl := Option.some.inj H
          have hcz25_0 : wc.cell? ⟨gb101, 0, none⟩ = some (.string a0_0) := (zac BK101.out 0).trans rfl
          have hcz25_1 : wc.cell? ⟨gb101, 1, none⟩ = some (.slice A0_1 l0_1.length c0_1) := (zac BK101.out 1).trans rfl
          have hcz25_2 : wc.cell? ⟨gb101, 2, none⟩ = some (.int .i64 a0_2) := (zac BK101.out 2).trans rfl
          have hcz25_3 : wc.cell? ⟨gb101, 3, none⟩ = some (.int .i64 a0_3) := (zac BK101.out 3).trans rfl
          have hcz25_4 : wc.cell? ⟨gb101, 4, none⟩ = some (.bool true) := (zac BK101.out 4).trans rfl
          have hcz25_5 : wc.cell? ⟨gb101, 5, none⟩ = some (.string a0_5) := (zac BK101.out 5).trans rfl
          have hcz25_6 : wc.cell? ⟨gb101, 6, none⟩ = some (.slice A0_6 l0_6.length c0_6) := (zac BK101.out 6).trans rfl
          have hfz25_0 := zaa BK101.out 0
          have hfz25_1 := zaa BK101.out 1
          have hfz25_2 := zaa BK101.out 2
          have hfz25_3 := zaa BK101.out 3
          have hfz25_4 := zaa BK101.out 4
          have hfz25_5 := zaa BK101.out 5
          have hfz25_6 := zaa BK101.out 6
          go_wp2_with (first | (go_at_call 57; (with_reducible refine (query_asked.calls a0_5 _ _ l0_6 true _ ?side1 ?side2 A12.out).mono ?_); (case side1 => repeat (first | exact (Kd.C_below HR0_6.out HB.out) | (with_reducible refine Kd.C_alloc ?_ _) | (with_reducible refine Kd.C_drewN ?_ _) | (with_reducible refine Kd.C_drew ?_))); (case side2 => exact HC0_6.out); rintro e w26 ⟨rfl, hb⟩; have n0_ := Aside0.mk (zak (g := gb101) (o := .cells #[.string a0_0, .slice A0_1 l0_1.length c0_1, .int .i64 a0_2, .int .i64 a0_3, .bool true, .string a0_5, .slice A0_6 l0_6.length c0_6] 40 (0, 0)) (by (with_reducible repeat (first | refine zai ?_ _ | refine zal ?_ | refine zag ?_ _)); exact BK101.out) hb); have n1_ := Aside0.mk (zah (by repeat (first | (with_reducible first | exact HB.out | apply zab | apply zad | apply zae | refine zaf ?_ GE101.out) | exact HB.out)) hb); clear BK101; clear HB; have BK101 := n0_; have HB := n1_; clear n0_ n1_; (try clear hb); (try clear hb2); (try clear hk); (try clear hi); have hcz27_0 : w26.cell? ⟨gb101, 0, none⟩ = some (.string a0_0) := (zac BK101.out 0).trans rfl; have hcz27_1 : w26.cell? ⟨gb101, 1, none⟩ = some (.slice A0_1 l0_1.length c0_1) := (zac BK101.out 1).trans rfl; have hcz27_2 : w26.cell? ⟨gb101, 2, none⟩ = some (.int .i64 a0_2) := (zac BK101.out 2).trans rfl; have hcz27_3 : w26.cell? ⟨gb101, 3, none⟩ = some (.int .i64 a0_3) := (zac BK101.out 3).trans rfl; have hcz27_4 : w26.cell? ⟨gb101, 4, none⟩ = some (.bool true) := (zac BK101.out 4).trans rfl; have hcz27_5 : w26.cell? ⟨gb101, 5, none⟩ = some (.string a0_5) := (zac BK101.out 5).trans rfl; have hcz27_6 : w26.cell? ⟨gb101, 6, none⟩ = some (.slice A0_6 l0_6.length c0_6) := (zac BK101.out 6).trans rfl; have hfz27_0 := zaa BK101.out 0; have hfz27_1 := zaa BK101.out 1; have hfz27_2 := zaa BK101.out 2; have hfz27_3 := zaa BK101.out 3; have hfz27_4 := zaa BK101.out 4; have hfz27_5 := zaa BK101.out 5; have hfz27_6 := zaa BK101.out 6) | (go_at_call 57; (with_reducible refine (query_asked.calls a0_0 _ _ l0_1 true _ ?side1 ?side2 A14.out).mono ?_); (case side1 => repeat (first | exact (Kd.C_below HR0_1.out HB.out) | (with_reducible refine Kd.C_alloc ?_ _) | (with_reducible refine Kd.C_drewN ?_ _) | (with_reducible refine Kd.C_drew ?_))); (case side2 => exact HC0_1.out); rintro e w28 ⟨rfl, hb⟩; have n0_ := Aside0.mk (zak (g := gb101) (o := .cells #[.string a0_0, .slice A0_1 l0_1.length c0_1, .int .i64 a0_2, .int .i64 a0_3, .bool true, .string a0_5, .slice A0_6 l0_6.length c0_6] 40 (0, 0)) (by (with_reducible repeat (first | refine zai ?_ _ | refine zal ?_ | refine zag ?_ _)); exact BK101.out) hb); have n1_ := Aside0.mk (zah (by repeat (first | (with_reducible first | exact HB.out | apply zab | apply zad | apply zae | refine zaf ?_ GE101.out) | exact HB.out)) hb); clear BK101; clear HB; have BK101 := n0_; have HB := n1_; clear n0_ n1_; (try clear hb); (try clear hb2); (try clear hk); (try clear hi); have hcz29_0 : w28.cell? ⟨gb101, 0, none⟩ = some (.string a0_0) := (zac BK101.out 0).trans rfl; have hcz29_1 : w28.cell? ⟨gb101, 1, none⟩ = some (.slice A0_1 l0_1.length c0_1) := (zac BK101.out 1).trans rfl; have hcz29_2 : w28.cell? ⟨gb101, 2, none⟩ = some (.int .i64 a0_2) := (zac BK101.out 2).trans rfl; have hcz29_3 : w28.cell? ⟨gb101, 3, none⟩ = some (.int .i64 a0_3) := (zac BK101.out 3).trans rfl; have hcz29_4 : w28.cell? ⟨gb101, 4, none⟩ = some (.bool true) := (zac BK101.out 4).trans rfl; have hcz29_5 : w28.cell? ⟨gb101, 5, none⟩ = some (.string a0_5) := (zac BK101.out 5).trans rfl; have hcz29_6 : w28.cell? ⟨gb101, 6, none⟩ = some (.slice A0_6 l0_6.length c0_6) := (zac BK101.out 6).trans rfl; have hfz29_0 := zaa BK101.out 0; have hfz29_1 := zaa BK101.out 1; have hfz29_2 := zaa BK101.out 2; have hfz29_3 := zaa BK101.out 3; have hfz29_4 := zaa BK101.out 4; have hfz29_5 := zaa BK101.out 5; have hfz29_6 := zaa BK101.out 6) | (go_at_call 39; (with_reducible refine (query_in.calls a0_2 1 a0_3 true _ A16.out).mono ?_); rintro e w' ⟨rfl, ⟨nd, rfl⟩⟩))
          go_ret
          exact ⟨by first | rfl | (simp [zan, zam] <;> rfl) | (simp [*, zan, zam] <;> rfl), by repeat (first | (with_reducible first | exact HB.out | apply zab | apply zad | apply zae | refine zaf ?_ GE101.out) | exact HB.out)⟩
        ·rw [if_neg c18] at H
         have c18b0 : decide (a0_3 ≤ 4) = false := decide_eq_false c18
         clear c18
         obtain rfl := Option.some.inj H
         have hcz30_0 : wc.cell? ⟨gb101, 0, none⟩ = some (.string a0_0) := (zac BK101.out 0).trans rfl
         have hcz30_1 : wc.cell? ⟨gb101, 1, none⟩ = some (.slice A0_1 l0_1.length c0_1) := (zac BK101.out 1).trans rfl
         have hcz30_2 : wc.cell? ⟨gb101, 2, none⟩ = some (.int .i64 a0_2) := (zac BK101.out 2).trans rfl
         have hcz30_3 : wc.cell? ⟨gb101, 3, none⟩ = some (.int .i64 a0_3) := (zac BK101.out 3).trans rfl
         have hcz30_4 : wc.cell? ⟨gb101, 4, none⟩ = some (.bool true) := (zac BK101.out 4).trans rfl
         have hcz30_5 : wc.cell? ⟨gb101, 5, none⟩ = some (.string a0_5) := (zac BK101.out 5).trans rfl
         have hcz30_6 : wc.cell? ⟨gb101, 6, none⟩ = some (.slice A0_6 l0_6.length c0_6) := (zac BK101.out 6).trans rfl
         have hfz30_0 := zaa BK101.out 0
         have hfz30_1 := zaa BK101.out 1
         have hfz30_2 := zaa BK101.out 2
         have hfz30_3 := zaa BK101.out 3
         have hfz30_4 := zaa BK101.out 4
         have hfz30_5 := zaa BK101.out 5
         have hfz30_6 := zaa BK101.out 6
         go_wp2_with (first | (go_at_call 57; (with_reducible refine (query_asked.calls a0_5 _ _ l0_6 true _ ?side1 ?side2 A12.out).mono ?_); (case side1 => repeat (first | exact (Kd.C_below HR0_6.out HB.out) | (with_reducible refine Kd.C_alloc ?_ _) | (with_reducible refine Kd.C_drewN ?_ _) | (with_reducible refine Kd.C_drew ?_))); (case side2 => exact HC0_6.out); rintro e w31 ⟨rfl, hb⟩; have n0_ := Aside0.mk (zak (g := gb101) (o := .cells #[.string a0_0, .slice A0_1 l0_1.length c0_1, .int .i64 a0_2, .int .i64 a0_3, .bool true, .string a0_5, .slice A0_6 l0_6.length c0_6] 40 (0, 0)) (by (with_reducible repeat (first | refine zai ?_ _ | refine zal ?_ | refine zag ?_ _)); exact BK101.out) hb); have n1_ := Aside0.mk (zah (by repeat (first | (with_reducible first | exact HB.out | apply zab | apply zad | apply zae | refine zaf ?_ GE101.out) | exact HB.out)) hb); clear BK101; clear HB; have BK101 := n0_; have HB := n1_; clear n0_ n1_; (try clear hb); (try clear hb2); (try clear hk); (try clear hi); have hcz32_0 : w31.cell? ⟨gb101, 0, none⟩ = some (.string a0_0) := (zac BK101.out 0).trans rfl; have hcz32_1 : w31.cell? ⟨gb101, 1, none⟩ = some (.slice A0_1 l0_1.length c0_1) := (zac BK101.out 1).trans rfl; have hcz32_2 : w31.cell? ⟨gb101, 2, none⟩ = some (.int .i64 a0_2) := (zac BK101.out 2).trans rfl; have hcz32_3 : w31.cell? ⟨gb101, 3, none⟩ = some (.int .i64 a0_3) := (zac BK101.out 3).trans rfl; have hcz32_4 : w31.cell? ⟨gb101, 4, none⟩ = some (.bool true) := (zac BK101.out 4).trans rfl; have hcz32_5 : w31.cell? ⟨gb101, 5, none⟩ = some (.string a0_5) := (zac BK101.out 5).trans rfl; have hcz32_6 : w31.cell? ⟨gb101, 6, none⟩ = some (.slice A0_6 l0_6.length c0_6) := (zac BK101.out 6).trans rfl; have hfz32_0 := zaa BK101.out 0; have hfz32_1 := zaa BK101.out 1; have hfz32_2 := zaa BK101.out 2; have hfz32_3 := zaa BK101.out 3; have hfz32_4 := zaa BK101.out 4; have hfz32_5 := zaa BK101.out 5; have hfz32_6 := zaa BK101.out 6) | (go_at_call 57; (with_reducible refine (query_asked.calls a0_0 _ _ l0_1 true _ ?side1 ?side2 A14.out).mono ?_); (case side1 => repeat (first | exact (Kd.C_below HR0_1.out HB.out) | (with_reducible refine Kd.C_alloc ?_ _) | (with_reducible refine Kd.C_drewN ?_ _) | (with_reducible refine Kd.C_drew ?_))); (case side2 => exact HC0_1.out); rintro e w33 ⟨rfl, hb⟩; have n0_ := Aside0.mk (zak (g := gb101) (o := .cells #[.string a0_0, .slice A0_1 l0_1.length c0_1, .int .i64 a0_2, .int .i64 a0_3, .bool true, .string a0_5, .slice A0_6 l0_6.length c0_6] 40 (0, 0)) (by (with_reducible repeat (first | refine zai ?_ _ | refine zal ?_ | refine zag ?_ _)); exact BK101.out) hb); have n1_ := Aside0.mk (zah (by repeat (first | (with_reducible first | exact HB.out | apply zab | apply zad | apply zae | refine zaf ?_ GE101.out) | exact HB.out)) hb); clear BK101; clear HB; have BK101 := n0_; have HB := n1_; clear n0_ n1_; (try clear hb); (try clear hb2); (try clear hk); (try clear hi); have hcz34_0 : w33.cell? ⟨gb101, 0, none⟩ = some (.string a0_0) := (zac BK101.out 0).trans rfl; have hcz34_1 : w33.cell? ⟨gb101, 1, none⟩ = some (.slice A0_1 l0_1.length c0_1) := (zac BK101.out 1).trans rfl; have hcz34_2 : w33.cell? ⟨gb101, 2, none⟩ = some (.int .i64 a0_2) := (zac BK101.out 2).trans rfl; have hcz34_3 : w33.cell? ⟨gb101, 3, none⟩ = some (.int .i64 a0_3) := (zac BK101.out 3).trans rfl; have hcz34_4 : w33.cell? ⟨gb101, 4, none⟩ = some (.bool true) := (zac BK101.out 4).trans rfl; have hcz34_5 : w33.cell? ⟨gb101, 5, none⟩ = some (.string a0_5) := (zac BK101.out 5).trans rfl; have hcz34_6 : w33.cell? ⟨gb101, 6, none⟩ = some (.slice A0_6 l0_6.length c0_6) := (zac BK101.out 6).trans rfl; have hfz34_0 := zaa BK101.out 0; have hfz34_1 := zaa BK101.out 1; have hfz34_2 := zaa BK101.out 2; have hfz34_3 := zaa BK101.out 3; have hfz34_4 := zaa BK101.out 4; have hfz34_5 := zaa BK101.out 5; have hfz34_6 := zaa BK101.out 6) | (go_at_call 39; (with_reducible refine (query_in.calls a0_2 1 a0_3 true _ A16.out).mono ?_); rintro e w' ⟨rfl, ⟨nd, rfl⟩⟩))
         go_ret
         exact ⟨by first | rfl | (simp [zan, zam] <;> rfl) | (simp [*, zan, zam] <;> rfl), by repeat (first | (with_reducible first | exact HB.out | apply zab | apply zad | apply zae | refine zaf ?_ GE101.out) | exact HB.out)⟩
       ·replace c17 := Bool.eq_false_iff.mpr c17
        subst c17
        have H1 : (some false) = some r := by rw [if_neg (show ¬ (false = true) by decide)] at H; exact H
        clear H
        have H := H1
        clear H1
        obtain rfl := Option.some.inj H
        have hcz35_0 : wc.cell? ⟨gb101, 0, none⟩ = some (.string a0_0) := (zac BK101.out 0).trans rfl
        have hcz35_1 : wc.cell? ⟨gb101, 1, none⟩ = some (.slice A0_1 l0_1.length c0_1) := (zac BK101.out 1).trans rfl
        have hcz35_2 : wc.cell? ⟨gb101, 2, none⟩ = some (.int .i64 a0_2) := (zac BK101.out 2).trans rfl
        have hcz35_3 : wc.cell? ⟨gb101, 3, none⟩ = some (.int .i64 a0_3) := (zac BK101.out 3).trans rfl
        have hcz35_4 : wc.cell? ⟨gb101, 4, none⟩ = some (.bool true) := (zac BK101.out 4).trans rfl
        have hcz35_5 : wc.cell? ⟨gb101, 5, none⟩ = some (.string a0_5) := (zac BK101.out 5).trans rfl
        have hcz35_6 : wc.cell? ⟨gb101, 6, none⟩ = some (.slice A0_6 l0_6.length c0_6) := (zac BK101.out 6).trans rfl
        have hfz35_0 := zaa BK101.out 0
        have hfz35_1 := zaa BK101.out 1
        have hfz35_2 := zaa BK101.out 2
        have hfz35_3 := zaa BK101.out 3
        have hfz35_4 := zaa BK101.out 4
        have hfz35_5 := zaa BK101.out 5
        have hfz35_6 := zaa BK101.out 6
        go_wp2_with (first | (go_at_call 57; (with_reducible refine (query_asked.calls a0_5 _ _ l0_6 true _ ?side1 ?side2 A12.out).mono ?_); (case side1 => repeat (first | exact (Kd.C_below HR0_6.out HB.out) | (with_reducible refine Kd.C_alloc ?_ _) | (with_reducible refine Kd.C_drewN ?_ _) | (with_reducible refine Kd.C_drew ?_))); (case side2 => exact HC0_6.out); rintro e w36 ⟨rfl, hb⟩; have n0_ := Aside0.mk (zak (g := gb101) (o := .cells #[.string a0_0, .slice A0_1 l0_1.length c0_1, .int .i64 a0_2, .int .i64 a0_3, .bool true, .string a0_5, .slice A0_6 l0_6.length c0_6] 40 (0, 0)) (by (with_reducible repeat (first | refine zai ?_ _ | refine zal ?_ | refine zag ?_ _)); exact BK101.out) hb); have n1_ := Aside0.mk (zah (by repeat (first | (with_reducible first | exact HB.out | apply zab | apply zad | apply zae | refine zaf ?_ GE101.out) | exact HB.out)) hb); clear BK101; clear HB; have BK101 := n0_; have HB := n1_; clear n0_ n1_; (try clear hb); (try clear hb2); (try clear hk); (try clear hi); have hcz37_0 : w36.cell? ⟨gb101, 0, none⟩ = some (.string a0_0) := (zac BK101.out 0).trans rfl; have hcz37_1 : w36.cell? ⟨gb101, 1, none⟩ = some (.slice A0_1 l0_1.length c0_1) := (zac BK101.out 1).trans rfl; have hcz37_2 : w36.cell? ⟨gb101, 2, none⟩ = some (.int .i64 a0_2) := (zac BK101.out 2).trans rfl; have hcz37_3 : w36.cell? ⟨gb101, 3, none⟩ = some (.int .i64 a0_3) := (zac BK101.out 3).trans rfl; have hcz37_4 : w36.cell? ⟨gb101, 4, none⟩ = some (.bool true) := (zac BK101.out 4).trans rfl; have hcz37_5 : w36.cell? ⟨gb101, 5, none⟩ = some (.string a0_5) := (zac BK101.out 5).trans rfl; have hcz37_6 : w36.cell? ⟨gb101, 6, none⟩ = some (.slice A0_6 l0_6.length c0_6) := (zac BK101.out 6).trans rfl; have hfz37_0 := zaa BK101.out 0; have hfz37_1 := zaa BK101.out 1; have hfz37_2 := zaa BK101.out 2; have hfz37_3 := zaa BK101.out 3; have hfz37_4 := zaa BK101.out 4; have hfz37_5 := zaa BK101.out 5; have hfz37_6 := zaa BK101.out 6) | (go_at_call 57; (with_reducible refine (query_asked.calls a0_0 _ _ l0_1 true _ ?side1 ?side2 A14.out).mono ?_); (case side1 => repeat (first | exact (Kd.C_below HR0_1.out HB.out) | (with_reducible refine Kd.C_alloc ?_ _) | (with_reducible refine Kd.C_drewN ?_ _) | (with_reducible refine Kd.C_drew ?_))); (case side2 => exact HC0_1.out); rintro e w38 ⟨rfl, hb⟩; have n0_ := Aside0.mk (zak (g := gb101) (o := .cells #[.string a0_0, .slice A0_1 l0_1.length c0_1, .int .i64 a0_2, .int .i64 a0_3, .bool true, .string a0_5, .slice A0_6 l0_6.length c0_6] 40 (0, 0)) (by (with_reducible repeat (first | refine zai ?_ _ | refine zal ?_ | refine zag ?_ _)); exact BK101.out) hb); have n1_ := Aside0.mk (zah (by repeat (first | (with_reducible first | exact HB.out | apply zab | apply zad | apply zae | refine zaf ?_ GE101.out) | exact HB.out)) hb); clear BK101; clear HB; have BK101 := n0_; have HB := n1_; clear n0_ n1_; (try clear hb); (try clear hb2); (try clear hk); (try clear hi); have hcz39_0 : w38.cell? ⟨gb101, 0, none⟩ = some (.string a0_0) := (zac BK101.out 0).trans rfl; have hcz39_1 : w38.cell? ⟨gb101, 1, none⟩ = some (.slice A0_1 l0_1.length c0_1) := (zac BK101.out 1).trans rfl; have hcz39_2 : w38.cell? ⟨gb101, 2, none⟩ = some (.int .i64 a0_2) := (zac BK101.out 2).trans rfl; have hcz39_3 : w38.cell? ⟨gb101, 3, none⟩ = some (.int .i64 a0_3) := (zac BK101.out 3).trans rfl; have hcz39_4 : w38.cell? ⟨gb101, 4, none⟩ = some (.bool true) := (zac BK101.out 4).trans rfl; have hcz39_5 : w38.cell? ⟨gb101, 5, none⟩ = some (.string a0_5) := (zac BK101.out 5).trans rfl; have hcz39_6 : w38.cell? ⟨gb101, 6, none⟩ = some (.slice A0_6 l0_6.length c0_6) := (zac BK101.out 6).trans rfl; have hfz39_0 := zaa BK101.out 0; have hfz39_1 := zaa BK101.out 1; have hfz39_2 := zaa BK101.out 2; have hfz39_3 := zaa BK101.out 3; have hfz39_4 := zaa BK101.out 4; have hfz39_5 := zaa BK101.out 5; have hfz39_6 := zaa BK101.out 6) | (go_at_call 39; (with_reducible refine (query_in.calls a0_2 1 a0_3 false _ A16.out).mono ?_); rintro e w' ⟨rfl, ⟨nd, rfl⟩⟩))
        go_ret
        exact ⟨by first | rfl | (simp [zan, zam] <;> rfl) | (simp [*, zan, zam] <;> rfl), by repeat (first | (with_reducible first | exact HB.out | apply zab | apply zad | apply zae | refine zaf ?_ GE101.out) | exact HB.out)⟩
      ·replace c15 := Bool.eq_false_iff.mpr c15
       subst c15
       have H1 : (some false) = some r := by rw [if_neg (show ¬ (false = true) by decide)] at H; exact H
       clear H
       have H := H1
       clear H1
       obtain rfl := Option.some.inj H
       have hcz40_0 : wc.cell? ⟨gb101, 0, none⟩ = some (.string a0_0) := (zac BK101.out 0).trans rfl
       have hcz40_1 : wc.cell? ⟨gb101, 1, none⟩ = some (.slice A0_1 l0_1.length c0_1) := (zac BK101.out 1).trans rfl
       have hcz40_2 : wc.cell? ⟨gb101, 2, none⟩ = some (.int .i64 a0_2) := (zac BK101.out 2).trans rfl
       have hcz40_3 : wc.cell? ⟨gb101, 3, none⟩ = some (.int .i64 a0_3) := (zac BK101.out 3).trans rfl
       have hcz40_4 : wc.cell? ⟨gb101, 4, none⟩ = some (.bool true) := (zac BK101.out 4).trans rfl
       have hcz40_5 : wc.cell? ⟨gb101, 5, none⟩ = some (.string a0_5) := (zac BK101.out 5).trans rfl
       have hcz40_6 : wc.cell? ⟨gb101, 6, none⟩ = some (.slice A0_6 l0_6.length c0_6) := (zac BK101.out 6).trans rfl
       have hfz40_0 := zaa BK101.out 0
       have hfz40_1 := zaa BK101.out 1
       have hfz40_2 := zaa BK101.out 2
       have hfz40_3 := zaa BK101.out 3
       have hfz40_4 := zaa BK101.out 4
       have hfz40_5 := zaa BK101.out 5
       have hfz40_6 := zaa BK101.out 6
       go_wp2_with (first | (go_at_call 57; (with_reducible refine (query_asked.calls a0_5 _ _ l0_6 true _ ?side1 ?side2 A12.out).mono ?_); (case side1 => repeat (first | exact (Kd.C_below HR0_6.out HB.out) | (with_reducible refine Kd.C_alloc ?_ _) | (with_reducible refine Kd.C_drewN ?_ _) | (with_reducible refine Kd.C_drew ?_))); (case side2 => exact HC0_6.out); rintro e w41 ⟨rfl, hb⟩; have n0_ := Aside0.mk (zak (g := gb101) (o := .cells #[.string a0_0, .slice A0_1 l0_1.length c0_1, .int .i64 a0_2, .int .i64 a0_3, .bool true, .string a0_5, .slice A0_6 l0_6.length c0_6] 40 (0, 0)) (by (with_reducible repeat (first | refine zai ?_ _ | refine zal ?_ | refine zag ?_ _)); exact BK101.out) hb); have n1_ := Aside0.mk (zah (by repeat (first | (with_reducible first | exact HB.out | apply zab | apply zad | apply zae | refine zaf ?_ GE101.out) | exact HB.out)) hb); clear BK101; clear HB; have BK101 := n0_; have HB := n1_; clear n0_ n1_; (try clear hb); (try clear hb2); (try clear hk); (try clear hi); have hcz42_0 : w41.cell? ⟨gb101, 0, none⟩ = some (.string a0_0) := (zac BK101.out 0).trans rfl; have hcz42_1 : w41.cell? ⟨gb101, 1, none⟩ = some (.slice A0_1 l0_1.length c0_1) := (zac BK101.out 1).trans rfl; have hcz42_2 : w41.cell? ⟨gb101, 2, none⟩ = some (.int .i64 a0_2) := (zac BK101.out 2).trans rfl; have hcz42_3 : w41.cell? ⟨gb101, 3, none⟩ = some (.int .i64 a0_3) := (zac BK101.out 3).trans rfl; have hcz42_4 : w41.cell? ⟨gb101, 4, none⟩ = some (.bool true) := (zac BK101.out 4).trans rfl; have hcz42_5 : w41.cell? ⟨gb101, 5, none⟩ = some (.string a0_5) := (zac BK101.out 5).trans rfl; have hcz42_6 : w41.cell? ⟨gb101, 6, none⟩ = some (.slice A0_6 l0_6.length c0_6) := (zac BK101.out 6).trans rfl; have hfz42_0 := zaa BK101.out 0; have hfz42_1 := zaa BK101.out 1; have hfz42_2 := zaa BK101.out 2; have hfz42_3 := zaa BK101.out 3; have hfz42_4 := zaa BK101.out 4; have hfz42_5 := zaa BK101.out 5; have hfz42_6 := zaa BK101.out 6) | (go_at_call 57; (with_reducible refine (query_asked.calls a0_0 _ _ l0_1 false _ ?side1 ?side2 A14.out).mono ?_); (case side1 => repeat (first | exact (Kd.C_below HR0_1.out HB.out) | (with_reducible refine Kd.C_alloc ?_ _) | (with_reducible refine Kd.C_drewN ?_ _) | (with_reducible refine Kd.C_drew ?_))); (case side2 => exact HC0_1.out); rintro e w43 ⟨rfl, hb⟩; have n0_ := Aside0.mk (zak (g := gb101) (o := .cells #[.string a0_0, .slice A0_1 l0_1.length c0_1, .int .i64 a0_2, .int .i64 a0_3, .bool true, .string a0_5, .slice A0_6 l0_6.length c0_6] 40 (0, 0)) (by (with_reducible repeat (first | refine zai ?_ _ | refine zal ?_ | refine zag ?_ _)); exact BK101.out) hb); have n1_ := Aside0.mk (zah (by repeat (first | (with_reducible first | exact HB.out | apply zab | apply zad | apply zae | refine zaf ?_ GE101.out) | exact HB.out)) hb); clear BK101; clear HB; have BK101 := n0_; have HB := n1_; clear n0_ n1_; (try clear hb); (try clear hb2); (try clear hk); (try clear hi)))
       go_ret
       exact ⟨by first | rfl | (simp [zan, zam] <;> rfl) | (simp [*, zan, zam] <;> rfl), by repeat (first | (with_reducible first | exact HB.out | apply zab | apply zad | apply zae | refine zaf ?_ GE101.out) | exact HB.out)⟩
     ·replace c13 := Bool.eq_false_iff.mpr c13
      subst c13
      have H1 : (some false) = some r := by rw [if_neg (show ¬ (false = true) by decide)] at H; exact H
      clear H
      have H := H1
      clear H1
      obtain rfl := Option.some.inj H
      have hcz44_0 : wc.cell? ⟨gb101, 0, none⟩ = some (.string a0_0) := (zac BK101.out 0).trans rfl
      have hcz44_1 : wc.cell? ⟨gb101, 1, none⟩ = some (.slice A0_1 l0_1.length c0_1) := (zac BK101.out 1).trans rfl
      have hcz44_2 : wc.cell? ⟨gb101, 2, none⟩ = some (.int .i64 a0_2) := (zac BK101.out 2).trans rfl
      have hcz44_3 : wc.cell? ⟨gb101, 3, none⟩ = some (.int .i64 a0_3) := (zac BK101.out 3).trans rfl
      have hcz44_4 : wc.cell? ⟨gb101, 4, none⟩ = some (.bool true) := (zac BK101.out 4).trans rfl
      have hcz44_5 : wc.cell? ⟨gb101, 5, none⟩ = some (.string a0_5) := (zac BK101.out 5).trans rfl
      have hcz44_6 : wc.cell? ⟨gb101, 6, none⟩ = some (.slice A0_6 l0_6.length c0_6) := (zac BK101.out 6).trans rfl
      have hfz44_0 := zaa BK101.out 0
      have hfz44_1 := zaa BK101.out 1
      have hfz44_2 := zaa BK101.out 2
      have hfz44_3 := zaa BK101.out 3
      have hfz44_4 := zaa BK101.out 4
      have hfz44_5 := zaa BK101.out 5
      have hfz44_6 := zaa BK101.out 6
      go_wp2_with (first | (go_at_call 57; (with_reducible refine (query_asked.calls a0_5 _ _ l0_6 false _ ?side1 ?side2 A12.out).mono ?_); (case side1 => repeat (first | exact (Kd.C_below HR0_6.out HB.out) | (with_reducible refine Kd.C_alloc ?_ _) | (with_reducible refine Kd.C_drewN ?_ _) | (with_reducible refine Kd.C_drew ?_))); (case side2 => exact HC0_6.out); rintro e w45 ⟨rfl, hb⟩; have n0_ := Aside0.mk (zak (g := gb101) (o := .cells #[.string a0_0, .slice A0_1 l0_1.length c0_1, .int .i64 a0_2, .int .i64 a0_3, .bool true, .string a0_5, .slice A0_6 l0_6.length c0_6] 40 (0, 0)) (by (with_reducible repeat (first | refine zai ?_ _ | refine zal ?_ | refine zag ?_ _)); exact BK101.out) hb); have n1_ := Aside0.mk (zah (by repeat (first | (with_reducible first | exact HB.out | apply zab | apply zad | apply zae | refine zaf ?_ GE101.out) | exact HB.out)) hb); clear BK101; clear HB; have BK101 := n0_; have HB := n1_; clear n0_ n1_; (try clear hb); (try clear hb2); (try clear hk); (try clear hi)))
      go_ret
      exact ⟨by first | rfl | (simp [zan, zam] <;> rfl) | (simp [*, zan, zam] <;> rfl), by repeat (first | (with_reducible first | exact HB.out | apply zab | apply zad | apply zae | refine zaf ?_ GE101.out) | exact HB.out)⟩
   ·replace c9 := Bool.eq_false_iff.mpr c9
    subst c9
    have H1 : (if x7_3 = true then ((query_asked.f a0_0 l0_1).bind fun t105 => (if t105 = true then ((query_in.f a0_2 1 a0_3).bind fun t106 => (if t106 = true then (if a0_3 ≤ 4 then (if a2 = true then (some (a0_2 == a0_3)) else (some true)) else (some false)) else (some false))) else (some false))) else (some false)) = some r := by rw [if_neg (show ¬ (false = true) by decide)] at H; exact H
    clear H
    have H := H1
    clear H1
    by_cases c46 : x7_3 = true
    ·subst c46
     have H1 : ((query_asked.f a0_0 l0_1).bind fun t105 => (if t105 = true then ((query_in.f a0_2 1 a0_3).bind fun t106 => (if t106 = true then (if a0_3 ≤ 4 then (if a2 = true then (some (a0_2 == a0_3)) else (some true)) else (some false)) else (some false))) else (some false))) = some r := by rw [if_pos rfl] at H; exact H
     clear H
     have H := H1
     clear H1
     replace H := Option.bind_eq_some_iff.mp H
     obtain ⟨t105, A470, H⟩ := H
     replace H : (if t105 = true then ((query_in.f a0_2 1 a0_3).bind fun t106 => (if t106 = true then (if a0_3 ≤ 4 then (if a2 = true then (some (a0_2 == a0_3)) else (some true)) else (some false)) else (some false))) else (some false)) = some r := H
     have A47 := Aside0.mk A470
     clear A470
     by_cases c48 : t105 = true
     ·subst c48
      have H1 : ((query_in.f a0_2 1 a0_3).bind fun t106 => (if t106 = true then (if a0_3 ≤ 4 then (if a2 = true then (some (a0_2 == a0_3)) else (some true)) else (some false)) else (some false))) = some r := by rw [if_pos rfl] at H; exact H
      clear H
      have H := H1
      clear H1
      replace H := Option.bind_eq_some_iff.mp H
      obtain ⟨t106, A490, H⟩ := H
      replace H : (if t106 = true then (if a0_3 ≤ 4 then (if a2 = true then (some (a0_2 == a0_3)) else (some true)) else (some false)) else (some false)) = some r := H
      have A49 := Aside0.mk A490
      clear A490
      by_cases c50 : t106 = true
      ·subst c50
       have H1 : (if a0_3 ≤ 4 then (if a2 = true then (some (a0_2 == a0_3)) else (some true)) else (some false)) = some r := by rw [if_pos rfl] at H; exact H
       clear H
       have H := H1
       clear H1
       by_cases c51 : a0_3 ≤ 4
       ·rw [if_pos c51] at H
        have c51b0 : decide (a0_3 ≤ 4) = true := decide_eq_true c51
        clear c51
        by_cases c52 : a2 = true
        ·subst c52
         have H1 : (some (a0_2 == a0_3)) = some r := by rw [if_pos rfl] at H; exact H
         clear H
         have H := H1
         clear H1
         obtain rfl := Option.some.inj H
         have hcz53_0 : wc.cell? ⟨gb101, 0, none⟩ = some (.string a0_0) := (zac BK101.out 0).trans rfl
         have hcz53_1 : wc.cell? ⟨gb101, 1, none⟩ = some (.slice A0_1 l0_1.length c0_1) := (zac BK101.out 1).trans rfl
         have hcz53_2 : wc.cell? ⟨gb101, 2, none⟩ = some (.int .i64 a0_2) := (zac BK101.out 2).trans rfl
         have hcz53_3 : wc.cell? ⟨gb101, 3, none⟩ = some (.int .i64 a0_3) := (zac BK101.out 3).trans rfl
         have hcz53_4 : wc.cell? ⟨gb101, 4, none⟩ = some (.bool false) := (zac BK101.out 4).trans rfl
         have hcz53_5 : wc.cell? ⟨gb101, 5, none⟩ = some (.string a0_5) := (zac BK101.out 5).trans rfl
         have hcz53_6 : wc.cell? ⟨gb101, 6, none⟩ = some (.slice A0_6 l0_6.length c0_6) := (zac BK101.out 6).trans rfl
         have hfz53_0 := zaa BK101.out 0
         have hfz53_1 := zaa BK101.out 1
         have hfz53_2 := zaa BK101.out 2
         have hfz53_3 := zaa BK101.out 3
         have hfz53_4 := zaa BK101.out 4
         have hfz53_5 := zaa BK101.out 5
         have hfz53_6 := zaa BK101.out 6
         go_wp2_with (first | (go_at_call 57; (with_reducible refine (query_asked.calls a0_0 _ _ l0_1 true _ ?side1 ?side2 A47.out).mono ?_); (case side1 => repeat (first | exact (Kd.C_below HR0_1.out HB.out) | (with_reducible refine Kd.C_alloc ?_ _) | (with_reducible refine Kd.C_drewN ?_ _) | (with_reducible refine Kd.C_drew ?_))); (case side2 => exact HC0_1.out); rintro e w54 ⟨rfl, hb⟩; have n0_ := Aside0.mk (zak (g := gb101) (o := .cells #[.string a0_0, .slice A0_1 l0_1.length c0_1, .int .i64 a0_2, .int .i64 a0_3, .bool false, .string a0_5, .slice A0_6 l0_6.length c0_6] 40 (0, 0)) (by (with_reducible repeat (first | refine zai ?_ _ | refine zal ?_ | refine zag ?_ _)); exact BK101.out) hb); have n1_ := Aside0.mk (zah (by repeat (first | (with_reducible first | exact HB.out | apply zab | apply zad | apply zae | refine zaf ?_ GE101.out) | exact HB.out)) hb); clear BK101; clear HB; have BK101 := n0_; have HB := n1_; clear n0_ n1_; (try clear hb); (try clear hb2); (try clear hk); (try clear hi); have hcz55_0 : w54.cell? ⟨gb101, 0, none⟩ = some (.string a0_0) := (zac BK101.out 0).trans rfl; have hcz55_1 : w54.cell? ⟨gb101, 1, none⟩ = some (.slice A0_1 l0_1.length c0_1) := (zac BK101.out 1).trans rfl; have hcz55_2 : w54.cell? ⟨gb101, 2, none⟩ = some (.int .i64 a0_2) := (zac BK101.out 2).trans rfl; have hcz55_3 : w54.cell? ⟨gb101, 3, none⟩ = some (.int .i64 a0_3) := (zac BK101.out 3).trans rfl; have hcz55_4 : w54.cell? ⟨gb101, 4, none⟩ = some (.bool false) := (zac BK101.out 4).trans rfl; have hcz55_5 : w54.cell? ⟨gb101, 5, none⟩ = some (.string a0_5) := (zac BK101.out 5).trans rfl; have hcz55_6 : w54.cell? ⟨gb101, 6, none⟩ = some (.slice A0_6 l0_6.length c0_6) := (zac BK101.out 6).trans rfl; have hfz55_0 := zaa BK101.out 0; have hfz55_1 := zaa BK101.out 1; have hfz55_2 := zaa BK101.out 2; have hfz55_3 := zaa BK101.out 3; have hfz55_4 := zaa BK101.out 4; have hfz55_5 := zaa BK101.out 5; have hfz55_6 := zaa BK101.out 6) | (go_at_call 39; (with_reducible refine (query_in.calls a0_2 1 a0_3 true _ A49.out).mono ?_); rintro e w' ⟨rfl, ⟨nd, rfl⟩⟩))
         go_ret
         exact ⟨by first | rfl | (simp [zan, zam] <;> rfl) | (simp [*, zan, zam] <;> rfl), by repeat (first | (with_reducible first | exact HB.out | apply zab | apply zad | apply zae | refine zaf ?_ GE101.out) | exact HB.out)⟩
        ·replace c52 := Bool.eq_false_iff.mpr c52
         subst c52
         have H1 : (some true) = some r := by rw [if_neg (show ¬ (false = true) by decide)] at H; exact H
         clear H
         have H := H1
         clear H1
         obtain rfl := Option.some.inj H
         have hcz56_0 : wc.cell? ⟨gb101, 0, none⟩ = some (.string a0_0) := (zac BK101.out 0).trans rfl
         have hcz56_1 : wc.cell? ⟨gb101, 1, none⟩ = some (.slice A0_1 l0_1.length c0_1) := (zac BK101.out 1).trans rfl
         have hcz56_2 : wc.cell? ⟨gb101, 2, none⟩ = some (.int .i64 a0_2) := (zac BK101.out 2).trans rfl
         have hcz56_3 : wc.cell? ⟨gb101, 3, none⟩ = some (.int .i64 a0_3) := (zac BK101.out 3).trans rfl
         have hcz56_4 : wc.cell? ⟨gb101, 4, none⟩ = some (.bool false) := (zac BK101.out 4).trans rfl
         have hcz56_5 : wc.cell? ⟨gb101, 5, none⟩ = some (.string a0_5) := (zac BK101.out 5).trans rfl
         have hcz56_6 : wc.cell? ⟨gb101, 6, none⟩ = some (.slice A0_6 l0_6.length c0_6) := (zac BK101.out 6).trans rfl
         have hfz56_0 := zaa BK101.out 0
         have hfz56_1 := zaa BK101.out 1
         have hfz56_2 := zaa BK101.out 2
         have hfz56_3 := zaa BK101.out 3
         have hfz56_4 := zaa BK101.out 4
         have hfz56_5 := zaa BK101.out 5
         have hfz56_6 := zaa BK101.out 6
         go_wp2_with (first | (go_at_call 57; (with_reducible refine (query_asked.calls a0_0 _ _ l0_1 true _ ?side1 ?side2 A47.out).mono ?_); (case side1 => repeat (first | exact (Kd.C_below HR0_1.out HB.out) | (with_reducible refine Kd.C_alloc ?_ _) | (with_reducible refine Kd.C_drewN ?_ _) | (with_reducible refine Kd.C_drew ?_))); (case side2 => exact HC0_1.out); rintro e w57 ⟨rfl, hb⟩; have n0_ := Aside0.mk (zak (g := gb101) (o := .cells #[.string a0_0, .slice A0_1 l0_1.length c0_1, .int .i64 a0_2, .int .i64 a0_3, .bool false, .string a0_5, .slice A0_6 l0_6.length c0_6] 40 (0, 0)) (by (with_reducible repeat (first | refine zai ?_ _ | refine zal ?_ | refine zag ?_ _)); exact BK101.out) hb); have n1_ := Aside0.mk (zah (by repeat (first | (with_reducible first | exact HB.out | apply zab | apply zad | apply zae | refine zaf ?_ GE101.out) | exact HB.out)) hb); clear BK101; clear HB; have BK101 := n0_; have HB := n1_; clear n0_ n1_; (try clear hb); (try clear hb2); (try clear hk); (try clear hi); have hcz58_0 : w57.cell? ⟨gb101, 0, none⟩ = some (.string a0_0) := (zac BK101.out 0).trans rfl; have hcz58_1 : w57.cell? ⟨gb101, 1, none⟩ = some (.slice A0_1 l0_1.length c0_1) := (zac BK101.out 1).trans rfl; have hcz58_2 : w57.cell? ⟨gb101, 2, none⟩ = some (.int .i64 a0_2) := (zac BK101.out 2).trans rfl; have hcz58_3 : w57.cell? ⟨gb101, 3, none⟩ = some (.int .i64 a0_3) := (zac BK101.out 3).trans rfl; have hcz58_4 : w57.cell? ⟨gb101, 4, none⟩ = some (.bool false) := (zac BK101.out 4).trans rfl; have hcz58_5 : w57.cell? ⟨gb101, 5, none⟩ = some (.string a0_5) := (zac BK101.out 5).trans rfl; have hcz58_6 : w57.cell? ⟨gb101, 6, none⟩ = some (.slice A0_6 l0_6.length c0_6) := (zac BK101.out 6).trans rfl; have hfz58_0 := zaa BK101.out 0; have hfz58_1 := zaa BK101.out 1; have hfz58_2 := zaa BK101.out 2; have hfz58_3 := zaa BK101.out 3; have hfz58_4 := zaa BK101.out 4; have hfz58_5 := zaa BK101.out 5; have hfz58_6 := zaa BK101.out 6) | (go_at_call 39; (with_reducible refine (query_in.calls a0_2 1 a0_3 true _ A49.out).mono ?_); rintro e w' ⟨rfl, ⟨nd, rfl⟩⟩))
         go_ret
         exact ⟨by first | rfl | (simp [zan, zam] <;> rfl) | (simp [*, zan, zam] <;> rfl), by repeat (first | (with_reducible first | exact HB.out | apply zab | apply zad | apply zae | refine zaf ?_ GE101.out) | exact HB.out)⟩
       ·rw [if_neg c51] at H
        have c51b0 : decide (a0_3 ≤ 4) = false := decide_eq_false c51
        clear c51
        obtain rfl := Option.some.inj H
        have hcz59_0 : wc.cell? ⟨gb101, 0, none⟩ = some (.string a0_0) := (zac BK101.out 0).trans rfl
        have hcz59_1 : wc.cell? ⟨gb101, 1, none⟩ = some (.slice A0_1 l0_1.length c0_1) := (zac BK101.out 1).trans rfl
        have hcz59_2 : wc.cell? ⟨gb101, 2, none⟩ = some (.int .i64 a0_2) := (zac BK101.out 2).trans rfl
        have hcz59_3 : wc.cell? ⟨gb101, 3, none⟩ = some (.int .i64 a0_3) := (zac BK101.out 3).trans rfl
        have hcz59_4 : wc.cell? ⟨gb101, 4, none⟩ = some (.bool false) := (zac BK101.out 4).trans rfl
        have hcz59_5 : wc.cell? ⟨gb101, 5, none⟩ = some (.string a0_5) := (zac BK101.out 5).trans rfl
        have hcz59_6 : wc.cell? ⟨gb101, 6, none⟩ = some (.slice A0_6 l0_6.length c0_6) := (zac BK101.out 6).trans rfl
        have hfz59_0 := zaa BK101.out 0
        have hfz59_1 := zaa BK101.out 1
        have hfz59_2 := zaa BK101.out 2
        have hfz59_3 := zaa BK101.out 3
        have hfz59_4 := zaa BK101.out 4
        have hfz59_5 := zaa BK101.out 5
        have hfz59_6 := zaa BK101.out 6
        go_wp2_with (first | (go_at_call 57; (with_reducible refine (query_asked.calls a0_0 _ _ l0_1 true _ ?side1 ?side2 A47.out).mono ?_); (case side1 => repeat (first | exact (Kd.C_below HR0_1.out HB.out) | (with_reducible refine Kd.C_alloc ?_ _) | (with_reducible refine Kd.C_drewN ?_ _) | (with_reducible refine Kd.C_drew ?_))); (case side2 => exact HC0_1.out); rintro e w60 ⟨rfl, hb⟩; have n0_ := Aside0.mk (zak (g := gb101) (o := .cells #[.string a0_0, .slice A0_1 l0_1.length c0_1, .int .i64 a0_2, .int .i64 a0_3, .bool false, .string a0_5, .slice A0_6 l0_6.length c0_6] 40 (0, 0)) (by (with_reducible repeat (first | refine zai ?_ _ | refine zal ?_ | refine zag ?_ _)); exact BK101.out) hb); have n1_ := Aside0.mk (zah (by repeat (first | (with_reducible first | exact HB.out | apply zab | apply zad | apply zae | refine zaf ?_ GE101.out) | exact HB.out)) hb); clear BK101; clear HB; have BK101 := n0_; have HB := n1_; clear n0_ n1_; (try clear hb); (try clear hb2); (try clear hk); (try clear hi); have hcz61_0 : w60.cell? ⟨gb101, 0, none⟩ = some (.string a0_0) := (zac BK101.out 0).trans rfl; have hcz61_1 : w60.cell? ⟨gb101, 1, none⟩ = some (.slice A0_1 l0_1.length c0_1) := (zac BK101.out 1).trans rfl; have hcz61_2 : w60.cell? ⟨gb101, 2, none⟩ = some (.int .i64 a0_2) := (zac BK101.out 2).trans rfl; have hcz61_3 : w60.cell? ⟨gb101, 3, none⟩ = some (.int .i64 a0_3) := (zac BK101.out 3).trans rfl; have hcz61_4 : w60.cell? ⟨gb101, 4, none⟩ = some (.bool false) := (zac BK101.out 4).trans rfl; have hcz61_5 : w60.cell? ⟨gb101, 5, none⟩ = some (.string a0_5) := (zac BK101.out 5).trans rfl; have hcz61_6 : w60.cell? ⟨gb101, 6, none⟩ = some (.slice A0_6 l0_6.length c0_6) := (zac BK101.out 6).trans rfl; have hfz61_0 := zaa BK101.out 0; have hfz61_1 := zaa BK101.out 1; have hfz61_2 := zaa BK101.out 2; have hfz61_3 := zaa BK101.out 3; have hfz61_4 := zaa BK101.out 4; have hfz61_5 := zaa BK101.out 5; have hfz61_6 := zaa BK101.out 6) | (go_at_call 39; (with_reducible refine (query_in.calls a0_2 1 a0_3 true _ A49.out).mono ?_); rintro e w' ⟨rfl, ⟨nd, rfl⟩⟩))
        go_ret
        exact ⟨by first | rfl | (simp [zan, zam] <;> rfl) | (simp [*, zan, zam] <;> rfl), by repeat (first | (with_reducible first | exact HB.out | apply zab | apply zad | apply zae | refine zaf ?_ GE101.out) | exact HB.out)⟩
      ·replace c50 := Bool.eq_false_iff.mpr c50
       subst c50
       have H1 : (some false) = some r := by rw [if_neg (show ¬ (false = true) by decide)] at H; exact H
       clear H
       have H := H1
       clear H1
       obtain rfl := Option.some.inj H
       have hcz62_0 : wc.cell? ⟨gb101, 0, none⟩ = some (.string a0_0) := (zac BK101.out 0).trans rfl
       have hcz62_1 : wc.cell? ⟨gb101, 1, none⟩ = some (.slice A0_1 l0_1.length c0_1) := (zac BK101.out 1).trans rfl
       have hcz62_2 : wc.cell? ⟨gb101, 2, none⟩ = some (.int .i64 a0_2) := (zac BK101.out 2).trans rfl
       have hcz62_3 : wc.cell? ⟨gb101, 3, none⟩ = some (.int .i64 a0_3) := (zac BK101.out 3).trans rfl
       have hcz62_4 : wc.cell? ⟨gb101, 4, none⟩ = some (.bool false) := (zac BK101.out 4).trans rfl
       have hcz62_5 : wc.cell? ⟨gb101, 5, none⟩ = some (.string a0_5) := (zac BK101.out 5).trans rfl
       have hcz62_6 : wc.cell? ⟨gb101, 6, none⟩ = some (.slice A0_6 l0_6.length c0_6) := (zac BK101.out 6).trans rfl
       have hfz62_0 := zaa BK101.out 0
       have hfz62_1 := zaa BK101.out 1
       have hfz62_2 := zaa BK101.out 2
       have hfz62_3 := zaa BK101.out 3
       have hfz62_4 := zaa BK101.out 4
       have hfz62_5 := zaa BK101.out 5
       have hfz62_6 := zaa BK101.out 6
       go_wp2_with (first | (go_at_call 57; (with_reducible refine (query_asked.calls a0_0 _ _ l0_1 true _ ?side1 ?side2 A47.out).mono ?_); (case side1 => repeat (first | exact (Kd.C_below HR0_1.out HB.out) | (with_reducible refine Kd.C_alloc ?_ _) | (with_reducible refine Kd.C_drewN ?_ _) | (with_reducible refine Kd.C_drew ?_))); (case side2 => exact HC0_1.out); rintro e w63 ⟨rfl, hb⟩; have n0_ := Aside0.mk (zak (g := gb101) (o := .cells #[.string a0_0, .slice A0_1 l0_1.length c0_1, .int .i64 a0_2, .int .i64 a0_3, .bool false, .string a0_5, .slice A0_6 l0_6.length c0_6] 40 (0, 0)) (by (with_reducible repeat (first | refine zai ?_ _ | refine zal ?_ | refine zag ?_ _)); exact BK101.out) hb); have n1_ := Aside0.mk (zah (by repeat (first | (with_reducible first | exact HB.out | apply zab | apply zad | apply zae | refine zaf ?_ GE101.out) | exact HB.out)) hb); clear BK101; clear HB; have BK101 := n0_; have HB := n1_; clear n0_ n1_; (try clear hb); (try clear hb2); (try clear hk); (try clear hi); have hcz64_0 : w63.cell? ⟨gb101, 0, none⟩ = some (.string a0_0) := (zac BK101.out 0).trans rfl; have hcz64_1 : w63.cell? ⟨gb101, 1, none⟩ = some (.slice A0_1 l0_1.length c0_1) := (zac BK101.out 1).trans rfl; have hcz64_2 : w63.cell? ⟨gb101, 2, none⟩ = some (.int .i64 a0_2) := (zac BK101.out 2).trans rfl; have hcz64_3 : w63.cell? ⟨gb101, 3, none⟩ = some (.int .i64 a0_3) := (zac BK101.out 3).trans rfl; have hcz64_4 : w63.cell? ⟨gb101, 4, none⟩ = some (.bool false) := (zac BK101.out 4).trans rfl; have hcz64_5 : w63.cell? ⟨gb101, 5, none⟩ = some (.string a0_5) := (zac BK101.out 5).trans rfl; have hcz64_6 : w63.cell? ⟨gb101, 6, none⟩ = some (.slice A0_6 l0_6.length c0_6) := (zac BK101.out 6).trans rfl; have hfz64_0 := zaa BK101.out 0; have hfz64_1 := zaa BK101.out 1; have hfz64_2 := zaa BK101.out 2; have hfz64_3 := zaa BK101.out 3; have hfz64_4 := zaa BK101.out 4; have hfz64_5 := zaa BK101.out 5; have hfz64_6 := zaa BK101.out 6) | (go_at_call 39; (with_reducible refine (query_in.calls a0_2 1 a0_3 false _ A49.out).mono ?_); rintro e w' ⟨rfl, ⟨nd, rfl⟩⟩))
       go_ret
       exact ⟨by first | rfl | (simp [zan, zam] <;> rfl) | (simp [*, zan, zam] <;> rfl), by repeat (first | (with_reducible first | exact HB.out | apply zab | apply zad | apply zae | refine zaf ?_ GE101.out) | exact HB.out)⟩
     ·replace c48 := Bool.eq_false_iff.mpr c48
      subst c48
      have H1 : (some false) = some r := by rw [if_neg (show ¬ (false = true) by decide)] at H; exact H
      clear H
      have H := H1
      clear H1
      obtain rfl := Option.some.inj H
      have hcz65_0 : wc.cell? ⟨gb101, 0, none⟩ = some (.string a0_0) := (zac BK101.out 0).trans rfl
      have hcz65_1 : wc.cell? ⟨gb101, 1, none⟩ = some (.slice A0_1 l0_1.length c0_1) := (zac BK101.out 1).trans rfl
      have hcz65_2 : wc.cell? ⟨gb101, 2, none⟩ = some (.int .i64 a0_2) := (zac BK101.out 2).trans rfl
      have hcz65_3 : wc.cell? ⟨gb101, 3, none⟩ = some (.int .i64 a0_3) := (zac BK101.out 3).trans rfl
      have hcz65_4 : wc.cell? ⟨gb101, 4, none⟩ = some (.bool false) := (zac BK101.out 4).trans rfl
      have hcz65_5 : wc.cell? ⟨gb101, 5, none⟩ = some (.string a0_5) := (zac BK101.out 5).trans rfl
      have hcz65_6 : wc.cell? ⟨gb101, 6, none⟩ = some (.slice A0_6 l0_6.length c0_6) := (zac BK101.out 6).trans rfl
      have hfz65_0 := zaa BK101.out 0
      have hfz65_1 := zaa BK101.out 1
      have hfz65_2 := zaa BK101.out 2
      have hfz65_3 := zaa BK101.out 3
      have hfz65_4 := zaa BK101.out 4
      have hfz65_5 := zaa BK101.out 5
      have hfz65_6 := zaa BK101.out 6
      go_wp2_with (first | (go_at_call 57; (with_reducible refine (query_asked.calls a0_0 _ _ l0_1 false _ ?side1 ?side2 A47.out).mono ?_); (case side1 => repeat (first | exact (Kd.C_below HR0_1.out HB.out) | (with_reducible refine Kd.C_alloc ?_ _) | (with_reducible refine Kd.C_drewN ?_ _) | (with_reducible refine Kd.C_drew ?_))); (case side2 => exact HC0_1.out); rintro e w66 ⟨rfl, hb⟩; have n0_ := Aside0.mk (zak (g := gb101) (o := .cells #[.string a0_0, .slice A0_1 l0_1.length c0_1, .int .i64 a0_2, .int .i64 a0_3, .bool false, .string a0_5, .slice A0_6 l0_6.length c0_6] 40 (0, 0)) (by (with_reducible repeat (first | refine zai ?_ _ | refine zal ?_ | refine zag ?_ _)); exact BK101.out) hb); have n1_ := Aside0.mk (zah (by repeat (first | (with_reducible first | exact HB.out | apply zab | apply zad | apply zae | refine zaf ?_ GE101.out) | exact HB.out)) hb); clear BK101; clear HB; have BK101 := n0_; have HB := n1_; clear n0_ n1_; (try clear hb); (try clear hb2); (try clear hk); (try clear hi)))
      go_ret
      exact ⟨by first | rfl | (simp [zan, zam] <;> rfl) | (simp [*, zan, zam] <;> rfl), by repeat (first | (with_reducible first | exact HB.out | apply zab | apply zad | apply zae | refine zaf ?_ GE101.out) | exact HB.out)⟩
    ·replace c46 := Bool.eq_false_iff.mpr c46
     subst c46
     have H1 : (some false) = some r := by rw [if_neg (show ¬ (false = true) by decide)] at H; exact H
     clear H
     have H := H1
     clear H1
     obtain rfl := Option.some.inj H
     have hcz67_0 : wc.cell? ⟨gb101, 0, none⟩ = some (.string a0_0) := (zac BK101.out 0).trans rfl
     have hcz67_1 : wc.cell? ⟨gb101, 1, none⟩ = some (.slice A0_1 l0_1.length c0_1) := (zac BK101.out 1).trans rfl
     have hcz67_2 : wc.cell? ⟨gb101, 2, none⟩ = some (.int .i64 a0_2) := (zac BK101.out 2).trans rfl
     have hcz67_3 : wc.cell? ⟨gb101, 3, none⟩ = some (.int .i64 a0_3) := (zac BK101.out 3).trans rfl
     have hcz67_4 : wc.cell? ⟨gb101, 4, none⟩ = some (.bool false) := (zac BK101.out 4).trans rfl
     have hcz67_5 : wc.cell? ⟨gb101, 5, none⟩ = some (.string a0_5) := (zac BK101.out 5).trans rfl
     have hcz67_6 : wc.cell? ⟨gb101, 6, none⟩ = some (.slice A0_6 l0_6.length c0_6) := (zac BK101.out 6).trans rfl
     have hfz67_0 := zaa BK101.out 0
     have hfz67_1 := zaa BK101.out 1
     have hfz67_2 := zaa BK101.out 2
     have hfz67_3 := zaa BK101.out 3
     have hfz67_4 := zaa BK101.out 4
     have hfz67_5 := zaa BK101.out 5
     have hfz67_6 := zaa BK101.out 6
     go_wp2
     go_ret
     exact ⟨by first | rfl | (simp [zan, zam] <;> rfl) | (simp [*, zan, zam] <;> rfl), by repeat (first | (with_reducible first | exact HB.out | apply zab | apply zad | apply zae | refine zaf ?_ GE101.out) | exact HB.out)⟩
def query_may.l0 : Nat → Int → Int → Int → List (SStep) → Int → Int → Int → Int → Option (Bool)
 | 0, _, _, _, _, _, _, _, _ => none
 | k + 1, x3, x9, x10, x108000, x108001, x108002, x108003, x108004 => if x10 < x9 then (if 0 ≤ x10 then (if x10 < (x108000.length : Int) then ((query_step.f k ((zaj x108000 x10).f0) ((zaj x108000 x10).f1) ((zaj x108000 x10).f2) ((zaj x108000 x10).f3) ((zaj x108000 x10).f4) ((zaj x108000 x10).f5) ((zaj x108000 x10).f6) (x10 == 0) (x10 == (wrap64 (x3 - 1)))).bind fun t109 => (if t109 = true then (query_may.l0 k x3 x9 (wrap64 (x10 + 1)) x108000 x108001 x108002 x108003 x108004) else (some false))) else (none)) else (none)) else ((query_in.f x108002 0 3).bind fun t110 => (if t110 = true then ((query_in.f x108003 0 (wrap64 (x3 - 1))).bind fun t111 => (if t111 = true then ((query_in.f x108004 0 5).bind fun t112 => (if t112 = true then (if x108002 = 0 then ((query_in.f x3 1 4).bind fun t113 => (if t113 = true then ((query_in.f x108001 0 1125899906842624).bind fun t114 => (if t114 = true then (some (x108004 == 0)) else (some false))) else (some false))) else ((query_in.f x3 1 4).bind fun t115 => (if t115 = true then ((query_in.f x108001 0 1125899906842624).bind fun t116 => (if t116 = true then (some true) else (some false))) else (some false)))) else ((query_in.f x3 1 4).bind fun t117 => (if t117 = true then ((query_in.f x108001 0 1125899906842624).bind fun t118 => (if t118 = true then (some false) else (some false))) else (some false))))) else ((query_in.f x3 1 4).bind fun t119 => (if t119 = true then ((query_in.f x108001 0 1125899906842624).bind fun t120 => (if t120 = true then (some false) else (some false))) else (some false))))) else ((query_in.f x3 1 4).bind fun t121 => (if t121 = true then ((query_in.f x108001 0 1125899906842624).bind fun t122 => (if t122 = true then (some false) else (some false))) else (some false)))))
def query_may.f (k : Nat) (l0_0 : List (SStep)) (a0_1 : Int) (a0_2 : Int) (a0_3 : Int) (a0_4 : Int) : Option (Bool) := query_may.l0 k (l0_0.length : Int) (l0_0.length : Int) 0 l0_0 a0_1 a0_2 a0_3 a0_4
set_option maxHeartbeats 8000000 in
set_option maxRecDepth 100000 in
theorem query_may.calls (k : Nat) (A0_0 : Option Addr) (c0_0 : Nat) (l0_0 : List (SStep)) (a0_1 : Int) (a0_2 : Int) (a0_3 : Int) (a0_4 : Int) (r : Bool) (w : World) (hr0_0 : Kd.C kStep w A0_0 l0_0.length l0_0) (hc0_0 : l0_0.length ≤ c0_0) (h : query_may.f k l0_0 a0_1 a0_2 a0_3 a0_4 = some r) :
  Calls Try.prog 21 #[.agg #[.slice A0_0 l0_0.length c0_0, .int .i64 a0_1, .int .i64 a0_2, .int .i64 a0_3, .int .i64 a0_4]] w fun e w' => e = .returned (.bool r) ∧ Below w.heap.size w w' := by
 have hu24 := Try.underlying24
 have hu40 := Try.underlying40
 have HR0_0 := Aside0.mk hr0_0
 have HC0_0 := Aside0.mk hc0_0
 clear hr0_0 hc0_0
 have HB := Aside0.mk (Below.refl w.heap.size w)
 have H : (query_may.l0 k (l0_0.length : Int) (l0_0.length : Int) 0 l0_0 a0_1 a0_2 a0_3 a0_4) = some r := h
 clear h
 have H' := Aside0.mk H
 clear H
 go_enter Try.func21, Try.ntmps21
 go_wp2_with (first | ((with_reducible refine zaw (N := 1) rfl ?_); refine zas ?hg (N := 1) ?hd (cs := #[.slice A0_0 l0_0.length c0_0, .int .i64 a0_1, .int .i64 a0_2, .int .i64 a0_3, .int .i64 a0_4]) (t := 24) ?hr ?_; (case hd => rfl); (case hg => rfl); (case hr => first | (go_simp; done) | (go_simp; rfl)); intro gb107 hg w2 hbox hb; have n0_ := Aside0.mk (zah (by repeat (first | (with_reducible first | exact HB.out | apply zab | apply zad | apply zae) | exact HB.out)) hb); have n1_ := Aside0.mk (hbox); have n2_ := Aside0.mk ((by rw [hg]; exact (zao (by repeat (first | (with_reducible first | exact HB.out | apply zab | apply zad | apply zae) | exact HB.out))) : w.heap.size ≤ gb107)); have n3_ := Aside0.mk ((by rw [hg]; exact (zao (by repeat (first | (with_reducible first | exact HB.out | apply zab | apply zad | apply zae) | exact HB.out))) : w.heap.size ≤ gb107)); clear HB; have HB := n0_; have BK107 := n1_; have GW107 := n2_; have GE107 := n3_; clear n0_ n1_ n2_ n3_; clear hb hbox hg; have hcz3_0 : w2.cell? ⟨gb107, 0, none⟩ = some (.slice A0_0 l0_0.length c0_0) := (zac BK107.out 0).trans rfl; have hcz3_1 : w2.cell? ⟨gb107, 1, none⟩ = some (.int .i64 a0_1) := (zac BK107.out 1).trans rfl; have hcz3_2 : w2.cell? ⟨gb107, 2, none⟩ = some (.int .i64 a0_2) := (zac BK107.out 2).trans rfl; have hcz3_3 : w2.cell? ⟨gb107, 3, none⟩ = some (.int .i64 a0_3) := (zac BK107.out 3).trans rfl; have hcz3_4 : w2.cell? ⟨gb107, 4, none⟩ = some (.int .i64 a0_4) := (zac BK107.out 4).trans rfl; have hfz3_0 := zaa BK107.out 0; have hfz3_1 := zaa BK107.out 1; have hfz3_2 := zaa BK107.out 2; have hfz3_3 := zaa BK107.out 3; have hfz3_4 := zaa BK107.out 4))
 go_loopg [10] k (fun kq v10 w' => ∃ (x10_1 : Int), v10 = .int .i64 x10_1 ∧ Aside0 (query_may.l0 kq (l0_0.length : Int) (l0_0.length : Int) x10_1 l0_0 a0_1 a0_2 a0_3 a0_4 = some r) ∧ Aside0 (kq ≤ k) ∧ Aside0 (w'.heap[gb107]? = some (.cells #[(.slice A0_0 l0_0.length c0_0), .int .i64 a0_1, .int .i64 a0_2, .int .i64 a0_3, .int .i64 a0_4] 24 (0, 0))) ∧ Aside0 (Below w.heap.size w w'))
 case atStart => exact ⟨(0), (by first | rfl | (simp; done) | (simp [*]; done)), H', ⟨Nat.le_refl _⟩, ⟨by (with_reducible repeat (first | refine zai ?_ _ | refine zal ?_ | refine zag ?_ _)); exact BK107.out⟩, ⟨by repeat (first | (with_reducible first | exact HB.out | apply zab | apply zad | apply zae | refine zaf ?_ GE107.out) | exact HB.out)⟩⟩
 case round =>
  clear H'
  try clear c2
  try clear p2
  try clear hcz3_0
  try clear hcz3_1
  try clear hcz3_2
  try clear hcz3_3
  try clear hcz3_4
  try clear hfz3_0
  try clear hfz3_1
  try clear hfz3_2
  try clear hfz3_3
  try clear hfz3_4
  obtain ⟨x10_1, rfl, HA, HK1, BK107, HB⟩ := hrel
  cases gk with
  | zero => exact absurd HA.out (by simp [query_may.l0])
  | succ k1 =>
   have H := HA.out
   clear HA
   simp only [query_may.l0] at H
   by_cases c4 : x10_1 < (l0_0.length : Int)
   ·rw [if_pos c4] at H
    have c4b0 : decide (x10_1 < (l0_0.length : Int)) = true := decide_eq_true c4
    clear c4
    by_cases c5 : 0 ≤ x10_1
    ·rw [if_pos c5] at H
     have c5b0 : decide (0 ≤ x10_1) = true := decide_eq_true c5
     clear c5
     by_cases c6 : x10_1 < (l0_0.length : Int)
     ·rw [if_pos c6] at H
      have c6b0 : decide (x10_1 < (l0_0.length : Int)) = true := decide_eq_true c6
      clear c6
      replace H := Option.bind_eq_some_iff.mp H
      obtain ⟨t109, A70, H⟩ := H
      replace H : (if t109 = true then (query_may.l0 k1 (l0_0.length : Int) (l0_0.length : Int) (wrap64 (x10_1 + 1)) l0_0 a0_1 a0_2 a0_3 a0_4) else (some false)) = some r := H
      have A7 := Aside0.mk A70
      clear A70
      by_cases c8 : t109 = true
      ·subst c8
       have H1 : (query_may.l0 k1 (l0_0.length : Int) (l0_0.length : Int) (wrap64 (x10_1 + 1)) l0_0 a0_1 a0_2 a0_3 a0_4) = some r := by rw [if_pos rfl] at H; exact H
       clear H
       have H := H1
       clear H1
       have H' := Aside0.mk H
       clear H
       have hcz9_0 : wr.cell? ⟨gb107, 0, none⟩ = some (.slice A0_0 l0_0.length c0_0) := (zac BK107.out 0).trans rfl
       have hcz9_1 : wr.cell? ⟨gb107, 1, none⟩ = some (.int .i64 a0_1) := (zac BK107.out 1).trans rfl
       have hcz9_2 : wr.cell? ⟨gb107, 2, none⟩ = some (.int .i64 a0_2) := (zac BK107.out 2).trans rfl
       have hcz9_3 : wr.cell? ⟨gb107, 3, none⟩ = some (.int .i64 a0_3) := (zac BK107.out 3).trans rfl
       have hcz9_4 : wr.cell? ⟨gb107, 4, none⟩ = some (.int .i64 a0_4) := (zac BK107.out 4).trans rfl
       have hfz9_0 := zaa BK107.out 0
       have hfz9_1 := zaa BK107.out 1
       have hfz9_2 := zaa BK107.out 2
       have hfz9_3 := zaa BK107.out 3
       have hfz9_4 := zaa BK107.out 4
       have p108 : 0 ≤ (x10_1 : Int) := of_decide_eq_true (by first | (with_reducible assumption) | assumption)
       have q108 : x10_1 < (l0_0.length : Int) := of_decide_eq_true (by first | (with_reducible assumption) | assumption)
       obtain ⟨ad108, A108_1, c108_1, A108_6, c108_6, e108, hx108_0, hx108_1, hx108_2, hx108_3, hx108_4, hx108_5, hx108_6, hl108_1, hi108_1, hl108_6, hi108_6⟩ := zbi HR0_0.out x10_1 p108 q108
       cases e108
       replace hx108_0 := (HB.out.cell (World.block_lt_of_cell? w _ hx108_0)).trans hx108_0
       replace hx108_1 := (HB.out.cell (World.block_lt_of_cell? w _ hx108_1)).trans hx108_1
       replace hx108_2 := (HB.out.cell (World.block_lt_of_cell? w _ hx108_2)).trans hx108_2
       replace hx108_3 := (HB.out.cell (World.block_lt_of_cell? w _ hx108_3)).trans hx108_3
       replace hx108_4 := (HB.out.cell (World.block_lt_of_cell? w _ hx108_4)).trans hx108_4
       replace hx108_5 := (HB.out.cell (World.block_lt_of_cell? w _ hx108_5)).trans hx108_5
       replace hx108_6 := (HB.out.cell (World.block_lt_of_cell? w _ hx108_6)).trans hx108_6
       have HR108_1 := Aside0.mk hi108_1
       have HC108_1 := Aside0.mk hl108_1
       clear hi108_1 hl108_1
       have HR108_6 := Aside0.mk hi108_6
       have HC108_6 := Aside0.mk hl108_6
       clear hi108_6 hl108_6
       replace p108 := eq_true p108
       replace q108 := eq_true q108
       go_wp2_with (first | ((with_reducible refine zap (f := 38) rfl ?_); refine zau (some 24) rfl rfl Try.func38 (by kernel_rfl) rfl #[.agg #[.string ((zaj l0_0 x10_1).f0), .slice A108_1 ((zaj l0_0 x10_1).f1).length c108_1, .int .i64 ((zaj l0_0 x10_1).f2), .int .i64 ((zaj l0_0 x10_1).f3), .bool ((zaj l0_0 x10_1).f4), .string ((zaj l0_0 x10_1).f5), .slice A108_6 ((zaj l0_0 x10_1).f6).length c108_6], .bool (x10_1 == 0), .bool (x10_1 == (wrap64 ((l0_0.length : Int) - 1)))] rfl (by (try simp only [List.map_toArray, List.map_cons, List.map_nil]); first | done | rfl | (simp only [List.length_drop, List.length_take]; rfl)) ?_; (with_reducible refine (query_step.calls k1 ((zaj l0_0 x10_1).f0) _ _ ((zaj l0_0 x10_1).f1) ((zaj l0_0 x10_1).f2) ((zaj l0_0 x10_1).f3) ((zaj l0_0 x10_1).f4) ((zaj l0_0 x10_1).f5) _ _ ((zaj l0_0 x10_1).f6) (x10_1 == 0) (x10_1 == (wrap64 ((l0_0.length : Int) - 1))) true _ ?side1 ?side2 ?side3 ?side4 A7.out).mono ?_); (case side1 => repeat (first | exact (Kd.C_below HR108_1.out HB.out) | (with_reducible refine Kd.C_alloc ?_ _) | (with_reducible refine Kd.C_drewN ?_ _) | (with_reducible refine Kd.C_drew ?_))); (case side2 => exact HC108_1.out); (case side3 => repeat (first | exact (Kd.C_below HR108_6.out HB.out) | (with_reducible refine Kd.C_alloc ?_ _) | (with_reducible refine Kd.C_drewN ?_ _) | (with_reducible refine Kd.C_drew ?_))); (case side4 => exact HC108_6.out); rintro e w10 ⟨rfl, hb⟩; refine ⟨_, rfl, ?_⟩; have n0_ := Aside0.mk (zak (g := gb107) (o := .cells #[.slice (some ad108) l0_0.length c0_0, .int .i64 a0_1, .int .i64 a0_2, .int .i64 a0_3, .int .i64 a0_4] 24 (0, 0)) (by (with_reducible repeat (first | refine zai ?_ _ | refine zal ?_ | refine zag ?_ _)); exact BK107.out) hb); have n1_ := Aside0.mk (zah (by repeat (first | (with_reducible first | exact HB.out | apply zab | apply zad | apply zae | refine zaf ?_ GE107.out) | exact HB.out)) hb); clear BK107; clear HB; have BK107 := n0_; have HB := n1_; clear n0_ n1_; (try clear hb); (try clear hb2); (try clear hk); (try clear hi)))
       go_roundg k1
       case measure => have := HK1.out; omega
       case rel => exact ⟨(wrap64 (x10_1 + 1)), (by first | rfl | (simp; done) | (simp [*]; done)), H', ⟨by have := HK1.out; omega⟩, ⟨by (with_reducible repeat (first | refine zai ?_ _ | refine zal ?_ | refine zag ?_ _)); exact BK107.out⟩, ⟨by repeat (first | (with_reducible first | exact HB.out | apply zab | apply zad | apply zae | refine zaf ?_ GE107.out) | exact HB.out)⟩⟩
      ·replace c8 := Bool.eq_false_iff.mpr c8
       subst c8
       have H1 : (some false) = some r := by rw [if_neg (show ¬ (false = true) by decide)] at H; exact H
       clear H
       have H := H1
       clear H1
       obtain rfl := Option.some.inj H
       have hcz11_0 : wr.cell? ⟨gb107, 0, none⟩ = some (.slice A0_0 l0_0.length c0_0) := (zac BK107.out 0).trans rfl
       have hcz11_1 : wr.cell? ⟨gb107, 1, none⟩ = some (.int .i64 a0_1) := (zac BK107.out 1).trans rfl
       have hcz11_2 : wr.cell? ⟨gb107, 2, none⟩ = some (.int .i64 a0_2) := (zac BK107.out 2).trans rfl
       have hcz11_3 : wr.cell? ⟨gb107, 3, none⟩ = some (.int .i64 a0_3) := (zac BK107.out 3).trans rfl
       have hcz11_4 : wr.cell? ⟨gb107, 4, none⟩ = some (.int .i64 a0_4) := (zac BK107.out 4).trans rfl
       have hfz11_0 := zaa BK107.out 0
       have hfz11_1 := zaa BK107.out 1
       have hfz11_2 := zaa BK107.out 2
       have hfz11_3 := zaa BK107.out 3
       have hfz11_4 := zaa BK107.out 4
       have p108 : 0 ≤ (x10_1 : Int) := of_decide_eq_true (by first | (with_reducible assumption) | assumption)
       have q108 : x10_1 < (l0_0.length : Int) := of_decide_eq_true (by first | (with_reducible assumption) | assumption)
       obtain ⟨ad108, A108_1, c108_1, A108_6, c108_6, e108, hx108_0, hx108_1, hx108_2, hx108_3, hx108_4, hx108_5, hx108_6, hl108_1, hi108_1, hl108_6, hi108_6⟩ := zbi HR0_0.out x10_1 p108 q108
       cases e108
       replace hx108_0 := (HB.out.cell (World.block_lt_of_cell? w _ hx108_0)).trans hx108_0
       replace hx108_1 := (HB.out.cell (World.block_lt_of_cell? w _ hx108_1)).trans hx108_1
       replace hx108_2 := (HB.out.cell (World.block_lt_of_cell? w _ hx108_2)).trans hx108_2
       replace hx108_3 := (HB.out.cell (World.block_lt_of_cell? w _ hx108_3)).trans hx108_3
       replace hx108_4 := (HB.out.cell (World.block_lt_of_cell? w _ hx108_4)).trans hx108_4
       replace hx108_5 := (HB.out.cell (World.block_lt_of_cell? w _ hx108_5)).trans hx108_5
       replace hx108_6 := (HB.out.cell (World.block_lt_of_cell? w _ hx108_6)).trans hx108_6
       have HR108_1 := Aside0.mk hi108_1
       have HC108_1 := Aside0.mk hl108_1
       clear hi108_1 hl108_1
       have HR108_6 := Aside0.mk hi108_6
       have HC108_6 := Aside0.mk hl108_6
       clear hi108_6 hl108_6
       replace p108 := eq_true p108
       replace q108 := eq_true q108
       go_wp2_with (first | ((with_reducible refine zap (f := 38) rfl ?_); refine zau (some 24) rfl rfl Try.func38 (by kernel_rfl) rfl #[.agg #[.string ((zaj l0_0 x10_1).f0), .slice A108_1 ((zaj l0_0 x10_1).f1).length c108_1, .int .i64 ((zaj l0_0 x10_1).f2), .int .i64 ((zaj l0_0 x10_1).f3), .bool ((zaj l0_0 x10_1).f4), .string ((zaj l0_0 x10_1).f5), .slice A108_6 ((zaj l0_0 x10_1).f6).length c108_6], .bool (x10_1 == 0), .bool (x10_1 == (wrap64 ((l0_0.length : Int) - 1)))] rfl (by (try simp only [List.map_toArray, List.map_cons, List.map_nil]); first | done | rfl | (simp only [List.length_drop, List.length_take]; rfl)) ?_; (with_reducible refine (query_step.calls k1 ((zaj l0_0 x10_1).f0) _ _ ((zaj l0_0 x10_1).f1) ((zaj l0_0 x10_1).f2) ((zaj l0_0 x10_1).f3) ((zaj l0_0 x10_1).f4) ((zaj l0_0 x10_1).f5) _ _ ((zaj l0_0 x10_1).f6) (x10_1 == 0) (x10_1 == (wrap64 ((l0_0.length : Int) - 1))) false _ ?side1 ?side2 ?side3 ?side4 A7.out).mono ?_); (case side1 => repeat (first | exact (Kd.C_below HR108_1.out HB.out) | (with_reducible refine Kd.C_alloc ?_ _) | (with_reducible refine Kd.C_drewN ?_ _) | (with_reducible refine Kd.C_drew ?_))); (case side2 => exact HC108_1.out); (case side3 => repeat (first | exact (Kd.C_below HR108_6.out HB.out) | (with_reducible refine Kd.C_alloc ?_ _) | (with_reducible refine Kd.C_drewN ?_ _) | (with_reducible refine Kd.C_drew ?_))); (case side4 => exact HC108_6.out); rintro e w12 ⟨rfl, hb⟩; refine ⟨_, rfl, ?_⟩; have n0_ := Aside0.mk (zak (g := gb107) (o := .cells #[.slice (some ad108) l0_0.length c0_0, .int .i64 a0_1, .int .i64 a0_2, .int .i64 a0_3, .int .i64 a0_4] 24 (0, 0)) (by (with_reducible repeat (first | refine zai ?_ _ | refine zal ?_ | refine zag ?_ _)); exact BK107.out) hb); have n1_ := Aside0.mk (zah (by repeat (first | (with_reducible first | exact HB.out | apply zab | apply zad | apply zae | refine zaf ?_ GE107.out) | exact HB.out)) hb); clear BK107; clear HB; have BK107 := n0_; have HB := n1_; clear n0_ n1_; (try clear hb); (try clear hb2); (try clear hk); (try clear hi)))
       go_ret
       exact ⟨by first | rfl | (simp [zan, zam] <;> rfl) | (simp [*, zan, zam] <;> rfl), by repeat (first | (with_reducible first | exact HB.out | apply zab | apply zad | apply zae | refine zaf ?_ GE107.out) | exact HB.out)⟩
     ·rw [if_neg c6] at H
      exact absurd H (by simp)
    ·rw [if_neg c5] at H
     exact absurd H (by simp)
   ·rw [if_neg c4] at H
    have c4b0 : decide (x10_1 < (l0_0.length : Int)) = false := decide_eq_false c4
    clear c4
    replace H := Option.bind_eq_some_iff.mp H
    obtain ⟨t110, A130, H⟩ := H
    replace H : (if t110 = true then ((query_in.f a0_3 0 (wrap64 ((l0_0.length : Int) - 1))).bind fun t111 => (if t111 = true then ((query_in.f a0_4 0 5).bind fun t112 => (if t112 = true then (if a0_2 = 0 then ((query_in.f (l0_0.length : Int) 1 4).bind fun t113 => (if t113 = true then ((query_in.f a0_1 0 1125899906842624).bind fun t114 => (if t114 = true then (some (a0_4 == 0)) else (some false))) else (some false))) else ((query_in.f (l0_0.length : Int) 1 4).bind fun t115 => (if t115 = true then ((query_in.f a0_1 0 1125899906842624).bind fun t116 => (if t116 = true then (some true) else (some false))) else (some false)))) else ((query_in.f (l0_0.length : Int) 1 4).bind fun t117 => (if t117 = true then ((query_in.f a0_1 0 1125899906842624).bind fun t118 => (if t118 = true then (some false) else (some false))) else (some false))))) else ((query_in.f (l0_0.length : Int) 1 4).bind fun t119 => (if t119 = true then ((query_in.f a0_1 0 1125899906842624).bind fun t120 => (if t120 = true then (some false) else (some false))) else (some false))))) else ((query_in.f (l0_0.length : Int) 1 4).bind fun t121 => (if t121 = true then ((query_in.f a0_1 0 1125899906842624).bind fun t122 => (if t122 = true then (some false) else (some false))) else (some false)))) = some r := H
    have A13 := Aside0.mk A130
    clear A130
    by_cases c14 : t110 = true
    ·subst c14
     have H1 : ((query_in.f a0_3 0 (wrap64 ((l0_0.length : Int) - 1))).bind fun t111 => (if t111 = true then ((query_in.f a0_4 0 5).bind fun t112 => (if t112 = true then (if a0_2 = 0 then ((query_in.f (l0_0.length : Int) 1 4).bind fun t113 => (if t113 = true then ((query_in.f a0_1 0 1125899906842624).bind fun t114 => (if t114 = true then (some (a0_4 == 0)) else (some false))) else (some false))) else ((query_in.f (l0_0.length : Int) 1 4).bind fun t115 => (if t115 = true then ((query_in.f a0_1 0 1125899906842624).bind fun t116 => (if t116 = true then (some true) else (some false))) else (some false)))) else ((query_in.f (l0_0.length : Int) 1 4).bind fun t117 => (if t117 = true then ((query_in.f a0_1 0 1125899906842624).bind fun t118 => (if t118 = true then (some false) else (some false))) else (some false))))) else ((query_in.f (l0_0.length : Int) 1 4).bind fun t119 => (if t119 = true then ((query_in.f a0_1 0 1125899906842624).bind fun t120 => (if t120 = true then (some false) else (some false))) else (some false))))) = some r := by rw [if_pos rfl] at H; exact H
     clear H
     have H := H1
     clear H1
     replace H := Option.bind_eq_some_iff.mp H
     obtain ⟨t111, A150, H⟩ := H
     replace H : (if t111 = true then ((query_in.f a0_4 0 5).bind fun t112 => (if t112 = true then (if a0_2 = 0 then ((query_in.f (l0_0.length : Int) 1 4).bind fun t113 => (if t113 = true then ((query_in.f a0_1 0 1125899906842624).bind fun t114 => (if t114 = true then (some (a0_4 == 0)) else (some false))) else (some false))) else ((query_in.f (l0_0.length : Int) 1 4).bind fun t115 => (if t115 = true then ((query_in.f a0_1 0 1125899906842624).bind fun t116 => (if t116 = true then (some true) else (some false))) else (some false)))) else ((query_in.f (l0_0.length : Int) 1 4).bind fun t117 => (if t117 = true then ((query_in.f a0_1 0 1125899906842624).bind fun t118 => (if t118 = true then (some false) else (some false))) else (some false))))) else ((query_in.f (l0_0.length : Int) 1 4).bind fun t119 => (if t119 = true then ((query_in.f a0_1 0 1125899906842624).bind fun t120 => (if t120 = true then (some false) else (some false))) else (some false)))) = some r := H
     have A15 := Aside0.mk A150
     clear A150
     by_cases c16 : t111 = true
     ·subst c16
      have H1 : ((query_in.f a0_4 0 5).bind fun t112 => (if t112 = true then (if a0_2 = 0 then ((query_in.f (l0_0.length : Int) 1 4).bind fun t113 => (if t113 = true then ((query_in.f a0_1 0 1125899906842624).bind fun t114 => (if t114 = true then (some (a0_4 == 0)) else (some false))) else (some false))) else ((query_in.f (l0_0.length : Int) 1 4).bind fun t115 => (if t115 = true then ((query_in.f a0_1 0 1125899906842624).bind fun t116 => (if t116 = true then (some true) else (some false))) else (some false)))) else ((query_in.f (l0_0.length : Int) 1 4).bind fun t117 => (if t117 = true then ((query_in.f a0_1 0 1125899906842624).bind fun t118 => (if t118 = true then (some false) else (some false))) else (some false))))) = some r := by rw [if_pos rfl] at H; exact H
      clear H
      have H := H1
      clear H1
      replace H := Option.bind_eq_some_iff.mp H
      obtain ⟨t112, A170, H⟩ := H
      replace H : (if t112 = true then (if a0_2 = 0 then ((query_in.f (l0_0.length : Int) 1 4).bind fun t113 => (if t113 = true then ((query_in.f a0_1 0 1125899906842624).bind fun t114 => (if t114 = true then (some (a0_4 == 0)) else (some false))) else (some false))) else ((query_in.f (l0_0.length : Int) 1 4).bind fun t115 => (if t115 = true then ((query_in.f a0_1 0 1125899906842624).bind fun t116 => (if t116 = true then (some true) else (some false))) else (some false)))) else ((query_in.f (l0_0.length : Int) 1 4).bind fun t117 => (if t117 = true then ((query_in.f a0_1 0 1125899906842624).bind fun t118 => (if t118 = true then (some false) else (some false))) else (some false)))) = some r := H
      have A17 := Aside0.mk A170
      clear A170
      by_cases c18 : t112 = true
      ·subst c18
       have H1 : (if a0_2 = 0 then ((query_in.f (l0_0.length : Int) 1 4).bind fun t113 => (if t113 = true then ((query_in.f a0_1 0 1125899906842624).bind fun t114 => (if t114 = true then (some (a0_4 == 0)) else (some false))) else (some false))) else ((query_in.f (l0_0.length : Int) 1 4).bind fun t115 => (if t115 = true then ((query_in.f a0_1 0 1125899906842624).bind fun t116 => (if t116 = true then (some true) else (some false))) else (some false)))) = some r := by rw [if_pos rfl] at H; exact H
       clear H
       have H := H1
       clear H1
       by_cases c19 : a0_2 = 0
       ·rw [if_pos c19] at H
        have c19b0 : (a0_2 == 0) = true := beq_iff_eq.mpr c19
        have c19b1 : (a0_2 != 0) = false := bne_eq_false_iff_eq.mpr c19
        clear c19
        replace H := Option.bind_eq_some_iff.mp H
        obtain ⟨t113, A200, H⟩ := H
        replace H : (if t113 = true then ((query_in.f a0_1 0 1125899906842624).bind fun t114 => (if t114 = true then (some (a0_4 == 0)) else (some false))) else (some false)) = some r := H
        have A20 := Aside0.mk A200
        clear A200
        by_cases c21 : t113 = true
        ·subst c21
         have H1 : ((query_in.f a0_1 0 1125899906842624).bind fun t114 => (if t114 = true then (some (a0_4 == 0)) else (some false))) = some r := by rw [if_pos rfl] at H; exact H
         clear H
         have H := H1
         clear H1
         replace H := Option.bind_eq_some_iff.mp H
         obtain ⟨t114, A220, H⟩ := H
         replace H : (if t114 = true then (some (a0_4 == 0)) else (some false)) = some r := H
         have A22 := Aside0.mk A220
         clear A220
         by_cases c23 : t114 = true
         ·subst c23
          have H1 : (some (a0_4 == 0)) = some r := by rw [if_pos rfl] at H; exact H
          clear H
          have H := H1
          clear H1
          obtain rfl := Option.some.inj H
          have hcz24_0 : wr.cell? ⟨gb107, 0, none⟩ = some (.slice A0_0 l0_0.length c0_0) := (zac BK107.out 0).trans rfl
          have hcz24_1 : wr.cell? ⟨gb107, 1, none⟩ = some (.int .i64 a0_1) := (zac BK107.out 1).trans rfl
          have hcz24_2 : wr.cell? ⟨gb107, 2, none⟩ = some (.int .i64 a0_2) := (zac BK107.out 2).trans rfl
          have hcz24_3 : wr.cell? ⟨gb107, 3, none⟩ = some (.int .i64 a0_3) := (zac BK107.out 3).trans rfl
          have hcz24_4 : wr.cell? ⟨gb107, 4, none⟩ = some (.int .i64 a0_4) := (zac BK107.out 4).trans rfl
          have hfz24_0 := zaa BK107.out 0
          have hfz24_1 := zaa BK107.out 1
          have hfz24_2 := zaa BK107.out 2
          have hfz24_3 := zaa BK107.out 3
          have hfz24_4 := zaa BK107.out 4
          go_wp2_with (first | ((with_reducible refine zap (f := 39) rfl ?_); refine zau (some 29) rfl rfl Try.func39 (by kernel_rfl) rfl #[.int .i64 a0_2, .int .i64 0, .int .i64 3] rfl (by (try simp only [List.map_toArray, List.map_cons, List.map_nil]); first | done | rfl | (simp only [List.length_drop, List.length_take]; rfl)) ?_; (with_reducible refine (query_in.calls a0_2 0 3 true _ A13.out).mono ?_); rintro e w' ⟨rfl, ⟨nd, rfl⟩⟩; refine ⟨_, rfl, ?_⟩) | (go_at_call 39; (with_reducible refine (query_in.calls a0_3 0 (wrap64 ((l0_0.length : Int) - 1)) true _ A15.out).mono ?_); rintro e w' ⟨rfl, ⟨nd, rfl⟩⟩) | (go_at_call 39; (with_reducible refine (query_in.calls a0_4 0 5 true _ A17.out).mono ?_); rintro e w' ⟨rfl, ⟨nd, rfl⟩⟩) | ((with_reducible refine zap (f := 39) rfl ?_); refine zau (some 53) rfl rfl Try.func39 (by kernel_rfl) rfl #[.int .i64 (l0_0.length : Int), .int .i64 1, .int .i64 4] rfl (by (try simp only [List.map_toArray, List.map_cons, List.map_nil]); first | done | rfl | (simp only [List.length_drop, List.length_take]; rfl)) ?_; (with_reducible refine (query_in.calls (l0_0.length : Int) 1 4 true _ A20.out).mono ?_); rintro e w' ⟨rfl, ⟨nd, rfl⟩⟩; refine ⟨_, rfl, ?_⟩) | (go_at_call 39; (with_reducible refine (query_in.calls a0_1 0 1125899906842624 true _ A22.out).mono ?_); rintro e w' ⟨rfl, ⟨nd, rfl⟩⟩))
          go_ret
          exact ⟨by first | rfl | (simp [zan, zam] <;> rfl) | (simp [*, zan, zam] <;> rfl), by repeat (first | (with_reducible first | exact HB.out | apply zab | apply zad | apply zae | refine zaf ?_ GE107.out) | exact HB.out)⟩
         ·replace c23 := Bool.eq_false_iff.mpr c23
          subst c23
          have H1 : (some false) = some r := by rw [if_neg (show ¬ (false = true) by decide)] at H; exact H
          clear H
          have H := H1
          clear H1
          obtain rfl := Option.some.inj H
          have hcz25_0 : wr.cell? ⟨gb107, 0, none⟩ = some (.slice A0_0 l0_0.length c0_0) := (zac BK107.out 0).trans rfl
          have hcz25_1 : wr.cell? ⟨gb107, 1, none⟩ = some (.int .i64 a0_1) := (zac BK107.out 1).trans rfl
          have hcz25_2 : wr.cell? ⟨gb107, 2, none⟩ = some (.int .i64 a0_2) := (zac BK107.out 2).trans rfl
          have hcz25_3 : wr.cell? ⟨gb107, 3, none⟩ = some (.int .i64 a0_3) := (zac BK107.out 3).trans rfl
          have hcz25_4 : wr.cell? ⟨gb107, 4, none⟩ = some (.int .i64 a0_4) := (zac BK107.out 4).trans rfl
          have hfz25_0 := zaa BK107.out 0
          have hfz25_1 := zaa BK107.out 1
          have hfz25_2 := zaa BK107.out 2
          have hfz25_3 := zaa BK107.out 3
          have hfz25_4 := zaa BK107.out 4
          go_wp2_with (first | ((with_reducible refine zap (f := 39) rfl ?_); refine zau (some 29) rfl rfl Try.func39 (by kernel_rfl) rfl #[.int .i64 a0_2, .int .i64 0, .int .i64 3] rfl (by (try simp only [List.map_toArray, List.map_cons, List.map_nil]); first | done | rfl | (simp only [List.length_drop, List.length_take]; rfl)) ?_; (with_reducible refine (query_in.calls a0_2 0 3 true _ A13.out).mono ?_); rintro e w' ⟨rfl, ⟨nd, rfl⟩⟩; refine ⟨_, rfl, ?_⟩) | (go_at_call 39; (with_reducible refine (query_in.calls a0_3 0 (wrap64 ((l0_0.length : Int) - 1)) true _ A15.out).mono ?_); rintro e w' ⟨rfl, ⟨nd, rfl⟩⟩) | (go_at_call 39; (with_reducible refine (query_in.calls a0_4 0 5 true _ A17.out).mono ?_); rintro e w' ⟨rfl, ⟨nd, rfl⟩⟩) | ((with_reducible refine zap (f := 39) rfl ?_); refine zau (some 53) rfl rfl Try.func39 (by kernel_rfl) rfl #[.int .i64 (l0_0.length : Int), .int .i64 1, .int .i64 4] rfl (by (try simp only [List.map_toArray, List.map_cons, List.map_nil]); first | done | rfl | (simp only [List.length_drop, List.length_take]; rfl)) ?_; (with_reducible refine (query_in.calls (l0_0.length : Int) 1 4 true _ A20.out).mono ?_); rintro e w' ⟨rfl, ⟨nd, rfl⟩⟩; refine ⟨_, rfl, ?_⟩) | (go_at_call 39; (with_reducible refine (query_in.calls a0_1 0 1125899906842624 false _ A22.out).mono ?_); rintro e w' ⟨rfl, ⟨nd, rfl⟩⟩))
          go_ret
          exact ⟨by first | rfl | (simp [zan, zam] <;> rfl) | (simp [*, zan, zam] <;> rfl), by repeat (first | (with_reducible first | exact HB.out | apply zab | apply zad | apply zae | refine zaf ?_ GE107.out) | exact HB.out)⟩
        ·replace c21 := Bool.eq_false_iff.mpr c21
         subst c21
         have H1 : (some false) = some r := by rw [if_neg (show ¬ (false = true) by decide)] at H; exact H
         clear H
         have H := H1
         clear H1
         obtain rfl := Option.some.inj H
         have hcz26_0 : wr.cell? ⟨gb107, 0, none⟩ = some (.slice A0_0 l0_0.length c0_0) := (zac BK107.out 0).trans rfl
         have hcz26_1 : wr.cell? ⟨gb107, 1, none⟩ = some (.int .i64 a0_1) := (zac BK107.out 1).trans rfl
         have hcz26_2 : wr.cell? ⟨gb107, 2, none⟩ = some (.int .i64 a0_2) := (zac BK107.out 2).trans rfl
         have hcz26_3 : wr.cell? ⟨gb107, 3, none⟩ = some (.int .i64 a0_3) := (zac BK107.out 3).trans rfl
         have hcz26_4 : wr.cell? ⟨gb107, 4, none⟩ = some (.int .i64 a0_4) := (zac BK107.out 4).trans rfl
         have hfz26_0 := zaa BK107.out 0
         have hfz26_1 := zaa BK107.out 1
         have hfz26_2 := zaa BK107.out 2
         have hfz26_3 := zaa BK107.out 3
         have hfz26_4 := zaa BK107.out 4
         go_wp2_with (first | ((with_reducible refine zap (f := 39) rfl ?_); refine zau (some 29) rfl rfl Try.func39 (by kernel_rfl) rfl #[.int .i64 a0_2, .int .i64 0, .int .i64 3] rfl (by (try simp only [List.map_toArray, List.map_cons, List.map_nil]); first | done | rfl | (simp only [List.length_drop, List.length_take]; rfl)) ?_; (with_reducible refine (query_in.calls a0_2 0 3 true _ A13.out).mono ?_); rintro e w' ⟨rfl, ⟨nd, rfl⟩⟩; refine ⟨_, rfl, ?_⟩) | (go_at_call 39; (with_reducible refine (query_in.calls a0_3 0 (wrap64 ((l0_0.length : Int) - 1)) true _ A15.out).mono ?_); rintro e w' ⟨rfl, ⟨nd, rfl⟩⟩) | (go_at_call 39; (with_reducible refine (query_in.calls a0_4 0 5 true _ A17.out).mono ?_); rintro e w' ⟨rfl, ⟨nd, rfl⟩⟩) | ((with_reducible refine zap (f := 39) rfl ?_); refine zau (some 53) rfl rfl Try.func39 (by kernel_rfl) rfl #[.int .i64 (l0_0.length : Int), .int .i64 1, .int .i64 4] rfl (by (try simp only [List.map_toArray, List.map_cons, List.map_nil]); first | done | rfl | (simp only [List.length_drop, List.length_take]; rfl)) ?_; (with_reducible refine (query_in.calls (l0_0.length : Int) 1 4 false _ A20.out).mono ?_); rintro e w' ⟨rfl, ⟨nd, rfl⟩⟩; refine ⟨_, rfl, ?_⟩))
         go_ret
         exact ⟨by first | rfl | (simp [zan, zam] <;> rfl) | (simp [*, zan, zam] <;> rfl), by repeat (first | (with_reducible first | exact HB.out | apply zab | apply zad | apply zae | refine zaf ?_ GE107.out) | exact HB.out)⟩
       ·rw [if_neg c19] at H
        have c19b0 : (a0_2 == 0) = false := beq_eq_false_iff_ne.mpr c19
        have c19b1 : (a0_2 != 0) = true := bne_iff_ne.mpr c19
        replace H := Option.bind_eq_some_iff.mp H
        obtain ⟨t115, A270, H⟩ := H
        replace H : (if t115 = true then ((query_in.f a0_1 0 1125899906842624).bind fun t116 => (if t116 = true then (some true) else (some false))) else (some false)) = some r := H
        have A27 := Aside0.mk A270
        clear A270
        by_cases c28 : t115 = true
        ·subst c28
         have H1 : ((query_in.f a0_1 0 1125899906842624).bind fun t116 => (if t116 = true then (some true) else (some false))) = some r := by rw [if_pos rfl] at H; exact H
         clear H
         have H := H1
         clear H1
         replace H := Option.bind_eq_some_iff.mp H
         obtain ⟨t116, A290, H⟩ := H
         replace H : (if t116 = true then (some true) else (some false)) = some r := H
         have A29 := Aside0.mk A290
         clear A290
         by_cases c30 : t116 = true
         ·subst c30
          have H1 : (some true) = some r := by rw [if_pos rfl] at H; exact H
          clear H
          have H := H1
          clear H1
          obtain rfl := Option.some.inj H
          have hcz31_0 : wr.cell? ⟨gb107, 0, none⟩ = some (.slice A0_0 l0_0.length c0_0) := (zac BK107.out 0).trans rfl
          have hcz31_1 : wr.cell? ⟨gb107, 1, none⟩ = some (.int .i64 a0_1) := (zac BK107.out 1).trans rfl
          have hcz31_2 : wr.cell? ⟨gb107, 2, none⟩ = some (.int .i64 a0_2) := (zac BK107.out 2).trans rfl
          have hcz31_3 : wr.cell? ⟨gb107, 3, none⟩ = some (.int .i64 a0_3) := (zac BK107.out 3).trans rfl
          have hcz31_4 : wr.cell? ⟨gb107, 4, none⟩ = some (.int .i64 a0_4) := (zac BK107.out 4).trans rfl
          have hfz31_0 := zaa BK107.out 0
          have hfz31_1 := zaa BK107.out 1
          have hfz31_2 := zaa BK107.out 2
          have hfz31_3 := zaa BK107.out 3
          have hfz31_4 := zaa BK107.out 4
          go_wp2_with (first | ((with_reducible refine zap (f := 39) rfl ?_); refine zau (some 29) rfl rfl Try.func39 (by kernel_rfl) rfl #[.int .i64 a0_2, .int .i64 0, .int .i64 3] rfl (by (try simp only [List.map_toArray, List.map_cons, List.map_nil]); first | done | rfl | (simp only [List.length_drop, List.length_take]; rfl)) ?_; (with_reducible refine (query_in.calls a0_2 0 3 true _ A13.out).mono ?_); rintro e w' ⟨rfl, ⟨nd, rfl⟩⟩; refine ⟨_, rfl, ?_⟩) | (go_at_call 39; (with_reducible refine (query_in.calls a0_3 0 (wrap64 ((l0_0.length : Int) - 1)) true _ A15.out).mono ?_); rintro e w' ⟨rfl, ⟨nd, rfl⟩⟩) | (go_at_call 39; (with_reducible refine (query_in.calls a0_4 0 5 true _ A17.out).mono ?_); rintro e w' ⟨rfl, ⟨nd, rfl⟩⟩) | ((with_reducible refine zap (f := 39) rfl ?_); refine zau (some 53) rfl rfl Try.func39 (by kernel_rfl) rfl #[.int .i64 (l0_0.length : Int), .int .i64 1, .int .i64 4] rfl (by (try simp only [List.map_toArray, List.map_cons, List.map_nil]); first | done | rfl | (simp only [List.length_drop, List.length_take]; rfl)) ?_; (with_reducible refine (query_in.calls (l0_0.length : Int) 1 4 true _ A27.out).mono ?_); rintro e w' ⟨rfl, ⟨nd, rfl⟩⟩; refine ⟨_, rfl, ?_⟩) | (go_at_call 39; (with_reducible refine (query_in.calls a0_1 0 1125899906842624 true _ A29.out).mono ?_); rintro e w' ⟨rfl, ⟨nd, rfl⟩⟩))
          go_ret
          exact ⟨by first | rfl | (simp [zan, zam] <;> rfl) | (simp [*, zan, zam] <;> rfl), by repeat (first | (with_reducible first | exact HB.out | apply zab | apply zad | apply zae | refine zaf ?_ GE107.out) | exact HB.out)⟩
         ·replace c30 := Bool.eq_false_iff.mpr c30
          subst c30
          have H1 : (some false) = some r := by rw [if_neg (show ¬ (false = true) by decide)] at H; exact H
          clear H
          have H := H1
          clear H1
          obtain rfl := Option.some.inj H
          have hcz32_0 : wr.cell? ⟨gb107, 0, none⟩ = some (.slice A0_0 l0_0.length c0_0) := (zac BK107.out 0).trans rfl
          have hcz32_1 : wr.cell? ⟨gb107, 1, none⟩ = some (.int .i64 a0_1) := (zac BK107.out 1).trans rfl
          have hcz32_2 : wr.cell? ⟨gb107, 2, none⟩ = some (.int .i64 a0_2) := (zac BK107.out 2).trans rfl
          have hcz32_3 : wr.cell? ⟨gb107, 3, none⟩ = some (.int .i64 a0_3) := (zac BK107.out 3).trans rfl
          have hcz32_4 : wr.cell? ⟨gb107, 4, none⟩ = some (.int .i64 a0_4) := (zac BK107.out 4).trans rfl
          have hfz32_0 := zaa BK107.out 0
          have hfz32_1 := zaa BK107.out 1
          have hfz32_2 := zaa BK107.out 2
          have hfz32_3 := zaa BK107.out 3
          have hfz32_4 := zaa BK107.out 4
          go_wp2_with (first | ((with_reducible refine zap (f := 39) rfl ?_); refine zau (some 29) rfl rfl Try.func39 (by kernel_rfl) rfl #[.int .i64 a0_2, .int .i64 0, .int .i64 3] rfl (by (try simp only [List.map_toArray, List.map_cons, List.map_nil]); first | done | rfl | (simp only [List.length_drop, List.length_take]; rfl)) ?_; (with_reducible refine (query_in.calls a0_2 0 3 true _ A13.out).mono ?_); rintro e w' ⟨rfl, ⟨nd, rfl⟩⟩; refine ⟨_, rfl, ?_⟩) | (go_at_call 39; (with_reducible refine (query_in.calls a0_3 0 (wrap64 ((l0_0.length : Int) - 1)) true _ A15.out).mono ?_); rintro e w' ⟨rfl, ⟨nd, rfl⟩⟩) | (go_at_call 39; (with_reducible refine (query_in.calls a0_4 0 5 true _ A17.out).mono ?_); rintro e w' ⟨rfl, ⟨nd, rfl⟩⟩) | ((with_reducible refine zap (f := 39) rfl ?_); refine zau (some 53) rfl rfl Try.func39 (by kernel_rfl) rfl #[.int .i64 (l0_0.length : Int), .int .i64 1, .int .i64 4] rfl (by (try simp only [List.map_toArray, List.map_cons, List.map_nil]); first | done | rfl | (simp only [List.length_drop, List.length_take]; rfl)) ?_; (with_reducible refine (query_in.calls (l0_0.length : Int) 1 4 true _ A27.out).mono ?_); rintro e w' ⟨rfl, ⟨nd, rfl⟩⟩; refine ⟨_, rfl, ?_⟩) | (go_at_call 39; (with_reducible refine (query_in.calls a0_1 0 1125899906842624 false _ A29.out).mono ?_); rintro e w' ⟨rfl, ⟨nd, rfl⟩⟩))
          go_ret
          exact ⟨by first | rfl | (simp [zan, zam] <;> rfl) | (simp [*, zan, zam] <;> rfl), by repeat (first | (with_reducible first | exact HB.out | apply zab | apply zad | apply zae | refine zaf ?_ GE107.out) | exact HB.out)⟩
        ·replace c28 := Bool.eq_false_iff.mpr c28
         subst c28
         have H1 : (some false) = some r := by rw [if_neg (show ¬ (false = true) by decide)] at H; exact H
         clear H
         have H := H1
         clear H1
         obtain rfl := Option.some.inj H
         have hcz33_0 : wr.cell? ⟨gb107, 0, none⟩ = some (.slice A0_0 l0_0.length c0_0) := (zac BK107.out 0).trans rfl
         have hcz33_1 : wr.cell? ⟨gb107, 1, none⟩ = some (.int .i64 a0_1) := (zac BK107.out 1).trans rfl
         have hcz33_2 : wr.cell? ⟨gb107, 2, none⟩ = some (.int .i64 a0_2) := (zac BK107.out 2).trans rfl
         have hcz33_3 : wr.cell? ⟨gb107, 3, none⟩ = some (.int .i64 a0_3) := (zac BK107.out 3).trans rfl
         have hcz33_4 : wr.cell? ⟨gb107, 4, none⟩ = some (.int .i64 a0_4) := (zac BK107.out 4).trans rfl
         have hfz33_0 := zaa BK107.out 0
         have hfz33_1 := zaa BK107.out 1
         have hfz33_2 := zaa BK107.out 2
         have hfz33_3 := zaa BK107.out 3
         have hfz33_4 := zaa BK107.out 4
         go_wp2_with (first | ((with_reducible refine zap (f := 39) rfl ?_); refine zau (some 29) rfl rfl Try.func39 (by kernel_rfl) rfl #[.int .i64 a0_2, .int .i64 0, .int .i64 3] rfl (by (try simp only [List.map_toArray, List.map_cons, List.map_nil]); first | done | rfl | (simp only [List.length_drop, List.length_take]; rfl)) ?_; (with_reducible refine (query_in.calls a0_2 0 3 true _ A13.out).mono ?_); rintro e w' ⟨rfl, ⟨nd, rfl⟩⟩; refine ⟨_, rfl, ?_⟩) | (go_at_call 39; (with_reducible refine (query_in.calls a0_3 0 (wrap64 ((l0_0.length : Int) - 1)) true _ A15.out).mono ?_); rintro e w' ⟨rfl, ⟨nd, rfl⟩⟩) | (go_at_call 39; (with_reducible refine (query_in.calls a0_4 0 5 true _ A17.out).mono ?_); rintro e w' ⟨rfl, ⟨nd, rfl⟩⟩) | ((with_reducible refine zap (f := 39) rfl ?_); refine zau (some 53) rfl rfl Try.func39 (by kernel_rfl) rfl #[.int .i64 (l0_0.length : Int), .int .i64 1, .int .i64 4] rfl (by (try simp only [List.map_toArray, List.map_cons, List.map_nil]); first | done | rfl | (simp only [List.length_drop, List.length_take]; rfl)) ?_; (with_reducible refine (query_in.calls (l0_0.length : Int) 1 4 false _ A27.out).mono ?_); rintro e w' ⟨rfl, ⟨nd, rfl⟩⟩; refine ⟨_, rfl, ?_⟩))
         go_ret
         exact ⟨by first | rfl | (simp [zan, zam] <;> rfl) | (simp [*, zan, zam] <;> rfl), by repeat (first | (with_reducible first | exact HB.out | apply zab | apply zad | apply zae | refine zaf ?_ GE107.out) | exact HB.out)⟩
      ·replace c18 := Bool.eq_false_iff.mpr c18
       subst c18
       have H1 : ((query_in.f (l0_0.length : Int) 1 4).bind fun t117 => (if t117 = true then ((query_in.f a0_1 0 1125899906842624).bind fun t118 => (if t118 = true then (some false) else (some false))) else (some false))) = some r := by rw [if_neg (show ¬ (false = true) by decide)] at H; exact H
       clear H
       have H := H1
       clear H1
       replace H := Option.bind_eq_some_iff.mp H
       obtain ⟨t117, A340, H⟩ := H
       replace H : (if t117 = true then ((query_in.f a0_1 0 1125899906842624).bind fun t118 => (if t118 = true then (some false) else (some false))) else (some false)) = some r := H
       have A34 := Aside0.mk A340
       clear A340
       by_cases c35 : t117 = true
       ·subst c35
        have H1 : ((query_in.f a0_1 0 1125899906842624).bind fun t118 => (if t118 = true then (some false) else (some false))) = some r := by rw [if_pos rfl] at H; exact H
        clear H
        have H := H1
        clear H1
        replace H := Option.bind_eq_some_iff.mp H
        obtain ⟨t118, A360, H⟩ := H
        replace H : (if t118 = true then (some false) else (some false)) = some r := H
        have A36 := Aside0.mk A360
        clear A360
        by_cases c37 : t118 = true
        ·subst c37
         have H1 : (some false) = some r := by rw [if_pos rfl] at H; exact H
         clear H
         have H := H1
         clear H1
         obtain rfl := Option.some.inj H
         have hcz38_0 : wr.cell? ⟨gb107, 0, none⟩ = some (.slice A0_0 l0_0.length c0_0) := (zac BK107.out 0).trans rfl
         have hcz38_1 : wr.cell? ⟨gb107, 1, none⟩ = some (.int .i64 a0_1) := (zac BK107.out 1).trans rfl
         have hcz38_2 : wr.cell? ⟨gb107, 2, none⟩ = some (.int .i64 a0_2) := (zac BK107.out 2).trans rfl
         have hcz38_3 : wr.cell? ⟨gb107, 3, none⟩ = some (.int .i64 a0_3) := (zac BK107.out 3).trans rfl
         have hcz38_4 : wr.cell? ⟨gb107, 4, none⟩ = some (.int .i64 a0_4) := (zac BK107.out 4).trans rfl
         have hfz38_0 := zaa BK107.out 0
         have hfz38_1 := zaa BK107.out 1
         have hfz38_2 := zaa BK107.out 2
         have hfz38_3 := zaa BK107.out 3
         have hfz38_4 := zaa BK107.out 4
         go_wp2_with (first | ((with_reducible refine zap (f := 39) rfl ?_); refine zau (some 29) rfl rfl Try.func39 (by kernel_rfl) rfl #[.int .i64 a0_2, .int .i64 0, .int .i64 3] rfl (by (try simp only [List.map_toArray, List.map_cons, List.map_nil]); first | done | rfl | (simp only [List.length_drop, List.length_take]; rfl)) ?_; (with_reducible refine (query_in.calls a0_2 0 3 true _ A13.out).mono ?_); rintro e w' ⟨rfl, ⟨nd, rfl⟩⟩; refine ⟨_, rfl, ?_⟩) | (go_at_call 39; (with_reducible refine (query_in.calls a0_3 0 (wrap64 ((l0_0.length : Int) - 1)) true _ A15.out).mono ?_); rintro e w' ⟨rfl, ⟨nd, rfl⟩⟩) | (go_at_call 39; (with_reducible refine (query_in.calls a0_4 0 5 false _ A17.out).mono ?_); rintro e w' ⟨rfl, ⟨nd, rfl⟩⟩) | ((with_reducible refine zap (f := 39) rfl ?_); refine zau (some 53) rfl rfl Try.func39 (by kernel_rfl) rfl #[.int .i64 (l0_0.length : Int), .int .i64 1, .int .i64 4] rfl (by (try simp only [List.map_toArray, List.map_cons, List.map_nil]); first | done | rfl | (simp only [List.length_drop, List.length_take]; rfl)) ?_; (with_reducible refine (query_in.calls (l0_0.length : Int) 1 4 true _ A34.out).mono ?_); rintro e w' ⟨rfl, ⟨nd, rfl⟩⟩; refine ⟨_, rfl, ?_⟩) | (go_at_call 39; (with_reducible refine (query_in.calls a0_1 0 1125899906842624 true _ A36.out).mono ?_); rintro e w' ⟨rfl, ⟨nd, rfl⟩⟩))
         go_ret
         exact ⟨by first | rfl | (simp [zan, zam] <;> rfl) | (simp [*, zan, zam] <;> rfl), by repeat (first | (with_reducible first | exact HB.out | apply zab | apply zad | apply zae | refine zaf ?_ GE107.out) | exact HB.out)⟩
        ·replace c37 := Bool.eq_false_iff.mpr c37
         subst c37
         have H1 : (some false) = some r := by rw [if_neg (show ¬ (false = true) by decide)] at H; exact H
         clear H
         have H := H1
         clear H1
         obtain rfl := Option.some.inj H
         have hcz39_0 : wr.cell? ⟨gb107, 0, none⟩ = some (.slice A0_0 l0_0.length c0_0) := (zac BK107.out 0).trans rfl
         have hcz39_1 : wr.cell? ⟨gb107, 1, none⟩ = some (.int .i64 a0_1) := (zac BK107.out 1).trans rfl
         have hcz39_2 : wr.cell? ⟨gb107, 2, none⟩ = some (.int .i64 a0_2) := (zac BK107.out 2).trans rfl
         have hcz39_3 : wr.cell? ⟨gb107, 3, none⟩ = some (.int .i64 a0_3) := (zac BK107.out 3).trans rfl
         have hcz39_4 : wr.cell? ⟨gb107, 4, none⟩ = some (.int .i64 a0_4) := (zac BK107.out 4).trans rfl
         have hfz39_0 := zaa BK107.out 0
         have hfz39_1 := zaa BK107.out 1
         have hfz39_2 := zaa BK107.out 2
         have hfz39_3 := zaa BK107.out 3
         have hfz39_4 := zaa BK107.out 4
         go_wp2_with (first | ((with_reducible refine zap (f := 39) rfl ?_); refine zau (some 29) rfl rfl Try.func39 (by kernel_rfl) rfl #[.int .i64 a0_2, .int .i64 0, .int .i64 3] rfl (by (try simp only [List.map_toArray, List.map_cons, List.map_nil]); first | done | rfl | (simp only [List.length_drop, List.length_take]; rfl)) ?_; (with_reducible refine (query_in.calls a0_2 0 3 true _ A13.out).mono ?_); rintro e w' ⟨rfl, ⟨nd, rfl⟩⟩; refine ⟨_, rfl, ?_⟩) | (go_at_call 39; (with_reducible refine (query_in.calls a0_3 0 (wrap64 ((l0_0.length : Int) - 1)) true _ A15.out).mono ?_); rintro e w' ⟨rfl, ⟨nd, rfl⟩⟩) | (go_at_call 39; (with_reducible refine (query_in.calls a0_4 0 5 false _ A17.out).mono ?_); rintro e w' ⟨rfl, ⟨nd, rfl⟩⟩) | ((with_reducible refine zap (f := 39) rfl ?_); refine zau (some 53) rfl rfl Try.func39 (by kernel_rfl) rfl #[.int .i64 (l0_0.length : Int), .int .i64 1, .int .i64 4] rfl (by (try simp only [List.map_toArray, List.map_cons, List.map_nil]); first | done | rfl | (simp only [List.length_drop, List.length_take]; rfl)) ?_; (with_reducible refine (query_in.calls (l0_0.length : Int) 1 4 true _ A34.out).mono ?_); rintro e w' ⟨rfl, ⟨nd, rfl⟩⟩; refine ⟨_, rfl, ?_⟩) | (go_at_call 39; (with_reducible refine (query_in.calls a0_1 0 1125899906842624 false _ A36.out).mono ?_); rintro e w' ⟨rfl, ⟨nd, rfl⟩⟩))
         go_ret
         exact ⟨by first | rfl | (simp [zan, zam] <;> rfl) | (simp [*, zan, zam] <;> rfl), by repeat (first | (with_reducible first | exact HB.out | apply zab | apply zad | apply zae | refine zaf ?_ GE107.out) | exact HB.out)⟩
       ·replace c35 := Bool.eq_false_iff.mpr c35
        subst c35
        have H1 : (some false) = some r := by rw [if_neg (show ¬ (false = true) by decide)] at H; exact H
        clear H
        have H := H1
        clear H1
        obtain rfl := Option.some.inj H
        have hcz40_0 : wr.cell? ⟨gb107, 0, none⟩ = some (.slice A0_0 l0_0.length c0_0) := (zac BK107.out 0).trans rfl
        have hcz40_1 : wr.cell? ⟨gb107, 1, none⟩ = some (.int .i64 a0_1) := (zac BK107.out 1).trans rfl
        have hcz40_2 : wr.cell? ⟨gb107, 2, none⟩ = some (.int .i64 a0_2) := (zac BK107.out 2).trans rfl
        have hcz40_3 : wr.cell? ⟨gb107, 3, none⟩ = some (.int .i64 a0_3) := (zac BK107.out 3).trans rfl
        have hcz40_4 : wr.cell? ⟨gb107, 4, none⟩ = some (.int .i64 a0_4) := (zac BK107.out 4).trans rfl
        have hfz40_0 := zaa BK107.out 0
        have hfz40_1 := zaa BK107.out 1
        have hfz40_2 := zaa BK107.out 2
        have hfz40_3 := zaa BK107.out 3
        have hfz40_4 := zaa BK107.out 4
        go_wp2_with (first | ((with_reducible refine zap (f := 39) rfl ?_); refine zau (some 29) rfl rfl Try.func39 (by kernel_rfl) rfl #[.int .i64 a0_2, .int .i64 0, .int .i64 3] rfl (by (try simp only [List.map_toArray, List.map_cons, List.map_nil]); first | done | rfl | (simp only [List.length_drop, List.length_take]; rfl)) ?_; (with_reducible refine (query_in.calls a0_2 0 3 true _ A13.out).mono ?_); rintro e w' ⟨rfl, ⟨nd, rfl⟩⟩; refine ⟨_, rfl, ?_⟩) | (go_at_call 39; (with_reducible refine (query_in.calls a0_3 0 (wrap64 ((l0_0.length : Int) - 1)) true _ A15.out).mono ?_); rintro e w' ⟨rfl, ⟨nd, rfl⟩⟩) | (go_at_call 39; (with_reducible refine (query_in.calls a0_4 0 5 false _ A17.out).mono ?_); rintro e w' ⟨rfl, ⟨nd, rfl⟩⟩) | ((with_reducible refine zap (f := 39) rfl ?_); refine zau (some 53) rfl rfl Try.func39 (by kernel_rfl) rfl #[.int .i64 (l0_0.length : Int), .int .i64 1, .int .i64 4] rfl (by (try simp only [List.map_toArray, List.map_cons, List.map_nil]); first | done | rfl | (simp only [List.length_drop, List.length_take]; rfl)) ?_; (with_reducible refine (query_in.calls (l0_0.length : Int) 1 4 false _ A34.out).mono ?_); rintro e w' ⟨rfl, ⟨nd, rfl⟩⟩; refine ⟨_, rfl, ?_⟩))
        go_ret
        exact ⟨by first | rfl | (simp [zan, zam] <;> rfl) | (simp [*, zan, zam] <;> rfl), by repeat (first | (with_reducible first | exact HB.out | apply zab | apply zad | apply zae | refine zaf ?_ GE107.out) | exact HB.out)⟩
     ·replace c16 := Bool.eq_false_iff.mpr c16
      subst c16
      have H1 : ((query_in.f (l0_0.length : Int) 1 4).bind fun t119 => (if t119 = true then ((query_in.f a0_1 0 1125899906842624).bind fun t120 => (if t120 = true then (some false) else (some false))) else (some false))) = some r := by rw [if_neg (show ¬ (false = true) by decide)] at H; exact H
      clear H
      have H := H1
      clear H1
      replace H := Option.bind_eq_some_iff.mp H
      obtain ⟨t119, A410, H⟩ := H
      replace H : (if t119 = true then ((query_in.f a0_1 0 1125899906842624).bind fun t120 => (if t120 = true then (some false) else (some false))) else (some false)) = some r := H
      have A41 := Aside0.mk A410
      clear A410
      by_cases c42 : t119 = true
      ·subst c42
       have H1 : ((query_in.f a0_1 0 1125899906842624).bind fun t120 => (if t120 = true then (some false) else (some false))) = some r := by rw [if_pos rfl] at H; exact H
       clear H
       have H := H1
       clear H1
       replace H := Option.bind_eq_some_iff.mp H
       obtain ⟨t120, A430, H⟩ := H
       replace H : (if t120 = true then (some false) else (some false)) = some r := H
       have A43 := Aside0.mk A430
       clear A430
       by_cases c44 : t120 = true
       ·subst c44
        have H1 : (some false) = some r := by rw [if_pos rfl] at H; exact H
        clear H
        have H := H1
        clear H1
        obtain rfl := Option.some.inj H
        have hcz45_0 : wr.cell? ⟨gb107, 0, none⟩ = some (.slice A0_0 l0_0.length c0_0) := (zac BK107.out 0).trans rfl
        have hcz45_1 : wr.cell? ⟨gb107, 1, none⟩ = some (.int .i64 a0_1) := (zac BK107.out 1).trans rfl
        have hcz45_2 : wr.cell? ⟨gb107, 2, none⟩ = some (.int .i64 a0_2) := (zac BK107.out 2).trans rfl
        have hcz45_3 : wr.cell? ⟨gb107, 3, none⟩ = some (.int .i64 a0_3) := (zac BK107.out 3).trans rfl
        have hcz45_4 : wr.cell? ⟨gb107, 4, none⟩ = some (.int .i64 a0_4) := (zac BK107.out 4).trans rfl
        have hfz45_0 := zaa BK107.out 0
        have hfz45_1 := zaa BK107.out 1
        have hfz45_2 := zaa BK107.out 2
        have hfz45_3 := zaa BK107.out 3
        have hfz45_4 := zaa BK107.out 4
        go_wp2_with (first | ((with_reducible refine zap (f := 39) rfl ?_); refine zau (some 29) rfl rfl Try.func39 (by kernel_rfl) rfl #[.int .i64 a0_2, .int .i64 0, .int .i64 3] rfl (by (try simp only [List.map_toArray, List.map_cons, List.map_nil]); first | done | rfl | (simp only [List.length_drop, List.length_take]; rfl)) ?_; (with_reducible refine (query_in.calls a0_2 0 3 true _ A13.out).mono ?_); rintro e w' ⟨rfl, ⟨nd, rfl⟩⟩; refine ⟨_, rfl, ?_⟩) | (go_at_call 39; (with_reducible refine (query_in.calls a0_3 0 (wrap64 ((l0_0.length : Int) - 1)) false _ A15.out).mono ?_); rintro e w' ⟨rfl, ⟨nd, rfl⟩⟩) | ((with_reducible refine zap (f := 39) rfl ?_); refine zau (some 53) rfl rfl Try.func39 (by kernel_rfl) rfl #[.int .i64 (l0_0.length : Int), .int .i64 1, .int .i64 4] rfl (by (try simp only [List.map_toArray, List.map_cons, List.map_nil]); first | done | rfl | (simp only [List.length_drop, List.length_take]; rfl)) ?_; (with_reducible refine (query_in.calls (l0_0.length : Int) 1 4 true _ A41.out).mono ?_); rintro e w' ⟨rfl, ⟨nd, rfl⟩⟩; refine ⟨_, rfl, ?_⟩) | (go_at_call 39; (with_reducible refine (query_in.calls a0_1 0 1125899906842624 true _ A43.out).mono ?_); rintro e w' ⟨rfl, ⟨nd, rfl⟩⟩))
        go_ret
        exact ⟨by first | rfl | (simp [zan, zam] <;> rfl) | (simp [*, zan, zam] <;> rfl), by repeat (first | (with_reducible first | exact HB.out | apply zab | apply zad | apply zae | refine zaf ?_ GE107.out) | exact HB.out)⟩
       ·replace c44 := Bool.eq_false_iff.mpr c44
        subst c44
        have H1 : (some false) = some r := by rw [if_neg (show ¬ (false = true) by decide)] at H; exact H
        clear H
        have H := H1
        clear H1
        obtain rfl := Option.some.inj H
        have hcz46_0 : wr.cell? ⟨gb107, 0, none⟩ = some (.slice A0_0 l0_0.length c0_0) := (zac BK107.out 0).trans rfl
        have hcz46_1 : wr.cell? ⟨gb107, 1, none⟩ = some (.int .i64 a0_1) := (zac BK107.out 1).trans rfl
        have hcz46_2 : wr.cell? ⟨gb107, 2, none⟩ = some (.int .i64 a0_2) := (zac BK107.out 2).trans rfl
        have hcz46_3 : wr.cell? ⟨gb107, 3, none⟩ = some (.int .i64 a0_3) := (zac BK107.out 3).trans rfl
        have hcz46_4 : wr.cell? ⟨gb107, 4, none⟩ = some (.int .i64 a0_4) := (zac BK107.out 4).trans rfl
        have hfz46_0 := zaa BK107.out 0
        have hfz46_1 := zaa BK107.out 1
        have hfz46_2 := zaa BK107.out 2
        have hfz46_3 := zaa BK107.out 3
        have hfz46_4 := zaa BK107.out 4
        go_wp2_with (first | ((with_reducible refine zap (f := 39) rfl ?_); refine zau (some 29) rfl rfl Try.func39 (by kernel_rfl) rfl #[.int .i64 a0_2, .int .i64 0, .int .i64 3] rfl (by (try simp only [List.map_toArray, List.map_cons, List.map_nil]); first | done | rfl | (simp only [List.length_drop, List.length_take]; rfl)) ?_; (with_reducible refine (query_in.calls a0_2 0 3 true _ A13.out).mono ?_); rintro e w' ⟨rfl, ⟨nd, rfl⟩⟩; refine ⟨_, rfl, ?_⟩) | (go_at_call 39; (with_reducible refine (query_in.calls a0_3 0 (wrap64 ((l0_0.length : Int) - 1)) false _ A15.out).mono ?_); rintro e w' ⟨rfl, ⟨nd, rfl⟩⟩) | ((with_reducible refine zap (f := 39) rfl ?_); refine zau (some 53) rfl rfl Try.func39 (by kernel_rfl) rfl #[.int .i64 (l0_0.length : Int), .int .i64 1, .int .i64 4] rfl (by (try simp only [List.map_toArray, List.map_cons, List.map_nil]); first | done | rfl | (simp only [List.length_drop, List.length_take]; rfl)) ?_; (with_reducible refine (query_in.calls (l0_0.length : Int) 1 4 true _ A41.out).mono ?_); rintro e w' ⟨rfl, ⟨nd, rfl⟩⟩; refine ⟨_, rfl, ?_⟩) | (go_at_call 39; (with_reducible refine (query_in.calls a0_1 0 1125899906842624 false _ A43.out).mono ?_); rintro e w' ⟨rfl, ⟨nd, rfl⟩⟩))
        go_ret
        exact ⟨by first | rfl | (simp [zan, zam] <;> rfl) | (simp [*, zan, zam] <;> rfl), by repeat (first | (with_reducible first | exact HB.out | apply zab | apply zad | apply zae | refine zaf ?_ GE107.out) | exact HB.out)⟩
      ·replace c42 := Bool.eq_false_iff.mpr c42
       subst c42
       have H1 : (some false) = some r := by rw [if_neg (show ¬ (false = true) by decide)] at H; exact H
       clear H
       have H := H1
       clear H1
       obtain rfl := Option.some.inj H
       have hcz47_0 : wr.cell? ⟨gb107, 0, none⟩ = some (.slice A0_0 l0_0.length c0_0) := (zac BK107.out 0).trans rfl
       have hcz47_1 : wr.cell? ⟨gb107, 1, none⟩ = some (.int .i64 a0_1) := (zac BK107.out 1).trans rfl
       have hcz47_2 : wr.cell? ⟨gb107, 2, none⟩ = some (.int .i64 a0_2) := (zac BK107.out 2).trans rfl
       have hcz47_3 : wr.cell? ⟨gb107, 3, none⟩ = some (.int .i64 a0_3) := (zac BK107.out 3).trans rfl
       have hcz47_4 : wr.cell? ⟨gb107, 4, none⟩ = some (.int .i64 a0_4) := (zac BK107.out 4).trans rfl
       have hfz47_0 := zaa BK107.out 0
       have hfz47_1 := zaa BK107.out 1
       have hfz47_2 := zaa BK107.out 2
       have hfz47_3 := zaa BK107.out 3
       have hfz47_4 := zaa BK107.out 4
       go_wp2_with (first | ((with_reducible refine zap (f := 39) rfl ?_); refine zau (some 29) rfl rfl Try.func39 (by kernel_rfl) rfl #[.int .i64 a0_2, .int .i64 0, .int .i64 3] rfl (by (try simp only [List.map_toArray, List.map_cons, List.map_nil]); first | done | rfl | (simp only [List.length_drop, List.length_take]; rfl)) ?_; (with_reducible refine (query_in.calls a0_2 0 3 true _ A13.out).mono ?_); rintro e w' ⟨rfl, ⟨nd, rfl⟩⟩; refine ⟨_, rfl, ?_⟩) | (go_at_call 39; (with_reducible refine (query_in.calls a0_3 0 (wrap64 ((l0_0.length : Int) - 1)) false _ A15.out).mono ?_); rintro e w' ⟨rfl, ⟨nd, rfl⟩⟩) | ((with_reducible refine zap (f := 39) rfl ?_); refine zau (some 53) rfl rfl Try.func39 (by kernel_rfl) rfl #[.int .i64 (l0_0.length : Int), .int .i64 1, .int .i64 4] rfl (by (try simp only [List.map_toArray, List.map_cons, List.map_nil]); first | done | rfl | (simp only [List.length_drop, List.length_take]; rfl)) ?_; (with_reducible refine (query_in.calls (l0_0.length : Int) 1 4 false _ A41.out).mono ?_); rintro e w' ⟨rfl, ⟨nd, rfl⟩⟩; refine ⟨_, rfl, ?_⟩))
       go_ret
       exact ⟨by first | rfl | (simp [zan, zam] <;> rfl) | (simp [*, zan, zam] <;> rfl), by repeat (first | (with_reducible first | exact HB.out | apply zab | apply zad | apply zae | refine zaf ?_ GE107.out) | exact HB.out)⟩
    ·replace c14 := Bool.eq_false_iff.mpr c14
     subst c14
     have H1 : ((query_in.f (l0_0.length : Int) 1 4).bind fun t121 => (if t121 = true then ((query_in.f a0_1 0 1125899906842624).bind fun t122 => (if t122 = true then (some false) else (some false))) else (some false))) = some r := by rw [if_neg (show ¬ (false = true) by decide)] at H; exact H
     clear H
     have H := H1
     clear H1
     replace H := Option.bind_eq_some_iff.mp H
     obtain ⟨t121, A480, H⟩ := H
     replace H : (if t121 = true then ((query_in.f a0_1 0 1125899906842624).bind fun t122 => (if t122 = true then (some false) else (some false))) else (some false)) = some r := H
     have A48 := Aside0.mk A480
     clear A480
     by_cases c49 : t121 = true
     ·subst c49
      have H1 : ((query_in.f a0_1 0 1125899906842624).bind fun t122 => (if t122 = true then (some false) else (some false))) = some r := by rw [if_pos rfl] at H; exact H
      clear H
      have H := H1
      clear H1
      replace H := Option.bind_eq_some_iff.mp H
      obtain ⟨t122, A500, H⟩ := H
      replace H : (if t122 = true then (some false) else (some false)) = some r := H
      have A50 := Aside0.mk A500
      clear A500
      by_cases c51 : t122 = true
      ·subst c51
       have H1 : (some false) = some r := by rw [if_pos rfl] at H; exact H
       clear H
       have H := H1
       clear H1
       obtain rfl := Option.some.inj H
       have hcz52_0 : wr.cell? ⟨gb107, 0, none⟩ = some (.slice A0_0 l0_0.length c0_0) := (zac BK107.out 0).trans rfl
       have hcz52_1 : wr.cell? ⟨gb107, 1, none⟩ = some (.int .i64 a0_1) := (zac BK107.out 1).trans rfl
       have hcz52_2 : wr.cell? ⟨gb107, 2, none⟩ = some (.int .i64 a0_2) := (zac BK107.out 2).trans rfl
       have hcz52_3 : wr.cell? ⟨gb107, 3, none⟩ = some (.int .i64 a0_3) := (zac BK107.out 3).trans rfl
       have hcz52_4 : wr.cell? ⟨gb107, 4, none⟩ = some (.int .i64 a0_4) := (zac BK107.out 4).trans rfl
       have hfz52_0 := zaa BK107.out 0
       have hfz52_1 := zaa BK107.out 1
       have hfz52_2 := zaa BK107.out 2
       have hfz52_3 := zaa BK107.out 3
       have hfz52_4 := zaa BK107.out 4
       go_wp2_with (first | ((with_reducible refine zap (f := 39) rfl ?_); refine zau (some 29) rfl rfl Try.func39 (by kernel_rfl) rfl #[.int .i64 a0_2, .int .i64 0, .int .i64 3] rfl (by (try simp only [List.map_toArray, List.map_cons, List.map_nil]); first | done | rfl | (simp only [List.length_drop, List.length_take]; rfl)) ?_; (with_reducible refine (query_in.calls a0_2 0 3 false _ A13.out).mono ?_); rintro e w' ⟨rfl, ⟨nd, rfl⟩⟩; refine ⟨_, rfl, ?_⟩) | ((with_reducible refine zap (f := 39) rfl ?_); refine zau (some 53) rfl rfl Try.func39 (by kernel_rfl) rfl #[.int .i64 (l0_0.length : Int), .int .i64 1, .int .i64 4] rfl (by (try simp only [List.map_toArray, List.map_cons, List.map_nil]); first | done | rfl | (simp only [List.length_drop, List.length_take]; rfl)) ?_; (with_reducible refine (query_in.calls (l0_0.length : Int) 1 4 true _ A48.out).mono ?_); rintro e w' ⟨rfl, ⟨nd, rfl⟩⟩; refine ⟨_, rfl, ?_⟩) | (go_at_call 39; (with_reducible refine (query_in.calls a0_1 0 1125899906842624 true _ A50.out).mono ?_); rintro e w' ⟨rfl, ⟨nd, rfl⟩⟩))
       go_ret
       exact ⟨by first | rfl | (simp [zan, zam] <;> rfl) | (simp [*, zan, zam] <;> rfl), by repeat (first | (with_reducible first | exact HB.out | apply zab | apply zad | apply zae | refine zaf ?_ GE107.out) | exact HB.out)⟩
      ·replace c51 := Bool.eq_false_iff.mpr c51
       subst c51
       have H1 : (some false) = some r := by rw [if_neg (show ¬ (false = true) by decide)] at H; exact H
       clear H
       have H := H1
       clear H1
       obtain rfl := Option.some.inj H
       have hcz53_0 : wr.cell? ⟨gb107, 0, none⟩ = some (.slice A0_0 l0_0.length c0_0) := (zac BK107.out 0).trans rfl
       have hcz53_1 : wr.cell? ⟨gb107, 1, none⟩ = some (.int .i64 a0_1) := (zac BK107.out 1).trans rfl
       have hcz53_2 : wr.cell? ⟨gb107, 2, none⟩ = some (.int .i64 a0_2) := (zac BK107.out 2).trans rfl
       have hcz53_3 : wr.cell? ⟨gb107, 3, none⟩ = some (.int .i64 a0_3) := (zac BK107.out 3).trans rfl
       have hcz53_4 : wr.cell? ⟨gb107, 4, none⟩ = some (.int .i64 a0_4) := (zac BK107.out 4).trans rfl
       have hfz53_0 := zaa BK107.out 0
       have hfz53_1 := zaa BK107.out 1
       have hfz53_2 := zaa BK107.out 2
       have hfz53_3 := zaa BK107.out 3
       have hfz53_4 := zaa BK107.out 4
       go_wp2_with (first | ((with_reducible refine zap (f := 39) rfl ?_); refine zau (some 29) rfl rfl Try.func39 (by kernel_rfl) rfl #[.int .i64 a0_2, .int .i64 0, .int .i64 3] rfl (by (try simp only [List.map_toArray, List.map_cons, List.map_nil]); first | done | rfl | (simp only [List.length_drop, List.length_take]; rfl)) ?_; (with_reducible refine (query_in.calls a0_2 0 3 false _ A13.out).mono ?_); rintro e w' ⟨rfl, ⟨nd, rfl⟩⟩; refine ⟨_, rfl, ?_⟩) | ((with_reducible refine zap (f := 39) rfl ?_); refine zau (some 53) rfl rfl Try.func39 (by kernel_rfl) rfl #[.int .i64 (l0_0.length : Int), .int .i64 1, .int .i64 4] rfl (by (try simp only [List.map_toArray, List.map_cons, List.map_nil]); first | done | rfl | (simp only [List.length_drop, List.length_take]; rfl)) ?_; (with_reducible refine (query_in.calls (l0_0.length : Int) 1 4 true _ A48.out).mono ?_); rintro e w' ⟨rfl, ⟨nd, rfl⟩⟩; refine ⟨_, rfl, ?_⟩) | (go_at_call 39; (with_reducible refine (query_in.calls a0_1 0 1125899906842624 false _ A50.out).mono ?_); rintro e w' ⟨rfl, ⟨nd, rfl⟩⟩))
       go_ret
       exact ⟨by first | rfl | (simp [zan, zam] <;> rfl) | (simp [*, zan, zam] <;> rfl), by repeat (first | (with_reducible first | exact HB.out | apply zab | apply zad | apply zae | refine zaf ?_ GE107.out) | exact HB.out)⟩
     ·replace c49 := Bool.eq_false_iff.mpr c49
      subst c49
      have H1 : (some false) = some r := by rw [if_neg (show ¬ (false = true) by decide)] at H; exact H
      clear H
      have H := H1
      clear H1
      obtain rfl := Option.some.inj H
      have hcz54_0 : wr.cell? ⟨gb107, 0, none⟩ = some (.slice A0_0 l0_0.length c0_0) := (zac BK107.out 0).trans rfl
      have hcz54_1 : wr.cell? ⟨gb107, 1, none⟩ = some (.int .i64 a0_1) := (zac BK107.out 1).trans rfl
      have hcz54_2 : wr.cell? ⟨gb107, 2, none⟩ = some (.int .i64 a0_2) := (zac BK107.out 2).trans rfl
      have hcz54_3 : wr.cell? ⟨gb107, 3, none⟩ = some (.int .i64 a0_3) := (zac BK107.out 3).trans rfl
      have hcz54_4 : wr.cell? ⟨gb107, 4, none⟩ = some (.int .i64 a0_4) := (zac BK107.out 4).trans rfl
      have hfz54_0 := zaa BK107.out 0
      have hfz54_1 := zaa BK107.out 1
      have hfz54_2 := zaa BK107.out 2
      have hfz54_3 := zaa BK107.out 3
      have hfz54_4 := zaa BK107.out 4
      go_wp2_with (first | ((with_reducible refine zap (f := 39) rfl ?_); refine zau (some 29) rfl rfl Try.func39 (by kernel_rfl) rfl #[.int .i64 a0_2, .int .i64 0, .int .i64 3] rfl (by (try simp only [List.map_toArray, List.map_cons, List.map_nil]); first | done | rfl | (simp only [List.length_drop, List.length_take]; rfl)) ?_; (with_reducible refine (query_in.calls a0_2 0 3 false _ A13.out).mono ?_); rintro e w' ⟨rfl, ⟨nd, rfl⟩⟩; refine ⟨_, rfl, ?_⟩) | ((with_reducible refine zap (f := 39) rfl ?_); refine zau (some 53) rfl rfl Try.func39 (by kernel_rfl) rfl #[.int .i64 (l0_0.length : Int), .int .i64 1, .int .i64 4] rfl (by (try simp only [List.map_toArray, List.map_cons, List.map_nil]); first | done | rfl | (simp only [List.length_drop, List.length_take]; rfl)) ?_; (with_reducible refine (query_in.calls (l0_0.length : Int) 1 4 false _ A48.out).mono ?_); rintro e w' ⟨rfl, ⟨nd, rfl⟩⟩; refine ⟨_, rfl, ?_⟩))
      go_ret
      exact ⟨by first | rfl | (simp [zan, zam] <;> rfl) | (simp [*, zan, zam] <;> rfl), by repeat (first | (with_reducible first | exact HB.out | apply zab | apply zad | apply zae | refine zaf ?_ GE107.out) | exact HB.out)⟩
end Go.Proofs.Ytooemobolfoefaa.P


namespace Go.Proofs.Ytooemobolfoefaa.P
open Go.RowKit Go.Proofs.YtooemobolfoefaaW.PrintWords Go.Proofs.YtooemobolfoefaaW.PrintLast Go.Proofs.YtooemobolfoefaaW.PrintMore
set_option linter.unusedVariables false
theorem query_in_is (a b c : Int) : query_in.f a b c = some (inB a b c) := by
 unfold query_in.f inB
 by_cases h : a ≥ b
 ·rw [if_pos h, decide_eq_true (show b ≤ a from h)]; rfl
 ·rw [if_neg h, decide_eq_false (show ¬ b ≤ a from h)]; rfl
theorem query_step_is (k : Nat) (x : SStep) (first last : Bool) (h : okSt x) : query_step.f (k + 1) x.f0 x.f1 x.f2 x.f3 x.f4 x.f5 x.f6 first last = some (stepB x first last) := by
 obtain ⟨h1, h6⟩ := h
 unfold query_step.f stepB
 simp only [query_step.j0, query_asked.f, h1, h6, if_true, query_in_is, Option.bind_some]
 generalize askedB x.f5 x.f6 = p
 generalize askedB x.f0 x.f1 = q
 generalize inB x.f2 1 x.f3 = r
 have hz : ((x.f6.length : Int) == 0) = decide (x.f6.length = 0) := by rw [Bool.eq_iff_iff, beq_iff_eq, decide_eq_true_eq]; omega
 rw [hz]
 generalize decide (x.f6.length = 0) = z
 generalize (x.f2 == x.f3) = y
 by_cases hs : x.f5.toList = [] <;> by_cases h4 : x.f3 ≤ 4 <;> cases x.f4 <;> cases first <;> cases last <;> cases p <;> cases q <;> cases r <;> cases z <;> simp [hs, h4]
theorem query_may_loop (q : SQuery) (hq : okQ q) (hn : q.f0.length < 4611686018427387904) : ∀ (d i k : Nat), i + d = q.f0.length → d + 1 < k →
  query_may.l0 k q.f0.length q.f0.length i q.f0 q.f1 q.f2 q.f3 q.f4 = some (((List.range d).all fun j => stepB (q.f0.getD (i + j) zStep) (i + j == 0) (i + j + 1 == q.f0.length)) && tailB q.f0.length q)
 | 0, i, k + 1, h, hk => by
  unfold query_may.l0
  rw [if_neg (by omega)]
  have hw : wrap64 ((q.f0.length : Int) - 1) = (q.f0.length : Int) - 1 := zbo (by omega)
  unfold tailB
  simp only [query_in_is, Option.bind_some, hw, List.range_zero, List.all_nil, Bool.true_and]
  generalize inB q.f2 0 3 = a
  generalize inB q.f3 0 ((q.f0.length : Int) - 1) = b
  generalize inB q.f4 0 5 = c
  generalize inB (q.f0.length : Int) 1 4 = d
  generalize inB q.f1 0 1125899906842624 = e
  by_cases h0 : q.f2 = 0 <;> cases a <;> cases b <;> cases c <;> cases d <;> cases e <;> simp [h0]
 | d + 1, i, k + 2, h, hk => by
  have hi : i < q.f0.length := by omega
  unfold query_may.l0
  rw [if_pos (by omega), if_pos (by omega), if_pos (by omega)]
  rw [show zaj q.f0 (i : Int) = q.f0.getD i zStep from rfl]
  have hw : wrap64 ((q.f0.length : Int) - 1) = (q.f0.length : Int) - 1 := zbo (by omega)
  have hw1 : wrap64 ((i : Int) + 1) = ((i + 1 : Nat) : Int) := by rw [zbo (by omega)]; omega
  have hb0 : ((i : Int) == 0) = (i == 0) := by rw [Bool.eq_iff_iff, beq_iff_eq, beq_iff_eq]; omega
  have hb1 : ((i : Int) == (q.f0.length : Int) - 1) = (i + 1 == q.f0.length) := by rw [Bool.eq_iff_iff, beq_iff_eq, beq_iff_eq]; omega
  rw [hw, hw1, hb0, hb1, query_step_is _ _ _ _ (hq _ (getD_in zStep hi)), Option.bind_some]
  have ih := query_may_loop q hq hn d (i + 1) (k + 1) (by omega) (by omega)
  rw [List.range_succ_eq_map, List.all_cons, List.all_map, Nat.add_zero]
  cases hs : stepB (q.f0.getD i zStep) (i == 0) (i + 1 == q.f0.length) with
  | false => rfl
  | true =>
   rw [if_pos rfl, ih, Bool.true_and]
   congr 3
   funext j
   rw [show i + 1 + j = i + (j + 1) from by omega]
   rfl
theorem query_may_is (q : SQuery) (hq : okQ q) (hn : q.f0.length < 4611686018427387904) : query_may.f (q.f0.length + 2) q.f0 q.f1 q.f2 q.f3 q.f4 = some (mayQ q) := by
 unfold query_may.f mayQ
 have h := query_may_loop q hq hn q.f0.length 0 (q.f0.length + 2) (by omega) (by omega)
 simp only [Nat.zero_add] at h
 exact h
theorem mayQ_told (q : SQuery) (A : Option Addr) (c : Nat) (w : World) (hr : Kd.C kStep w A q.f0.length q.f0) (hc : q.f0.length ≤ c) (hq : okQ q) (hn : q.f0.length < 4611686018427387904) {b : Bool} (h : mayQ q = b) : Calls Try.prog 21 #[.agg #[.slice A q.f0.length c, .int .i64 q.f1, .int .i64 q.f2, .int .i64 q.f3, .int .i64 q.f4]] w (zaS b w) :=
 query_may.calls (q.f0.length + 2) A c q.f0 q.f1 q.f2 q.f3 q.f4 b w hr hc (by rw [query_may_is q hq hn, h])
theorem rO_put {l : List SOp} (r : List Int) (h : mayO l = true) (hi : i64B l = true) : rO (zbb l ++ r) = some (l, r) := by
 unfold rO
 rw [getO_put r h (i64B_iff.1 hi)]
 simp only [List.drop_left]
theorem rO_take {l r : List Int} {x : List SOp} (hb : zaJ l) (h : rO l = some (x, r)) : l = zbb x ++ r ∧ mayO x = true ∧ i64B x = true ∧ zaJ r := by
 unfold rO at h
 cases hg : getO l with
 | none => rw [hg] at h; cases h
 | some p =>
  obtain ⟨y, n⟩ := p
  rw [hg] at h
  simp only [Option.some.injEq, Prod.mk.injEq] at h
  obtain ⟨rfl, rfl⟩ := h
  obtain ⟨h1, h2, h3, h4⟩ := getO_take hb hg
  exact ⟨by rw [← h3, List.take_append_drop], h1, i64B_iff.2 h4, zbn hb _⟩
theorem toNat_of {n : Int} (h : 0 ≤ n) : ((n.toNat : Nat) : Int) = n := by omega
theorem asked_size {nm : ByteArray} {l : List SOp} (h : askedB nm l = true) : mayO l = true ∧ nm.size ≤ 12 := ⟨(askedB_iff.1 h).1, (nameB_size (askedB_iff.1 h).2).2⟩
theorem rS_put {x : SStep} {first last : Bool} (r : List Int) (h : stepB x first last = true) (hi : okSt x) : rS (bytesSt x ++ r) = some (x, r) := by
 obtain ⟨hg, ha, h1, h2, h3, _⟩ := stepB_iff.1 h
 obtain ⟨nm, o, mn, mx, g, nm2, o2⟩ := x
 obtain ⟨hi1, hi2⟩ := hi
 simp only at hg ha h1 h2 h3 hi1 hi2
 obtain ⟨e1, e2⟩ := asked_size ha
 unfold rS bytesSt
 simp only [List.append_assoc]
 rw [rT_put _ e2]
 simp only
 rw [rO_put _ e1 hi1]
 simp only
 rw [rN_put _ (show mn.toNat ≤ 4 by omega) (by decide)]
 simp only
 rw [rN_put _ (show mx.toNat ≤ 4 by omega) (by decide)]
 simp only
 rw [toNat_of (show 0 ≤ mn by omega), toNat_of (show 0 ≤ mx by omega)]
 rcases hg with ⟨hg, _, ha2⟩ | ⟨hg, hn, ho⟩
 ·obtain ⟨e3, e4⟩ := asked_size ha2
  subst hg
  rw [if_pos rfl]
  simp only [List.append_assoc]
  rw [rN_put _ (show 1 ≤ 1 by decide) (by decide)]
  simp only [if_true]
  rw [rT_put _ e4]
  simp only
  rw [rO_put _ e3 hi2]
 ·subst hg
  rw [if_neg (by decide), rN_put _ (show 0 ≤ 1 by decide) (by decide)]
  simp only
  rw [if_neg (by decide), zaR hn, ho]
theorem rS_take {l r : List Int} {x : SStep} (hb : zaJ l) (h : rS l = some (x, r)) : l = bytesSt x ++ r ∧ okSt x ∧ zaJ r := by
 unfold rS at h
 cases h1 : rT l with
 | none => rw [h1] at h; cases h
 | some p1 =>
  obtain ⟨nm, l1⟩ := p1
  rw [h1] at h
  simp only at h
  obtain ⟨a1, _, b1⟩ := rT_take hb h1
  cases h2 : rO l1 with
  | none => rw [h2] at h; cases h
  | some p2 =>
   obtain ⟨o, l2⟩ := p2
   rw [h2] at h
   simp only at h
   obtain ⟨a2, _, i2, b2⟩ := rO_take b1 h2
   cases h3 : rN 4 l2 with
   | none => rw [h3] at h; cases h
   | some p3 =>
    obtain ⟨mn, l3⟩ := p3
    rw [h3] at h
    simp only at h
    obtain ⟨a3, _, b3⟩ := rN_take b2 h3
    cases h4 : rN 4 l3 with
    | none => rw [h4] at h; cases h
    | some p4 =>
     obtain ⟨mx, l4⟩ := p4
     rw [h4] at h
     simp only at h
     obtain ⟨a4, _, b4⟩ := rN_take b3 h4
     cases h5 : rN 1 l4 with
     | none => rw [h5] at h; cases h
     | some p5 =>
      obtain ⟨g, l5⟩ := p5
      rw [h5] at h
      simp only at h
      obtain ⟨a5, g1, b5⟩ := rN_take b4 h5
      by_cases hg : g = 1
      ·rw [if_pos hg] at h
       cases h6 : rT l5 with
       | none => rw [h6] at h; cases h
       | some p6 =>
        obtain ⟨nm2, l6⟩ := p6
        rw [h6] at h
        simp only at h
        obtain ⟨a6, _, b6⟩ := rT_take b5 h6
        cases h7 : rO l6 with
        | none => rw [h7] at h; cases h
        | some p7 =>
         obtain ⟨o2, l7⟩ := p7
         rw [h7] at h
         simp only [Option.some.injEq, Prod.mk.injEq] at h
         obtain ⟨rfl, rfl⟩ := h
         obtain ⟨a7, _, i7, b7⟩ := rO_take b6 h7
         refine ⟨?_, ⟨i2, i7⟩, b7⟩
         unfold bytesSt
         simp only [if_true, Int.toNat_natCast, List.append_assoc]
         rw [a1, a2, a3, a4, a5, a6, a7, hg]
      ·rw [if_neg hg] at h
       simp only [Option.some.injEq, Prod.mk.injEq] at h
       obtain ⟨rfl, rfl⟩ := h
       obtain rfl : g = 0 := by omega
       refine ⟨?_, ⟨i2, rfl⟩, b5⟩
       unfold bytesSt
       simp only [Int.toNat_natCast, List.append_assoc, Bool.false_eq_true, if_false]
       rw [a1, a2, a3, a4, a5]
theorem rSs_put : ∀ (l : List SStep) (r : List Int), (∀ x ∈ l, okSt x ∧ ∃ a b, stepB x a b = true) → rSs l.length (zbj l ++ r) = some (l, r)
 | [], r, _ => rfl
 | x :: l, r, h => by
  obtain ⟨hx, a, b, hs⟩ := h x (List.mem_cons_self ..)
  show rSs (l.length + 1) _ = _
  unfold rSs zbj
  rw [List.map_cons, List.flatten_cons, List.append_assoc, rS_put _ hs hx]
  simp only
  have ih := rSs_put l r (fun y hy => h y (List.mem_cons_of_mem _ hy))
  unfold zbj at ih
  rw [ih]
theorem rSs_take : ∀ (k : Nat) {l r : List Int} {xs : List SStep}, zaJ l → rSs k l = some (xs, r) → l = zbj xs ++ r ∧ xs.length = k ∧ (∀ x ∈ xs, okSt x) ∧ zaJ r
 | 0, l, r, xs, hb, h => by
  unfold rSs at h
  simp only [Option.some.injEq, Prod.mk.injEq] at h
  obtain ⟨rfl, rfl⟩ := h
  exact ⟨rfl, rfl, (fun _ h => by cases h), hb⟩
 | k + 1, l, r, xs, hb, h => by
  unfold rSs at h
  cases h1 : rS l with
  | none => rw [h1] at h; cases h
  | some p =>
   obtain ⟨x, l1⟩ := p
   rw [h1] at h
   simp only at h
   obtain ⟨a1, i1, b1⟩ := rS_take hb h1
   cases h2 : rSs k l1 with
   | none => rw [h2] at h; cases h
   | some p =>
    obtain ⟨ys, l2⟩ := p
    rw [h2] at h
    simp only [Option.some.injEq, Prod.mk.injEq] at h
    obtain ⟨rfl, rfl⟩ := h
    obtain ⟨a2, e2, i2, b2⟩ := rSs_take k b1 h2
    refine ⟨?_, by rw [List.length_cons, e2], fun y hy => ?_, b2⟩
    ·rw [a1, a2]
     unfold zbj
     rw [List.map_cons, List.flatten_cons, List.append_assoc]
    ·rcases List.mem_cons.1 hy with rfl | hy
     ·exact i1
     ·exact i2 y hy
theorem mayQ_steps {q : SQuery} (h : mayQ q = true) : ∀ x ∈ q.f0, ∃ a b, stepB x a b = true := fun x hx => by
 obtain ⟨i, hi, rfl⟩ := List.mem_iff_getElem.1 hx
 have := (mayQ_iff.1 h).1 i hi
 rw [show q.f0.getD i zStep = q.f0[i] from by simp [List.getD, hi]] at this
 exact ⟨_, _, this⟩
theorem rQ_put {q : SQuery} (r : List Int) (h : mayQ q = true) (hi : okQ q) : rQ (zbr q ++ r) = some (q, r) := by
 have hst := mayQ_steps h
 obtain ⟨_, h1, h2, h3, h4, h5, h6, _, _, h7, h8, h9⟩ := mayQ_iff.1 h
 obtain ⟨xs, wi, ag, st, f⟩ := q
 simp only at h1 h2 h3 h4 h5 h6 h7 h8 h9 hst
 unfold rQ zbr
 simp only [List.append_assoc]
 rw [rN_put _ h7 (by decide)]
 simp only
 rw [rSs_put xs _ (fun x hx => ⟨hi x hx, hst x hx⟩)]
 simp only
 rw [rN_put _ (show wi.toNat ≤ 1125899906842624 by omega) (by decide)]
 simp only
 rw [rN_put _ (show ag.toNat ≤ 4 by omega) (by decide)]
 simp only
 rw [rN_put _ (show st.toNat ≤ 4 by omega) (by decide)]
 simp only
 rw [rN_put _ (show f.toNat ≤ 6 by omega) (by decide)]
 simp only
 rw [toNat_of h8, toNat_of h1, toNat_of h3, toNat_of h5]
theorem rQ_take {l r : List Int} {q : SQuery} (hb : zaJ l) (h : rQ l = some (q, r)) : l = zbr q ++ r ∧ okQ q ∧ zaJ r := by
 unfold rQ at h
 cases h1 : rN 4 l with
 | none => rw [h1] at h; cases h
 | some p1 =>
  obtain ⟨m, l1⟩ := p1
  rw [h1] at h
  simp only at h
  obtain ⟨a1, _, b1⟩ := rN_take hb h1
  cases h2 : rSs m l1 with
  | none => rw [h2] at h; cases h
  | some p2 =>
   obtain ⟨xs, l2⟩ := p2
   rw [h2] at h
   simp only at h
   obtain ⟨a2, e2, i2, b2⟩ := rSs_take m b1 h2
   cases h3 : rN 1125899906842624 l2 with
   | none => rw [h3] at h; cases h
   | some p3 =>
    obtain ⟨wi, l3⟩ := p3
    rw [h3] at h
    simp only at h
    obtain ⟨a3, _, b3⟩ := rN_take b2 h3
    cases h4 : rN 4 l3 with
    | none => rw [h4] at h; cases h
    | some p4 =>
     obtain ⟨ag, l4⟩ := p4
     rw [h4] at h
     simp only at h
     obtain ⟨a4, _, b4⟩ := rN_take b3 h4
     cases h5 : rN 4 l4 with
     | none => rw [h5] at h; cases h
     | some p5 =>
      obtain ⟨st, l5⟩ := p5
      rw [h5] at h
      simp only at h
      obtain ⟨a5, _, b5⟩ := rN_take b4 h5
      cases h6 : rN 6 l5 with
      | none => rw [h6] at h; cases h
      | some p6 =>
       obtain ⟨f, l6⟩ := p6
       rw [h6] at h
       simp only [Option.some.injEq, Prod.mk.injEq] at h
       obtain ⟨rfl, rfl⟩ := h
       obtain ⟨a6, _, b6⟩ := rN_take b5 h6
       refine ⟨?_, i2, b6⟩
       unfold zbr
       simp only [Int.toNat_natCast, List.append_assoc]
       rw [a1, a2, a3, a4, a5, a6, e2]
theorem getQ_put {q : SQuery} (r : List Int) (h : mayQ q = true) (hi : okQ q) : getQ (zbr q ++ r) = some (q, (zbr q).length) := by
 unfold getQ
 rw [rQ_put r h hi]
 simp only
 rw [if_pos h, List.length_append]
 congr 2
 omega
theorem bytesQ_inj {p q : SQuery} (hp : mayQ p = true) (ip : okQ p) (hq : mayQ q = true) (iq : okQ q) (h : zbr p = zbr q) : p = q := by
 have h1 := rQ_put [] hp ip
 have h2 := rQ_put [] hq iq
 rw [h, h2] at h1
 simp only [Option.some.injEq, Prod.mk.injEq, and_true] at h1
 exact h1.symm
theorem textL_byte (s : ByteArray) : zaJ (textL s) := zaH (zaT _) (bytesOf_byte _)
theorem bytesSt_byte {x : SStep} {a b : Bool} (h : stepB x a b = true) : zaJ (bytesSt x) := by
 obtain ⟨hg, ha, _⟩ := stepB_iff.1 h
 unfold bytesSt
 refine zaH (textL_byte _) (zaH (bytesO_byte (askedB_iff.1 ha).1) (zaH (zaT _) (zaH (zaT _) ?_)))
 rcases hg with ⟨hg, _, ha2⟩ | ⟨hg, _, _⟩
 ·rw [if_pos hg]; exact zaH (zaT _) (zaH (textL_byte _) (bytesO_byte (askedB_iff.1 ha2).1))
 ·rw [if_neg (by rw [hg]; decide)]; exact zaT _
theorem bytesSt_len {x : SStep} {a b : Bool} (h : stepB x a b = true) (hi : okSt x) : (bytesSt x).length ≤ 1400 := by
 obtain ⟨hg, ha, h1, h2, h3, _⟩ := stepB_iff.1 h
 have e1 := asked_size ha
 have l1 := textL_small e1.2
 have l2 := bytesO_len e1.1 (i64B_iff.1 hi.1)
 have l3 := lePut_short (n := x.f2.toNat) (by omega)
 have l4 := lePut_short (n := x.f3.toNat) (by omega)
 unfold bytesSt
 simp only [List.length_append]
 rcases hg with ⟨hg, _, ha2⟩ | ⟨hg, _, _⟩
 ·rw [if_pos hg]
  have e2 := asked_size ha2
  have l5 := textL_small e2.2
  have l6 := bytesO_len e2.1 (i64B_iff.1 hi.2)
  have l7 := lePut_short (n := 1) (by decide)
  simp only [List.length_append]
  omega
 ·rw [if_neg (by rw [hg]; decide)]
  have l7 := lePut_short (n := 0) (by decide)
  omega
theorem stepsL_byte {l : List SStep} (h : ∀ x ∈ l, ∃ a b, stepB x a b = true) : zaJ (zbj l) := by
 intro c hc
 unfold zbj at hc
 obtain ⟨y, hy, hc⟩ := List.mem_flatten.1 hc
 obtain ⟨x, hx, rfl⟩ := List.mem_map.1 hy
 obtain ⟨a, b, hs⟩ := h x hx
 exact bytesSt_byte hs c hc
theorem bytesQ_byte {q : SQuery} (h : mayQ q = true) : zaJ (zbr q) := by
 unfold zbr
 exact zaH (zaT _) (zaH (stepsL_byte (mayQ_steps h)) (zaH (zaT _) (zaH (zaT _) (zaH (zaT _) (zaT _)))))
theorem stepsL_len : ∀ {l : List SStep}, (∀ x ∈ l, okSt x ∧ ∃ a b, stepB x a b = true) → (zbj l).length ≤ 1400 * l.length
 | [], _ => Nat.le_refl _
 | x :: l, h => by
  obtain ⟨hx, a, b, hs⟩ := h x (List.mem_cons_self ..)
  have ih := stepsL_len (l := l) (fun y hy => h y (List.mem_cons_of_mem _ hy))
  have h1 := bytesSt_len hs hx
  unfold zbj at ih ⊢
  rw [List.map_cons, List.flatten_cons, List.length_append, List.length_cons]
  omega
theorem stepsL_snoc (l : List SStep) (k : Nat) (h : k < l.length) : zbj (l.take (k + 1)) = zbj (l.take k) ++ bytesSt (l.getD k zStep) := by
 unfold zbj
 rw [take_snoc zStep l k h, List.map_append, List.flatten_append]
 simp
theorem rSs_step {s : Option (List Int)} {x : SStep} (fs : List SStep) (m : Nat) (hx : ∀ y r, s.bind rS = some (y, r) → x = y) : (s.bind (rSs (m + 1))).map (fun p => (fs ++ p.1, p.2)) = ((zay s rS).bind (rSs m)).map (fun p => ((fs ++ [x]) ++ p.1, p.2)) := by
 cases s with
 | none => rfl
 | some l =>
  cases h : rS l with
  | none =>
   rw [zbg h, Option.bind_some]
   unfold rSs
   rw [h]
   rfl
  | some p =>
   obtain ⟨y, r⟩ := p
   obtain rfl := hx y r (by rw [Option.bind_some, h])
   rw [za3 h, Option.bind_some, Option.bind_some]
   conv => lhs; unfold rSs
   rw [h]
   simp only
   cases rSs m r with
   | none => rfl
   | some q => simp
theorem rQ_of {l : List Int} {fs : List SStep} {se : Option (List Int)} (h : (zay (some l) (rN 4)).bind (rSs (wasO 0 (some l) (rN 4))) = se.map fun r => (fs, r)) :
  rQ l = (zay (zay (zay (zay se (rN 1125899906842624)) (rN 4)) (rN 4)) (rN 6)).map fun r => (⟨fs, (wasO 0 se (rN 1125899906842624) : Nat), (wasO 0 (zay se (rN 1125899906842624)) (rN 4) : Nat), (wasO 0 (zay (zay se (rN 1125899906842624)) (rN 4)) (rN 4) : Nat), (wasO 0 (zay (zay (zay se (rN 1125899906842624)) (rN 4)) (rN 4)) (rN 6) : Nat)⟩, r) := by
 unfold rQ
 cases h1 : rN 4 l with
 | none =>
  rw [zbg h1] at h
  cases se with
  | none => rfl
  | some r => cases h
 | some p =>
  obtain ⟨m, l1⟩ := p
  rw [za3 h1, wasO_yes h1, Option.bind_some] at h
  simp only
  rw [h]
  cases se with
  | none => rfl
  | some l2 =>
   simp only [Option.map_some]
   cases h3 : rN 1125899906842624 l2 with
   | none => rw [zbg h3]; rfl
   | some p =>
    obtain ⟨wi, l3⟩ := p
    rw [za3 h3, wasO_yes h3]
    cases h4 : rN 4 l3 with
    | none => rw [zbg h4]; simp only [h4]; rfl
    | some p =>
     obtain ⟨ag, l4⟩ := p
     rw [za3 h4, wasO_yes h4]
     simp only [h4]
     cases h5 : rN 4 l4 with
     | none => rw [zbg h5]; rfl
     | some p =>
      obtain ⟨st, l5⟩ := p
      rw [za3 h5, wasO_yes h5]
      cases h6 : rN 6 l5 with
      | none => rw [zbg h6]; simp only [h6]; rfl
      | some p =>
       obtain ⟨f, l6⟩ := p
       rw [za3 h6, wasO_yes h6]
       simp only [h6]
       rfl
theorem getQ_bad {l : List Int} (h : rQ l = none) : gotQ (getQ l) = (zQuery, 0, false) := by unfold getQ; rw [h]; rfl
theorem getQ_not {l r : List Int} {q : SQuery} (h : rQ l = some (q, r)) (hm : mayQ q = false) : gotQ (getQ l) = (zQuery, 0, false) := by
 unfold getQ
 rw [h]
 simp only
 rw [if_neg (by rw [hm]; decide)]
 rfl
theorem getQ_yes {l r : List Int} {q : SQuery} (h : rQ l = some (q, r)) (hm : mayQ q = true) : gotQ (getQ l) = (q, l.length - r.length, true) := by
 unfold getQ
 rw [h]
 simp only
 rw [if_pos hm]
 rfl
end Go.Proofs.Ytooemobolfoefaa.P


namespace Go.Proofs.Ytooemobolfoefaa.P
open Go.RowKit Go.Proofs.YtooemobolfoefaaW.PrintWords Go.Proofs.YtooemobolfoefaaW.PrintLast Go.Proofs.YtooemobolfoefaaW.PrintMore
attribute [local go_sem] zaX zaV zbf zbe zaO zaN zaW zaU   -- for this text's walks alone
set_option linter.unusedVariables false
set_option linter.unusedSimpArgs false
def query_alike.f (k : Nat) (a0_0 : ByteArray) (l0_1 : List (SOp)) (a0_2 : Int) (a0_3 : Int) (a0_4 : Bool) (a0_5 : ByteArray) (l0_6 : List (SOp)) (a1_0 : ByteArray) (l1_1 : List (SOp)) (a1_2 : Int) (a1_3 : Int) (a1_4 : Bool) (a1_5 : ByteArray) (l1_6 : List (SOp)) : Option (Bool) := if a0_0.toList = a1_0.toList then (if a0_5.toList = a1_5.toList then (if (a0_4 == a1_4) = true then (if a0_2 = a1_2 then (if a0_3 = a1_3 then ((expr_Same.f k l0_1 l1_1).bind fun t129 => (if t129 = true then ((expr_Same.f k l0_6 l1_6).bind fun t130 => (some t130)) else (some false))) else (some false)) else (some false)) else (some false)) else (some false)) else (some false)
set_option maxHeartbeats 8000000 in
set_option maxRecDepth 100000 in
theorem query_alike.calls (k : Nat) (a0_0 : ByteArray) (A0_1 : Option Addr) (c0_1 : Nat) (l0_1 : List (SOp)) (a0_2 : Int) (a0_3 : Int) (a0_4 : Bool) (a0_5 : ByteArray) (A0_6 : Option Addr) (c0_6 : Nat) (l0_6 : List (SOp)) (a1_0 : ByteArray) (A1_1 : Option Addr) (c1_1 : Nat) (l1_1 : List (SOp)) (a1_2 : Int) (a1_3 : Int) (a1_4 : Bool) (a1_5 : ByteArray) (A1_6 : Option Addr) (c1_6 : Nat) (l1_6 : List (SOp)) (r : Bool) (w : World) (hr0_1 : Kd.C kOp w A0_1 l0_1.length l0_1) (hc0_1 : l0_1.length ≤ c0_1) (hr0_6 : Kd.C kOp w A0_6 l0_6.length l0_6) (hc0_6 : l0_6.length ≤ c0_6) (hr1_1 : Kd.C kOp w A1_1 l1_1.length l1_1) (hc1_1 : l1_1.length ≤ c1_1) (hr1_6 : Kd.C kOp w A1_6 l1_6.length l1_6) (hc1_6 : l1_6.length ≤ c1_6) (h : query_alike.f k a0_0 l0_1 a0_2 a0_3 a0_4 a0_5 l0_6 a1_0 l1_1 a1_2 a1_3 a1_4 a1_5 l1_6 = some r) :
  Calls Try.prog 28 #[.agg #[.string a0_0, .slice A0_1 l0_1.length c0_1, .int .i64 a0_2, .int .i64 a0_3, .bool a0_4, .string a0_5, .slice A0_6 l0_6.length c0_6], .agg #[.string a1_0, .slice A1_1 l1_1.length c1_1, .int .i64 a1_2, .int .i64 a1_3, .bool a1_4, .string a1_5, .slice A1_6 l1_6.length c1_6]] w fun e w' => e = .returned (.bool r) ∧ Below w.heap.size w w' := by
 have hu40 := Try.underlying40
 have HR0_1 := Aside0.mk hr0_1
 have HC0_1 := Aside0.mk hc0_1
 clear hr0_1 hc0_1
 have HR0_6 := Aside0.mk hr0_6
 have HC0_6 := Aside0.mk hc0_6
 clear hr0_6 hc0_6
 have HR1_1 := Aside0.mk hr1_1
 have HC1_1 := Aside0.mk hc1_1
 clear hr1_1 hc1_1
 have HR1_6 := Aside0.mk hr1_6
 have HC1_6 := Aside0.mk hc1_6
 clear hr1_6 hc1_6
 have HB := Aside0.mk (Below.refl w.heap.size w)
 have H : (if a0_0.toList = a1_0.toList then (if a0_5.toList = a1_5.toList then (if (a0_4 == a1_4) = true then (if a0_2 = a1_2 then (if a0_3 = a1_3 then ((expr_Same.f k l0_1 l1_1).bind fun t129 => (if t129 = true then ((expr_Same.f k l0_6 l1_6).bind fun t130 => (some t130)) else (some false))) else (some false)) else (some false)) else (some false)) else (some false)) else (some false)) = some r := h
 clear h
 by_cases c3 : a0_0.toList = a1_0.toList
 ·rw [if_pos c3] at H
  have c3b0 : (a0_0.toList == a1_0.toList) = true := beq_iff_eq.mpr c3
  have c3b1 : (a0_0.toList != a1_0.toList) = false := bne_eq_false_iff_eq.mpr c3
  clear c3
  by_cases c4 : a0_5.toList = a1_5.toList
  ·rw [if_pos c4] at H
   have c4b0 : (a0_5.toList == a1_5.toList) = true := beq_iff_eq.mpr c4
   have c4b1 : (a0_5.toList != a1_5.toList) = false := bne_eq_false_iff_eq.mpr c4
   clear c4
   by_cases c5 : (a0_4 == a1_4) = true
   ·rw [if_pos c5] at H
    have c5b0 : (a0_4 == a1_4) = true := c5
    (try (have c5b1 : decide (a0_4 = a1_4) = true := by simpa using c5))
    (try (have c5b2 : (a0_4 == a1_4) = true := by simpa using c5))
    clear c5
    by_cases c6 : a0_2 = a1_2
    ·rw [if_pos c6] at H
     have c6b0 : (a0_2 == a1_2) = true := beq_iff_eq.mpr c6
     have c6b1 : (a0_2 != a1_2) = false := bne_eq_false_iff_eq.mpr c6
     clear c6
     by_cases c7 : a0_3 = a1_3
     ·rw [if_pos c7] at H
      have c7b0 : (a0_3 == a1_3) = true := beq_iff_eq.mpr c7
      have c7b1 : (a0_3 != a1_3) = false := bne_eq_false_iff_eq.mpr c7
      clear c7
      replace H := Option.bind_eq_some_iff.mp H
      obtain ⟨t129, A80, H⟩ := H
      replace H : (if t129 = true then ((expr_Same.f k l0_6 l1_6).bind fun t130 => (some t130)) else (some false)) = some r := H
      have A8 := Aside0.mk A80
      clear A80
      by_cases c9 : t129 = true
      ·subst c9
       have H1 : ((expr_Same.f k l0_6 l1_6).bind fun t130 => (some t130)) = some r := by rw [if_pos rfl] at H; exact H
       clear H
       have H := H1
       clear H1
       replace H := Option.bind_eq_some_iff.mp H
       obtain ⟨t130, A100, H⟩ := H
       replace H : (some t130) = some r := H
       have A10 := Aside0.mk A100
       clear A100
       obtain rfl := Option.some.inj H
       go_enter Try.func28, Try.ntmps28
       go_wp2_with (first | ((with_reducible refine zaw (N := 2) rfl ?_); refine zas ?hg (N := 2) ?hd (cs := #[.string a0_0, .slice A0_1 l0_1.length c0_1, .int .i64 a0_2, .int .i64 a0_3, .bool a0_4, .string a0_5, .slice A0_6 l0_6.length c0_6]) (t := 40) ?hr ?_; (case hd => rfl); (case hg => rfl); (case hr => first | (go_simp; done) | (go_simp; rfl)); intro gb127 hg w11 hbox hb; have n0_ := Aside0.mk (zah (by repeat (first | (with_reducible first | exact HB.out | apply zab | apply zad | apply zae) | exact HB.out)) hb); have n1_ := Aside0.mk (hbox); have n2_ := Aside0.mk ((by rw [hg]; exact (zao (by repeat (first | (with_reducible first | exact HB.out | apply zab | apply zad | apply zae) | exact HB.out))) : w.heap.size ≤ gb127)); have n3_ := Aside0.mk ((by rw [hg]; exact (zao (by repeat (first | (with_reducible first | exact HB.out | apply zab | apply zad | apply zae) | exact HB.out))) : w.heap.size ≤ gb127)); clear HB; have HB := n0_; have BK127 := n1_; have GW127 := n2_; have GE127 := n3_; clear n0_ n1_ n2_ n3_; clear hb hbox hg) | ((with_reducible refine zaw (N := 3) rfl ?_); refine zas ?hg (N := 3) ?hd (cs := #[.string a1_0, .slice A1_1 l1_1.length c1_1, .int .i64 a1_2, .int .i64 a1_3, .bool a1_4, .string a1_5, .slice A1_6 l1_6.length c1_6]) (t := 40) ?hr ?_; (case hd => rfl); (case hg => rfl); (case hr => first | (go_simp; done) | (go_simp; rfl)); intro gb128 hg w12 hbox hb; have n0_ := Aside0.mk (zak (g := gb127) (o := .cells #[.string a0_0, .slice A0_1 l0_1.length c0_1, .int .i64 a0_2, .int .i64 a0_3, .bool a0_4, .string a0_5, .slice A0_6 l0_6.length c0_6] 40 (0, 0)) (by (with_reducible repeat (first | refine zai ?_ _ | refine zal ?_ | refine zag ?_ _)); exact BK127.out) hb); have n1_ := Aside0.mk (zah (by repeat (first | (with_reducible first | exact HB.out | apply zab | apply zad | apply zae | refine zaf ?_ GE127.out) | exact HB.out)) hb); have n2_ := Aside0.mk (hbox); have n3_ := Aside0.mk ((by rw [hg]; exact (zao (by repeat (first | (with_reducible first | exact HB.out | apply zab | apply zad | apply zae | refine zaf ?_ GE127.out) | exact HB.out))) : w.heap.size ≤ gb128)); have n4_ := Aside0.mk ((by rw [hg]; exact (zao (by repeat (first | (with_reducible first | exact HB.out | apply zab | apply zad | apply zae | refine zaf ?_ GE127.out) | exact HB.out))) : w.heap.size ≤ gb128)); have n5_ := Aside0.mk ((by rw [hg]; exact Nat.ne_of_lt (zaA (g := gb127) (o := .cells #[.string a0_0, .slice A0_1 l0_1.length c0_1, .int .i64 a0_2, .int .i64 a0_3, .bool a0_4, .string a0_5, .slice A0_6 l0_6.length c0_6] 40 (0, 0)) (by (with_reducible repeat (first | refine zai ?_ _ | refine zal ?_ | refine zag ?_ _)); exact BK127.out)) : gb127 ≠ gb128)); have n6_ := Aside0.mk ((by rw [hg]; exact Nat.ne_of_gt (zaA (g := gb127) (o := .cells #[.string a0_0, .slice A0_1 l0_1.length c0_1, .int .i64 a0_2, .int .i64 a0_3, .bool a0_4, .string a0_5, .slice A0_6 l0_6.length c0_6] 40 (0, 0)) (by (with_reducible repeat (first | refine zai ?_ _ | refine zal ?_ | refine zag ?_ _)); exact BK127.out)) : gb128 ≠ gb127)); clear BK127; clear HB; have BK127 := n0_; have HB := n1_; have BK128 := n2_; have GW128 := n3_; have GE128 := n4_; have NB127_128 := n5_; have NB128_127 := n6_; clear n0_ n1_ n2_ n3_ n4_ n5_ n6_; clear hb hbox hg; have hnb13 := NB127_128.out; have hnc13 := NB128_127.out; have hcz14_0 : w12.cell? ⟨gb127, 0, none⟩ = some (.string a0_0) := (zac BK127.out 0).trans rfl; have hcz14_1 : w12.cell? ⟨gb127, 1, none⟩ = some (.slice A0_1 l0_1.length c0_1) := (zac BK127.out 1).trans rfl; have hcz14_2 : w12.cell? ⟨gb127, 2, none⟩ = some (.int .i64 a0_2) := (zac BK127.out 2).trans rfl; have hcz14_3 : w12.cell? ⟨gb127, 3, none⟩ = some (.int .i64 a0_3) := (zac BK127.out 3).trans rfl; have hcz14_4 : w12.cell? ⟨gb127, 4, none⟩ = some (.bool a0_4) := (zac BK127.out 4).trans rfl; have hcz14_5 : w12.cell? ⟨gb127, 5, none⟩ = some (.string a0_5) := (zac BK127.out 5).trans rfl; have hcz14_6 : w12.cell? ⟨gb127, 6, none⟩ = some (.slice A0_6 l0_6.length c0_6) := (zac BK127.out 6).trans rfl; have hfz14_0 := zaa BK127.out 0; have hfz14_1 := zaa BK127.out 1; have hfz14_2 := zaa BK127.out 2; have hfz14_3 := zaa BK127.out 3; have hfz14_4 := zaa BK127.out 4; have hfz14_5 := zaa BK127.out 5; have hfz14_6 := zaa BK127.out 6; have hcz15_0 : w12.cell? ⟨gb128, 0, none⟩ = some (.string a1_0) := (zac BK128.out 0).trans rfl; have hcz15_1 : w12.cell? ⟨gb128, 1, none⟩ = some (.slice A1_1 l1_1.length c1_1) := (zac BK128.out 1).trans rfl; have hcz15_2 : w12.cell? ⟨gb128, 2, none⟩ = some (.int .i64 a1_2) := (zac BK128.out 2).trans rfl; have hcz15_3 : w12.cell? ⟨gb128, 3, none⟩ = some (.int .i64 a1_3) := (zac BK128.out 3).trans rfl; have hcz15_4 : w12.cell? ⟨gb128, 4, none⟩ = some (.bool a1_4) := (zac BK128.out 4).trans rfl; have hcz15_5 : w12.cell? ⟨gb128, 5, none⟩ = some (.string a1_5) := (zac BK128.out 5).trans rfl; have hcz15_6 : w12.cell? ⟨gb128, 6, none⟩ = some (.slice A1_6 l1_6.length c1_6) := (zac BK128.out 6).trans rfl; have hfz15_0 := zaa BK128.out 0; have hfz15_1 := zaa BK128.out 1; have hfz15_2 := zaa BK128.out 2; have hfz15_3 := zaa BK128.out 3; have hfz15_4 := zaa BK128.out 4; have hfz15_5 := zaa BK128.out 5; have hfz15_6 := zaa BK128.out 6) | (go_at_call 46; (with_reducible refine (expr_Same.calls k _ _ l0_1 _ _ l1_1 true _ ?side1 ?side2 ?side3 ?side4 A8.out).mono ?_); (case side1 => repeat (first | exact (Kd.C_below HR0_1.out HB.out) | (with_reducible refine Kd.C_alloc ?_ _) | (with_reducible refine Kd.C_drewN ?_ _) | (with_reducible refine Kd.C_drew ?_))); (case side2 => exact HC0_1.out); (case side3 => repeat (first | exact (Kd.C_below HR1_1.out HB.out) | (with_reducible refine Kd.C_alloc ?_ _) | (with_reducible refine Kd.C_drewN ?_ _) | (with_reducible refine Kd.C_drew ?_))); (case side4 => exact HC1_1.out); rintro e w' ⟨rfl, ⟨nd, rfl⟩⟩) | (go_at_call 46; (with_reducible refine (expr_Same.calls k _ _ l0_6 _ _ l1_6 t130 _ ?side1 ?side2 ?side3 ?side4 A10.out).mono ?_); (case side1 => repeat (first | exact (Kd.C_below HR0_6.out (by repeat (first | (with_reducible first | exact HB.out | apply zab | apply zad | apply zae | refine zaf ?_ GE127.out | refine zaf ?_ GE128.out) | exact HB.out))) | (with_reducible refine Kd.C_alloc ?_ _) | (with_reducible refine Kd.C_drewN ?_ _) | (with_reducible refine Kd.C_drew ?_))); (case side2 => exact HC0_6.out); (case side3 => repeat (first | exact (Kd.C_below HR1_6.out (by repeat (first | (with_reducible first | exact HB.out | apply zab | apply zad | apply zae | refine zaf ?_ GE127.out | refine zaf ?_ GE128.out) | exact HB.out))) | (with_reducible refine Kd.C_alloc ?_ _) | (with_reducible refine Kd.C_drewN ?_ _) | (with_reducible refine Kd.C_drew ?_))); (case side4 => exact HC1_6.out); rintro e w' ⟨rfl, ⟨nd, rfl⟩⟩))
       go_ret
       exact ⟨by first | rfl | (simp [zan, zam] <;> rfl) | (simp [*, zan, zam] <;> rfl), by repeat (first | (with_reducible first | exact HB.out | apply zab | apply zad | apply zae | refine zaf ?_ GE127.out | refine zaf ?_ GE128.out) | exact HB.out)⟩
      ·replace c9 := Bool.eq_false_iff.mpr c9
       subst c9
       have H1 : (some false) = some r := by rw [if_neg (show ¬ (false = true) by decide)] at H; exact H
       clear H
       have H := H1
       clear H1
       obtain rfl := Option.some.inj H
       go_enter Try.func28, Try.ntmps28
       go_wp2_with (first | ((with_reducible refine zaw (N := 2) rfl ?_); refine zas ?hg (N := 2) ?hd (cs := #[.string a0_0, .slice A0_1 l0_1.length c0_1, .int .i64 a0_2, .int .i64 a0_3, .bool a0_4, .string a0_5, .slice A0_6 l0_6.length c0_6]) (t := 40) ?hr ?_; (case hd => rfl); (case hg => rfl); (case hr => first | (go_simp; done) | (go_simp; rfl)); intro gb127 hg w16 hbox hb; have n0_ := Aside0.mk (zah (by repeat (first | (with_reducible first | exact HB.out | apply zab | apply zad | apply zae) | exact HB.out)) hb); have n1_ := Aside0.mk (hbox); have n2_ := Aside0.mk ((by rw [hg]; exact (zao (by repeat (first | (with_reducible first | exact HB.out | apply zab | apply zad | apply zae) | exact HB.out))) : w.heap.size ≤ gb127)); have n3_ := Aside0.mk ((by rw [hg]; exact (zao (by repeat (first | (with_reducible first | exact HB.out | apply zab | apply zad | apply zae) | exact HB.out))) : w.heap.size ≤ gb127)); clear HB; have HB := n0_; have BK127 := n1_; have GW127 := n2_; have GE127 := n3_; clear n0_ n1_ n2_ n3_; clear hb hbox hg) | ((with_reducible refine zaw (N := 3) rfl ?_); refine zas ?hg (N := 3) ?hd (cs := #[.string a1_0, .slice A1_1 l1_1.length c1_1, .int .i64 a1_2, .int .i64 a1_3, .bool a1_4, .string a1_5, .slice A1_6 l1_6.length c1_6]) (t := 40) ?hr ?_; (case hd => rfl); (case hg => rfl); (case hr => first | (go_simp; done) | (go_simp; rfl)); intro gb128 hg w17 hbox hb; have n0_ := Aside0.mk (zak (g := gb127) (o := .cells #[.string a0_0, .slice A0_1 l0_1.length c0_1, .int .i64 a0_2, .int .i64 a0_3, .bool a0_4, .string a0_5, .slice A0_6 l0_6.length c0_6] 40 (0, 0)) (by (with_reducible repeat (first | refine zai ?_ _ | refine zal ?_ | refine zag ?_ _)); exact BK127.out) hb); have n1_ := Aside0.mk (zah (by repeat (first | (with_reducible first | exact HB.out | apply zab | apply zad | apply zae | refine zaf ?_ GE127.out) | exact HB.out)) hb); have n2_ := Aside0.mk (hbox); have n3_ := Aside0.mk ((by rw [hg]; exact (zao (by repeat (first | (with_reducible first | exact HB.out | apply zab | apply zad | apply zae | refine zaf ?_ GE127.out) | exact HB.out))) : w.heap.size ≤ gb128)); have n4_ := Aside0.mk ((by rw [hg]; exact (zao (by repeat (first | (with_reducible first | exact HB.out | apply zab | apply zad | apply zae | refine zaf ?_ GE127.out) | exact HB.out))) : w.heap.size ≤ gb128)); have n5_ := Aside0.mk ((by rw [hg]; exact Nat.ne_of_lt (zaA (g := gb127) (o := .cells #[.string a0_0, .slice A0_1 l0_1.length c0_1, .int .i64 a0_2, .int .i64 a0_3, .bool a0_4, .string a0_5, .slice A0_6 l0_6.length c0_6] 40 (0, 0)) (by (with_reducible repeat (first | refine zai ?_ _ | refine zal ?_ | refine zag ?_ _)); exact BK127.out)) : gb127 ≠ gb128)); have n6_ := Aside0.mk ((by rw [hg]; exact Nat.ne_of_gt (zaA (g := gb127) (o := .cells #[.string a0_0, .slice A0_1 l0_1.length c0_1, .int .i64 a0_2, .int .i64 a0_3, .bool a0_4, .string a0_5, .slice A0_6 l0_6.length c0_6] 40 (0, 0)) (by (with_reducible repeat (first | refine zai ?_ _ | refine zal ?_ | refine zag ?_ _)); exact BK127.out)) : gb128 ≠ gb127)); clear BK127; clear HB; have BK127 := n0_; have HB := n1_; have BK128 := n2_; have GW128 := n3_; have GE128 := n4_; have NB127_128 := n5_; have NB128_127 := n6_; clear n0_ n1_ n2_ n3_ n4_ n5_ n6_; clear hb hbox hg; have hnb18 := NB127_128.out; have hnc18 := NB128_127.out; have hcz19_0 : w17.cell? ⟨gb127, 0, none⟩ = some (.string a0_0) := (zac BK127.out 0).trans rfl; have hcz19_1 : w17.cell? ⟨gb127, 1, none⟩ = some (.slice A0_1 l0_1.length c0_1) := (zac BK127.out 1).trans rfl; have hcz19_2 : w17.cell? ⟨gb127, 2, none⟩ = some (.int .i64 a0_2) := (zac BK127.out 2).trans rfl; have hcz19_3 : w17.cell? ⟨gb127, 3, none⟩ = some (.int .i64 a0_3) := (zac BK127.out 3).trans rfl; have hcz19_4 : w17.cell? ⟨gb127, 4, none⟩ = some (.bool a0_4) := (zac BK127.out 4).trans rfl; have hcz19_5 : w17.cell? ⟨gb127, 5, none⟩ = some (.string a0_5) := (zac BK127.out 5).trans rfl; have hcz19_6 : w17.cell? ⟨gb127, 6, none⟩ = some (.slice A0_6 l0_6.length c0_6) := (zac BK127.out 6).trans rfl; have hfz19_0 := zaa BK127.out 0; have hfz19_1 := zaa BK127.out 1; have hfz19_2 := zaa BK127.out 2; have hfz19_3 := zaa BK127.out 3; have hfz19_4 := zaa BK127.out 4; have hfz19_5 := zaa BK127.out 5; have hfz19_6 := zaa BK127.out 6; have hcz20_0 : w17.cell? ⟨gb128, 0, none⟩ = some (.string a1_0) := (zac BK128.out 0).trans rfl; have hcz20_1 : w17.cell? ⟨gb128, 1, none⟩ = some (.slice A1_1 l1_1.length c1_1) := (zac BK128.out 1).trans rfl; have hcz20_2 : w17.cell? ⟨gb128, 2, none⟩ = some (.int .i64 a1_2) := (zac BK128.out 2).trans rfl; have hcz20_3 : w17.cell? ⟨gb128, 3, none⟩ = some (.int .i64 a1_3) := (zac BK128.out 3).trans rfl; have hcz20_4 : w17.cell? ⟨gb128, 4, none⟩ = some (.bool a1_4) := (zac BK128.out 4).trans rfl; have hcz20_5 : w17.cell? ⟨gb128, 5, none⟩ = some (.string a1_5) := (zac BK128.out 5).trans rfl; have hcz20_6 : w17.cell? ⟨gb128, 6, none⟩ = some (.slice A1_6 l1_6.length c1_6) := (zac BK128.out 6).trans rfl; have hfz20_0 := zaa BK128.out 0; have hfz20_1 := zaa BK128.out 1; have hfz20_2 := zaa BK128.out 2; have hfz20_3 := zaa BK128.out 3; have hfz20_4 := zaa BK128.out 4; have hfz20_5 := zaa BK128.out 5; have hfz20_6 := zaa BK128.out 6) | (go_at_call 46; (with_reducible refine (expr_Same.calls k _ _ l0_1 _ _ l1_1 false _ ?side1 ?side2 ?side3 ?side4 A8.out).mono ?_); (case side1 => repeat (first | exact (Kd.C_below HR0_1.out HB.out) | (with_reducible refine Kd.C_alloc ?_ _) | (with_reducible refine Kd.C_drewN ?_ _) | (with_reducible refine Kd.C_drew ?_))); (case side2 => exact HC0_1.out); (case side3 => repeat (first | exact (Kd.C_below HR1_1.out HB.out) | (with_reducible refine Kd.C_alloc ?_ _) | (with_reducible refine Kd.C_drewN ?_ _) | (with_reducible refine Kd.C_drew ?_))); (case side4 => exact HC1_1.out); rintro e w' ⟨rfl, ⟨nd, rfl⟩⟩))
       go_ret
       exact ⟨by first | rfl | (simp [zan, zam] <;> rfl) | (simp [*, zan, zam] <;> rfl), by repeat (first | (with_reducible first | exact HB.out | apply zab | apply zad | apply zae | refine zaf ?_ GE127.out | refine zaf ?_ GE128.out) | exact HB.out)⟩
     ·rw [if_neg c7] at H
      have c7b0 : (a0_3 == a1_3) = false := beq_eq_false_iff_ne.mpr c7
      have c7b1 : (a0_3 != a1_3) = true := bne_iff_ne.mpr c7
      obtain rfl := Option.some.inj H
      go_enter Try.func28, Try.ntmps28
      go_wp2_with (first | ((with_reducible refine zaw (N := 2) rfl ?_); refine zas ?hg (N := 2) ?hd (cs := #[.string a0_0, .slice A0_1 l0_1.length c0_1, .int .i64 a0_2, .int .i64 a0_3, .bool a0_4, .string a0_5, .slice A0_6 l0_6.length c0_6]) (t := 40) ?hr ?_; (case hd => rfl); (case hg => rfl); (case hr => first | (go_simp; done) | (go_simp; rfl)); intro gb127 hg w21 hbox hb; have n0_ := Aside0.mk (zah (by repeat (first | (with_reducible first | exact HB.out | apply zab | apply zad | apply zae) | exact HB.out)) hb); have n1_ := Aside0.mk (hbox); have n2_ := Aside0.mk ((by rw [hg]; exact (zao (by repeat (first | (with_reducible first | exact HB.out | apply zab | apply zad | apply zae) | exact HB.out))) : w.heap.size ≤ gb127)); have n3_ := Aside0.mk ((by rw [hg]; exact (zao (by repeat (first | (with_reducible first | exact HB.out | apply zab | apply zad | apply zae) | exact HB.out))) : w.heap.size ≤ gb127)); clear HB; have HB := n0_; have BK127 := n1_; have GW127 := n2_; have GE127 := n3_; clear n0_ n1_ n2_ n3_; clear hb hbox hg) | ((with_reducible refine zaw (N := 3) rfl ?_); refine zas ?hg (N := 3) ?hd (cs := #[.string a1_0, .slice A1_1 l1_1.length c1_1, .int .i64 a1_2, .int .i64 a1_3, .bool a1_4, .string a1_5, .slice A1_6 l1_6.length c1_6]) (t := 40) ?hr ?_; (case hd => rfl); (case hg => rfl); (case hr => first | (go_simp; done) | (go_simp; rfl)); intro gb128 hg w22 hbox hb; have n0_ := Aside0.mk (zak (g := gb127) (o := .cells #[.string a0_0, .slice A0_1 l0_1.length c0_1, .int .i64 a0_2, .int .i64 a0_3, .bool a0_4, .string a0_5, .slice A0_6 l0_6.length c0_6] 40 (0, 0)) (by (with_reducible repeat (first | refine zai ?_ _ | refine zal ?_ | refine zag ?_ _)); exact BK127.out) hb); have n1_ := Aside0.mk (zah (by repeat (first | (with_reducible first | exact HB.out | apply zab | apply zad | apply zae | refine zaf ?_ GE127.out) | exact HB.out)) hb); have n2_ := Aside0.mk (hbox); have n3_ := Aside0.mk ((by rw [hg]; exact (zao (by repeat (first | (with_reducible first | exact HB.out | apply zab | apply zad | apply zae | refine zaf ?_ GE127.out) | exact HB.out))) : w.heap.size ≤ gb128)); have n4_ := Aside0.mk ((by rw [hg]; exact (zao (by repeat (first | (with_reducible first | exact HB.out | apply zab | apply zad | apply zae | refine zaf ?_ GE127.out) | exact HB.out))) : w.heap.size ≤ gb128)); have n5_ := Aside0.mk ((by rw [hg]; exact Nat.ne_of_lt (zaA (g := gb127) (o := .cells #[.string a0_0, .slice A0_1 l0_1.length c0_1, .int .i64 a0_2, .int .i64 a0_3, .bool a0_4, .string a0_5, .slice A0_6 l0_6.length c0_6] 40 (0, 0)) (by (with_reducible repeat (first | refine zai ?_ _ | refine zal ?_ | refine zag ?_ _)); exact BK127.out)) : gb127 ≠ gb128)); have n6_ := Aside0.mk ((by rw [hg]; exact Nat.ne_of_gt (zaA (g := gb127) (o := .cells #[.string a0_0, .slice A0_1 l0_1.length c0_1, .int .i64 a0_2, .int .i64 a0_3, .bool a0_4, .string a0_5, .slice A0_6 l0_6.length c0_6] 40 (0, 0)) (by (with_reducible repeat (first | refine zai ?_ _ | refine zal ?_ | refine zag ?_ _)); exact BK127.out)) : gb128 ≠ gb127)); clear BK127; clear HB; have BK127 := n0_; have HB := n1_; have BK128 := n2_; have GW128 := n3_; have GE128 := n4_; have NB127_128 := n5_; have NB128_127 := n6_; clear n0_ n1_ n2_ n3_ n4_ n5_ n6_; clear hb hbox hg; have hnb23 := NB127_128.out; have hnc23 := NB128_127.out; have hcz24_0 : w22.cell? ⟨gb127, 0, none⟩ = some (.string a0_0) := (zac BK127.out 0).trans rfl; have hcz24_1 : w22.cell? ⟨gb127, 1, none⟩ = some (.slice A0_1 l0_1.length c0_1) := (zac BK127.out 1).trans rfl; have hcz24_2 : w22.cell? ⟨gb127, 2, none⟩ = some (.int .i64 a0_2) := (zac BK127.out 2).trans rfl; have hcz24_3 : w22.cell? ⟨gb127, 3, none⟩ = some (.int .i64 a0_3) := (zac BK127.out 3).trans rfl; have hcz24_4 : w22.cell? ⟨gb127, 4, none⟩ = some (.bool a0_4) := (zac BK127.out 4).trans rfl; have hcz24_5 : w22.cell? ⟨gb127, 5, none⟩ = some (.string a0_5) := (zac BK127.out 5).trans rfl; have hcz24_6 : w22.cell? ⟨gb127, 6, none⟩ = some (.slice A0_6 l0_6.length c0_6) := (zac BK127.out 6).trans rfl; have hfz24_0 := zaa BK127.out 0; have hfz24_1 := zaa BK127.out 1; have hfz24_2 := zaa BK127.out 2; have hfz24_3 := zaa BK127.out 3; have hfz24_4 := zaa BK127.out 4; have hfz24_5 := zaa BK127.out 5; have hfz24_6 := zaa BK127.out 6; have hcz25_0 : w22.cell? ⟨gb128, 0, none⟩ = some (.string a1_0) := (zac BK128.out 0).trans rfl; have hcz25_1 : w22.cell? ⟨gb128, 1, none⟩ = some (.slice A1_1 l1_1.length c1_1) := (zac BK128.out 1).trans rfl; have hcz25_2 : w22.cell? ⟨gb128, 2, none⟩ = some (.int .i64 a1_2) := (zac BK128.out 2).trans rfl; have hcz25_3 : w22.cell? ⟨gb128, 3, none⟩ = some (.int .i64 a1_3) := (zac BK128.out 3).trans rfl; have hcz25_4 : w22.cell? ⟨gb128, 4, none⟩ = some (.bool a1_4) := (zac BK128.out 4).trans rfl; have hcz25_5 : w22.cell? ⟨gb128, 5, none⟩ = some (.string a1_5) := (zac BK128.out 5).trans rfl; have hcz25_6 : w22.cell? ⟨gb128, 6, none⟩ = some (.slice A1_6 l1_6.length c1_6) := (zac BK128.out 6).trans rfl; have hfz25_0 := zaa BK128.out 0; have hfz25_1 := zaa BK128.out 1; have hfz25_2 := zaa BK128.out 2; have hfz25_3 := zaa BK128.out 3; have hfz25_4 := zaa BK128.out 4; have hfz25_5 := zaa BK128.out 5; have hfz25_6 := zaa BK128.out 6))
      go_ret
      exact ⟨by first | rfl | (simp [zan, zam] <;> rfl) | (simp [*, zan, zam] <;> rfl), by repeat (first | (with_reducible first | exact HB.out | apply zab | apply zad | apply zae | refine zaf ?_ GE127.out | refine zaf ?_ GE128.out) | exact HB.out)⟩
    ·rw [if_neg c6] at H
     have c6b0 : (a0_2 == a1_2) = false := beq_eq_false_iff_ne.mpr c6
     have c6b1 : (a0_2 != a1_2) = true := bne_iff_ne.mpr c6
     obtain rfl := Option.some.inj H
     go_enter Try.func28, Try.ntmps28
     go_wp2_with (first | ((with_reducible refine zaw (N := 2) rfl ?_); refine zas ?hg (N := 2) ?hd (cs := #[.string a0_0, .slice A0_1 l0_1.length c0_1, .int .i64 a0_2, .int .i64 a0_3, .bool a0_4, .string a0_5, .slice A0_6 l0_6.length c0_6]) (t := 40) ?hr ?_; (case hd => rfl); (case hg => rfl); (case hr => first | (go_simp; done) | (go_simp; rfl)); intro gb127 hg w26 hbox hb; have n0_ := Aside0.mk (zah (by repeat (first | (with_reducible first | exact HB.out | apply zab | apply zad | apply zae) | exact HB.out)) hb); have n1_ := Aside0.mk (hbox); have n2_ := Aside0.mk ((by rw [hg]; exact (zao (by repeat (first | (with_reducible first | exact HB.out | apply zab | apply zad | apply zae) | exact HB.out))) : w.heap.size ≤ gb127)); have n3_ := Aside0.mk ((by rw [hg]; exact (zao (by repeat (first | (with_reducible first | exact HB.out | apply zab | apply zad | apply zae) | exact HB.out))) : w.heap.size ≤ gb127)); clear HB; have HB := n0_; have BK127 := n1_; have GW127 := n2_; have GE127 := n3_; clear n0_ n1_ n2_ n3_; clear hb hbox hg) | ((with_reducible refine zaw (N := 3) rfl ?_); refine zas ?hg (N := 3) ?hd (cs := #[.string a1_0, .slice A1_1 l1_1.length c1_1, .int .i64 a1_2, .int .i64 a1_3, .bool a1_4, .string a1_5, .slice A1_6 l1_6.length c1_6]) (t := 40) ?hr ?_; (case hd => rfl); (case hg => rfl); (case hr => first | (go_simp; done) | (go_simp; rfl)); intro gb128 hg w27 hbox hb; have n0_ := Aside0.mk (zak (g := gb127) (o := .cells #[.string a0_0, .slice A0_1 l0_1.length c0_1, .int .i64 a0_2, .int .i64 a0_3, .bool a0_4, .string a0_5, .slice A0_6 l0_6.length c0_6] 40 (0, 0)) (by (with_reducible repeat (first | refine zai ?_ _ | refine zal ?_ | refine zag ?_ _)); exact BK127.out) hb); have n1_ := Aside0.mk (zah (by repeat (first | (with_reducible first | exact HB.out | apply zab | apply zad | apply zae | refine zaf ?_ GE127.out) | exact HB.out)) hb); have n2_ := Aside0.mk (hbox); have n3_ := Aside0.mk ((by rw [hg]; exact (zao (by repeat (first | (with_reducible first | exact HB.out | apply zab | apply zad | apply zae | refine zaf ?_ GE127.out) | exact HB.out))) : w.heap.size ≤ gb128)); have n4_ := Aside0.mk ((by rw [hg]; exact (zao (by repeat (first | (with_reducible first | exact HB.out | apply zab | apply zad | apply zae | refine zaf ?_ GE127.out) | exact HB.out))) : w.heap.size ≤ gb128)); have n5_ := Aside0.mk ((by rw [hg]; exact Nat.ne_of_lt (zaA (g := gb127) (o := .cells #[.string a0_0, .slice A0_1 l0_1.length c0_1, .int .i64 a0_2, .int .i64 a0_3, .bool a0_4, .string a0_5, .slice A0_6 l0_6.length c0_6] 40 (0, 0)) (by (with_reducible repeat (first | refine zai ?_ _ | refine zal ?_ | refine zag ?_ _)); exact BK127.out)) : gb127 ≠ gb128)); have n6_ := Aside0.mk ((by rw [hg]; exact Nat.ne_of_gt (zaA (g := gb127) (o := .cells #[.string a0_0, .slice A0_1 l0_1.length c0_1, .int .i64 a0_2, .int .i64 a0_3, .bool a0_4, .string a0_5, .slice A0_6 l0_6.length c0_6] 40 (0, 0)) (by (with_reducible repeat (first | refine zai ?_ _ | refine zal ?_ | refine zag ?_ _)); exact BK127.out)) : gb128 ≠ gb127)); clear BK127; clear HB; have BK127 := n0_; have HB := n1_; have BK128 := n2_; have GW128 := n3_; have GE128 := n4_; have NB127_128 := n5_; have NB128_127 := n6_; clear n0_ n1_ n2_ n3_ n4_ n5_ n6_; clear hb hbox hg; have hnb28 := NB127_128.out; have hnc28 := NB128_127.out; have hcz29_0 : w27.cell? ⟨gb127, 0, none⟩ = some (.string a0_0) := (zac BK127.out 0).trans rfl; have hcz29_1 : w27.cell? ⟨gb127, 1, none⟩ = some (.slice A0_1 l0_1.length c0_1) := (zac BK127.out 1).trans rfl; have hcz29_2 : w27.cell? ⟨gb127, 2, none⟩ = some (.int .i64 a0_2) := (zac BK127.out 2).trans rfl; have hcz29_3 : w27.cell? ⟨gb127, 3, none⟩ = some (.int .i64 a0_3) := (zac BK127.out 3).trans rfl; have hcz29_4 : w27.cell? ⟨gb127, 4, none⟩ = some (.bool a0_4) := (zac BK127.out 4).trans rfl; have hcz29_5 : w27.cell? ⟨gb127, 5, none⟩ = some (.string a0_5) := (zac BK127.out 5).trans rfl; have hcz29_6 : w27.cell? ⟨gb127, 6, none⟩ = some (.slice A0_6 l0_6.length c0_6) := (zac BK127.out 6).trans rfl; have hfz29_0 := zaa BK127.out 0; have hfz29_1 := zaa BK127.out 1; have hfz29_2 := zaa BK127.out 2; have hfz29_3 := zaa BK127.out 3; have hfz29_4 := zaa BK127.out 4; have hfz29_5 := zaa BK127.out 5; have hfz29_6 := zaa BK127.out 6; have hcz30_0 : w27.cell? ⟨gb128, 0, none⟩ = some (.string a1_0) := (zac BK128.out 0).trans rfl; have hcz30_1 : w27.cell? ⟨gb128, 1, none⟩ = some (.slice A1_1 l1_1.length c1_1) := (zac BK128.out 1).trans rfl; have hcz30_2 : w27.cell? ⟨gb128, 2, none⟩ = some (.int .i64 a1_2) := (zac BK128.out 2).trans rfl; have hcz30_3 : w27.cell? ⟨gb128, 3, none⟩ = some (.int .i64 a1_3) := (zac BK128.out 3).trans rfl; have hcz30_4 : w27.cell? ⟨gb128, 4, none⟩ = some (.bool a1_4) := (zac BK128.out 4).trans rfl; have hcz30_5 : w27.cell? ⟨gb128, 5, none⟩ = some (.string a1_5) := (zac BK128.out 5).trans rfl; have hcz30_6 : w27.cell? ⟨gb128, 6, none⟩ = some (.slice A1_6 l1_6.length c1_6) := (zac BK128.out 6).trans rfl; have hfz30_0 := zaa BK128.out 0; have hfz30_1 := zaa BK128.out 1; have hfz30_2 := zaa BK128.out 2; have hfz30_3 := zaa BK128.out 3; have hfz30_4 := zaa BK128.out 4; have hfz30_5 := zaa BK128.out 5; have hfz30_6 := zaa BK128.out 6))
     go_ret
     exact ⟨by first | rfl | (simp [zan, zam] <;> rfl) | (simp [*, zan, zam] <;> rfl), by repeat (first | (with_reducible first | exact HB.out | apply zab | apply zad | apply zae | refine zaf ?_ GE127.out | refine zaf ?_ GE128.out) | exact HB.out)⟩
   ·rw [if_neg c5] at H
    have c5b0 : (a0_4 == a1_4) = false := by simpa using c5
    (try (have c5b1 : decide (a0_4 = a1_4) = false := by simpa using c5))
    (try (have c5b2 : (a0_4 == a1_4) = false := by simpa using c5))
    (try (have c5b3 : ¬ (a0_4 = a1_4) := by simpa using c5))
    clear c5
    obtain rfl := Option.some.inj H
    go_enter Try.func28, Try.ntmps28
    go_wp2_with (first | ((with_reducible refine zaw (N := 2) rfl ?_); refine zas ?hg (N := 2) ?hd (cs := #[.string a0_0, .slice A0_1 l0_1.length c0_1, .int .i64 a0_2, .int .i64 a0_3, .bool a0_4, .string a0_5, .slice A0_6 l0_6.length c0_6]) (t := 40) ?hr ?_; (case hd => rfl); (case hg => rfl); (case hr => first | (go_simp; done) | (go_simp; rfl)); intro gb127 hg w31 hbox hb; have n0_ := Aside0.mk (zah (by repeat (first | (with_reducible first | exact HB.out | apply zab | apply zad | apply zae) | exact HB.out)) hb); have n1_ := Aside0.mk (hbox); have n2_ := Aside0.mk ((by rw [hg]; exact (zao (by repeat (first | (with_reducible first | exact HB.out | apply zab | apply zad | apply zae) | exact HB.out))) : w.heap.size ≤ gb127)); have n3_ := Aside0.mk ((by rw [hg]; exact (zao (by repeat (first | (with_reducible first | exact HB.out | apply zab | apply zad | apply zae) | exact HB.out))) : w.heap.size ≤ gb127)); clear HB; have HB := n0_; have BK127 := n1_; have GW127 := n2_; have GE127 := n3_; clear n0_ n1_ n2_ n3_; clear hb hbox hg) | ((with_reducible refine zaw (N := 3) rfl ?_); refine zas ?hg (N := 3) ?hd (cs := #[.string a1_0, .slice A1_1 l1_1.length c1_1, .int .i64 a1_2, .int .i64 a1_3, .bool a1_4, .string a1_5, .slice A1_6 l1_6.length c1_6]) (t := 40) ?hr ?_; (case hd => rfl); (case hg => rfl); (case hr => first | (go_simp; done) | (go_simp; rfl)); intro gb128 hg w32 hbox hb; have n0_ := Aside0.mk (zak (g := gb127) (o := .cells #[.string a0_0, .slice A0_1 l0_1.length c0_1, .int .i64 a0_2, .int .i64 a0_3, .bool a0_4, .string a0_5, .slice A0_6 l0_6.length c0_6] 40 (0, 0)) (by (with_reducible repeat (first | refine zai ?_ _ | refine zal ?_ | refine zag ?_ _)); exact BK127.out) hb); have n1_ := Aside0.mk (zah (by repeat (first | (with_reducible first | exact HB.out | apply zab | apply zad | apply zae | refine zaf ?_ GE127.out) | exact HB.out)) hb); have n2_ := Aside0.mk (hbox); have n3_ := Aside0.mk ((by rw [hg]; exact (zao (by repeat (first | (with_reducible first | exact HB.out | apply zab | apply zad | apply zae | refine zaf ?_ GE127.out) | exact HB.out))) : w.heap.size ≤ gb128)); have n4_ := Aside0.mk ((by rw [hg]; exact (zao (by repeat (first | (with_reducible first | exact HB.out | apply zab | apply zad | apply zae | refine zaf ?_ GE127.out) | exact HB.out))) : w.heap.size ≤ gb128)); have n5_ := Aside0.mk ((by rw [hg]; exact Nat.ne_of_lt (zaA (g := gb127) (o := .cells #[.string a0_0, .slice A0_1 l0_1.length c0_1, .int .i64 a0_2, .int .i64 a0_3, .bool a0_4, .string a0_5, .slice A0_6 l0_6.length c0_6] 40 (0, 0)) (by (with_reducible repeat (first | refine zai ?_ _ | refine zal ?_ | refine zag ?_ _)); exact BK127.out)) : gb127 ≠ gb128)); have n6_ := Aside0.mk ((by rw [hg]; exact Nat.ne_of_gt (zaA (g := gb127) (o := .cells #[.string a0_0, .slice A0_1 l0_1.length c0_1, .int .i64 a0_2, .int .i64 a0_3, .bool a0_4, .string a0_5, .slice A0_6 l0_6.length c0_6] 40 (0, 0)) (by (with_reducible repeat (first | refine zai ?_ _ | refine zal ?_ | refine zag ?_ _)); exact BK127.out)) : gb128 ≠ gb127)); clear BK127; clear HB; have BK127 := n0_; have HB := n1_; have BK128 := n2_; have GW128 := n3_; have GE128 := n4_; have NB127_128 := n5_; have NB128_127 := n6_; clear n0_ n1_ n2_ n3_ n4_ n5_ n6_; clear hb hbox hg; have hnb33 := NB127_128.out; have hnc33 := NB128_127.out; have hcz34_0 : w32.cell? ⟨gb127, 0, none⟩ = some (.string a0_0) := (zac BK127.out 0).trans rfl; have hcz34_1 : w32.cell? ⟨gb127, 1, none⟩ = some (.slice A0_1 l0_1.length c0_1) := (zac BK127.out 1).trans rfl; have hcz34_2 : w32.cell? ⟨gb127, 2, none⟩ = some (.int .i64 a0_2) := (zac BK127.out 2).trans rfl; have hcz34_3 : w32.cell? ⟨gb127, 3, none⟩ = some (.int .i64 a0_3) := (zac BK127.out 3).trans rfl; have hcz34_4 : w32.cell? ⟨gb127, 4, none⟩ = some (.bool a0_4) := (zac BK127.out 4).trans rfl; have hcz34_5 : w32.cell? ⟨gb127, 5, none⟩ = some (.string a0_5) := (zac BK127.out 5).trans rfl; have hcz34_6 : w32.cell? ⟨gb127, 6, none⟩ = some (.slice A0_6 l0_6.length c0_6) := (zac BK127.out 6).trans rfl; have hfz34_0 := zaa BK127.out 0; have hfz34_1 := zaa BK127.out 1; have hfz34_2 := zaa BK127.out 2; have hfz34_3 := zaa BK127.out 3; have hfz34_4 := zaa BK127.out 4; have hfz34_5 := zaa BK127.out 5; have hfz34_6 := zaa BK127.out 6; have hcz35_0 : w32.cell? ⟨gb128, 0, none⟩ = some (.string a1_0) := (zac BK128.out 0).trans rfl; have hcz35_1 : w32.cell? ⟨gb128, 1, none⟩ = some (.slice A1_1 l1_1.length c1_1) := (zac BK128.out 1).trans rfl; have hcz35_2 : w32.cell? ⟨gb128, 2, none⟩ = some (.int .i64 a1_2) := (zac BK128.out 2).trans rfl; have hcz35_3 : w32.cell? ⟨gb128, 3, none⟩ = some (.int .i64 a1_3) := (zac BK128.out 3).trans rfl; have hcz35_4 : w32.cell? ⟨gb128, 4, none⟩ = some (.bool a1_4) := (zac BK128.out 4).trans rfl; have hcz35_5 : w32.cell? ⟨gb128, 5, none⟩ = some (.string a1_5) := (zac BK128.out 5).trans rfl; have hcz35_6 : w32.cell? ⟨gb128, 6, none⟩ = some (.slice A1_6 l1_6.length c1_6) := (zac BK128.out 6).trans rfl; have hfz35_0 := zaa BK128.out 0; have hfz35_1 := zaa BK128.out 1; have hfz35_2 := zaa BK128.out 2; have hfz35_3 := zaa BK128.out 3; have hfz35_4 := zaa BK128.out 4; have hfz35_5 := zaa BK128.out 5; have hfz35_6 := zaa BK128.out 6))
    go_ret
    exact ⟨by first | rfl | (simp [zan, zam] <;> rfl) | (simp [*, zan, zam] <;> rfl), by repeat (first | (with_reducible first | exact HB.out | apply zab | apply zad | apply zae | refine zaf ?_ GE127.out | refine zaf ?_ GE128.out) | exact HB.out)⟩
  ·rw [if_neg c4] at H
   have c4b0 : (a0_5.toList == a1_5.toList) = false := beq_eq_false_iff_ne.mpr c4
   have c4b1 : (a0_5.toList != a1_5.toList) = true := bne_iff_ne.mpr c4
   obtain rfl := Option.some.inj H
   go_enter Try.func28, Try.ntmps28
   go_wp2_with (first | ((with_reducible refine zaw (N := 2) rfl ?_); refine zas ?hg (N := 2) ?hd (cs := #[.string a0_0, .slice A0_1 l0_1.length c0_1, .int .i64 a0_2, .int .i64 a0_3, .bool a0_4, .string a0_5, .slice A0_6 l0_6.length c0_6]) (t := 40) ?hr ?_; (case hd => rfl); (case hg => rfl); (case hr => first | (go_simp; done) | (go_simp; rfl)); intro gb127 hg w36 hbox hb; have n0_ := Aside0.mk (zah (by repeat (first | (with_reducible first | exact HB.out | apply zab | apply zad | apply zae) | exact HB.out)) hb); have n1_ := Aside0.mk (hbox); have n2_ := Aside0.mk ((by rw [hg]; exact (zao (by repeat (first | (with_reducible first | exact HB.out | apply zab | apply zad | apply zae) | exact HB.out))) : w.heap.size ≤ gb127)); have n3_ := Aside0.mk ((by rw [hg]; exact (zao (by repeat (first | (with_reducible first | exact HB.out | apply zab | apply zad | apply zae) | exact HB.out))) : w.heap.size ≤ gb127)); clear HB; have HB := n0_; have BK127 := n1_; have GW127 := n2_; have GE127 := n3_; clear n0_ n1_ n2_ n3_; clear hb hbox hg) | ((with_reducible refine zaw (N := 3) rfl ?_); refine zas ?hg (N := 3) ?hd (cs := #[.string a1_0, .slice A1_1 l1_1.length c1_1, .int .i64 a1_2, .int .i64 a1_3, .bool a1_4, .string a1_5, .slice A1_6 l1_6.length c1_6]) (t := 40) ?hr ?_; (case hd => rfl); (case hg => rfl); (case hr => first | (go_simp; done) | (go_simp; rfl)); intro gb128 hg w37 hbox hb; have n0_ := Aside0.mk (zak (g := gb127) (o := .cells #[.string a0_0, .slice A0_1 l0_1.length c0_1, .int .i64 a0_2, .int .i64 a0_3, .bool a0_4, .string a0_5, .slice A0_6 l0_6.length c0_6] 40 (0, 0)) (by (with_reducible repeat (first | refine zai ?_ _ | refine zal ?_ | refine zag ?_ _)); exact BK127.out) hb); have n1_ := Aside0.mk (zah (by repeat (first | (with_reducible first | exact HB.out | apply zab | apply zad | apply zae | refine zaf ?_ GE127.out) | exact HB.out)) hb); have n2_ := Aside0.mk (hbox); have n3_ := Aside0.mk ((by rw [hg]; exact (zao (by repeat (first | (with_reducible first | exact HB.out | apply zab | apply zad | apply zae | refine zaf ?_ GE127.out) | exact HB.out))) : w.heap.size ≤ gb128)); have n4_ := Aside0.mk ((by rw [hg]; exact (zao (by repeat (first | (with_reducible first | exact HB.out | apply zab | apply zad | apply zae | refine zaf ?_ GE127.out) | exact HB.out))) : w.heap.size ≤ gb128)); have n5_ := Aside0.mk ((by rw [hg]; exact Nat.ne_of_lt (zaA (g := gb127) (o := .cells #[.string a0_0, .slice A0_1 l0_1.length c0_1, .int .i64 a0_2, .int .i64 a0_3, .bool a0_4, .string a0_5, .slice A0_6 l0_6.length c0_6] 40 (0, 0)) (by (with_reducible repeat (first | refine zai ?_ _ | refine zal ?_ | refine zag ?_ _)); exact BK127.out)) : gb127 ≠ gb128)); have n6_ := Aside0.mk ((by rw [hg]; exact Nat.ne_of_gt (zaA (g := gb127) (o := .cells #[.string a0_0, .slice A0_1 l0_1.length c0_1, .int .i64 a0_2, .int .i64 a0_3, .bool a0_4, .string a0_5, .slice A0_6 l0_6.length c0_6] 40 (0, 0)) (by (with_reducible repeat (first | refine zai ?_ _ | refine zal ?_ | refine zag ?_ _)); exact BK127.out)) : gb128 ≠ gb127)); clear BK127; clear HB; have BK127 := n0_; have HB := n1_; have BK128 := n2_; have GW128 := n3_; have GE128 := n4_; have NB127_128 := n5_; have NB128_127 := n6_; clear n0_ n1_ n2_ n3_ n4_ n5_ n6_; clear hb hbox hg; have hnb38 := NB127_128.out; have hnc38 := NB128_127.out; have hcz39_0 : w37.cell? ⟨gb127, 0, none⟩ = some (.string a0_0) := (zac BK127.out 0).trans rfl; have hcz39_1 : w37.cell? ⟨gb127, 1, none⟩ = some (.slice A0_1 l0_1.length c0_1) := (zac BK127.out 1).trans rfl; have hcz39_2 : w37.cell? ⟨gb127, 2, none⟩ = some (.int .i64 a0_2) := (zac BK127.out 2).trans rfl; have hcz39_3 : w37.cell? ⟨gb127, 3, none⟩ = some (.int .i64 a0_3) := (zac BK127.out 3).trans rfl; have hcz39_4 : w37.cell? ⟨gb127, 4, none⟩ = some (.bool a0_4) := (zac BK127.out 4).trans rfl; have hcz39_5 : w37.cell? ⟨gb127, 5, none⟩ = some (.string a0_5) := (zac BK127.out 5).trans rfl; have hcz39_6 : w37.cell? ⟨gb127, 6, none⟩ = some (.slice A0_6 l0_6.length c0_6) := (zac BK127.out 6).trans rfl; have hfz39_0 := zaa BK127.out 0; have hfz39_1 := zaa BK127.out 1; have hfz39_2 := zaa BK127.out 2; have hfz39_3 := zaa BK127.out 3; have hfz39_4 := zaa BK127.out 4; have hfz39_5 := zaa BK127.out 5; have hfz39_6 := zaa BK127.out 6; have hcz40_0 : w37.cell? ⟨gb128, 0, none⟩ = some (.string a1_0) := (zac BK128.out 0).trans rfl; have hcz40_1 : w37.cell? ⟨gb128, 1, none⟩ = some (.slice A1_1 l1_1.length c1_1) := (zac BK128.out 1).trans rfl; have hcz40_2 : w37.cell? ⟨gb128, 2, none⟩ = some (.int .i64 a1_2) := (zac BK128.out 2).trans rfl; have hcz40_3 : w37.cell? ⟨gb128, 3, none⟩ = some (.int .i64 a1_3) := (zac BK128.out 3).trans rfl; have hcz40_4 : w37.cell? ⟨gb128, 4, none⟩ = some (.bool a1_4) := (zac BK128.out 4).trans rfl; have hcz40_5 : w37.cell? ⟨gb128, 5, none⟩ = some (.string a1_5) := (zac BK128.out 5).trans rfl; have hcz40_6 : w37.cell? ⟨gb128, 6, none⟩ = some (.slice A1_6 l1_6.length c1_6) := (zac BK128.out 6).trans rfl; have hfz40_0 := zaa BK128.out 0; have hfz40_1 := zaa BK128.out 1; have hfz40_2 := zaa BK128.out 2; have hfz40_3 := zaa BK128.out 3; have hfz40_4 := zaa BK128.out 4; have hfz40_5 := zaa BK128.out 5; have hfz40_6 := zaa BK128.out 6))
   go_ret
   exact ⟨by first | rfl | (simp [zan, zam] <;> rfl) | (simp [*, zan, zam] <;> rfl), by repeat (first | (with_reducible first | exact HB.out | apply zab | apply zad | apply zae | refine zaf ?_ GE127.out | refine zaf ?_ GE128.out) | exact HB.out)⟩
 ·rw [if_neg c3] at H
  have c3b0 : (a0_0.toList == a1_0.toList) = false := beq_eq_false_iff_ne.mpr c3
  have c3b1 : (a0_0.toList != a1_0.toList) = true := bne_iff_ne.mpr c3
  obtain rfl := Option.some.inj H
  go_enter Try.func28, Try.ntmps28
  go_wp2_with (first | ((with_reducible refine zaw (N := 2) rfl ?_); refine zas ?hg (N := 2) ?hd (cs := #[.string a0_0, .slice A0_1 l0_1.length c0_1, .int .i64 a0_2, .int .i64 a0_3, .bool a0_4, .string a0_5, .slice A0_6 l0_6.length c0_6]) (t := 40) ?hr ?_; (case hd => rfl); (case hg => rfl); (case hr => first | (go_simp; done) | (go_simp; rfl)); intro gb127 hg w41 hbox hb; have n0_ := Aside0.mk (zah (by repeat (first | (with_reducible first | exact HB.out | apply zab | apply zad | apply zae) | exact HB.out)) hb); have n1_ := Aside0.mk (hbox); have n2_ := Aside0.mk ((by rw [hg]; exact (zao (by repeat (first | (with_reducible first | exact HB.out | apply zab | apply zad | apply zae) | exact HB.out))) : w.heap.size ≤ gb127)); have n3_ := Aside0.mk ((by rw [hg]; exact (zao (by repeat (first | (with_reducible first | exact HB.out | apply zab | apply zad | apply zae) | exact HB.out))) : w.heap.size ≤ gb127)); clear HB; have HB := n0_; have BK127 := n1_; have GW127 := n2_; have GE127 := n3_; clear n0_ n1_ n2_ n3_; clear hb hbox hg) | ((with_reducible refine zaw (N := 3) rfl ?_); refine zas ?hg (N := 3) ?hd (cs := #[.string a1_0, .slice A1_1 l1_1.length c1_1, .int .i64 a1_2, .int .i64 a1_3, .bool a1_4, .string a1_5, .slice A1_6 l1_6.length c1_6]) (t := 40) ?hr ?_; (case hd => rfl); (case hg => rfl); (case hr => first | (go_simp; done) | (go_simp; rfl)); intro gb128 hg w42 hbox hb; have n0_ := Aside0.mk (zak (g := gb127) (o := .cells #[.string a0_0, .slice A0_1 l0_1.length c0_1, .int .i64 a0_2, .int .i64 a0_3, .bool a0_4, .string a0_5, .slice A0_6 l0_6.length c0_6] 40 (0, 0)) (by (with_reducible repeat (first | refine zai ?_ _ | refine zal ?_ | refine zag ?_ _)); exact BK127.out) hb); have n1_ := Aside0.mk (zah (by repeat (first | (with_reducible first | exact HB.out | apply zab | apply zad | apply zae | refine zaf ?_ GE127.out) | exact HB.out)) hb); have n2_ := Aside0.mk (hbox); have n3_ := Aside0.mk ((by rw [hg]; exact (zao (by repeat (first | (with_reducible first | exact HB.out | apply zab | apply zad | apply zae | refine zaf ?_ GE127.out) | exact HB.out))) : w.heap.size ≤ gb128)); have n4_ := Aside0.mk ((by rw [hg]; exact (zao (by repeat (first | (with_reducible first | exact HB.out | apply zab | apply zad | apply zae | refine zaf ?_ GE127.out) | exact HB.out))) : w.heap.size ≤ gb128)); have n5_ := Aside0.mk ((by rw [hg]; exact Nat.ne_of_lt (zaA (g := gb127) (o := .cells #[.string a0_0, .slice A0_1 l0_1.length c0_1, .int .i64 a0_2, .int .i64 a0_3, .bool a0_4, .string a0_5, .slice A0_6 l0_6.length c0_6] 40 (0, 0)) (by (with_reducible repeat (first | refine zai ?_ _ | refine zal ?_ | refine zag ?_ _)); exact BK127.out)) : gb127 ≠ gb128)); have n6_ := Aside0.mk ((by rw [hg]; exact Nat.ne_of_gt (zaA (g := gb127) (o := .cells #[.string a0_0, .slice A0_1 l0_1.length c0_1, .int .i64 a0_2, .int .i64 a0_3, .bool a0_4, .string a0_5, .slice A0_6 l0_6.length c0_6] 40 (0, 0)) (by (with_reducible repeat (first | refine zai ?_ _ | refine zal ?_ | refine zag ?_ _)); exact BK127.out)) : gb128 ≠ gb127)); clear BK127; clear HB; have BK127 := n0_; have HB := n1_; have BK128 := n2_; have GW128 := n3_; have GE128 := n4_; have NB127_128 := n5_; have NB128_127 := n6_; clear n0_ n1_ n2_ n3_ n4_ n5_ n6_; clear hb hbox hg; have hnb43 := NB127_128.out; have hnc43 := NB128_127.out; have hcz44_0 : w42.cell? ⟨gb127, 0, none⟩ = some (.string a0_0) := (zac BK127.out 0).trans rfl; have hcz44_1 : w42.cell? ⟨gb127, 1, none⟩ = some (.slice A0_1 l0_1.length c0_1) := (zac BK127.out 1).trans rfl; have hcz44_2 : w42.cell? ⟨gb127, 2, none⟩ = some (.int .i64 a0_2) := (zac BK127.out 2).trans rfl; have hcz44_3 : w42.cell? ⟨gb127, 3, none⟩ = some (.int .i64 a0_3) := (zac BK127.out 3).trans rfl; have hcz44_4 : w42.cell? ⟨gb127, 4, none⟩ = some (.bool a0_4) := (zac BK127.out 4).trans rfl; have hcz44_5 : w42.cell? ⟨gb127, 5, none⟩ = some (.string a0_5) := (zac BK127.out 5).trans rfl; have hcz44_6 : w42.cell? ⟨gb127, 6, none⟩ = some (.slice A0_6 l0_6.length c0_6) := (zac BK127.out 6).trans rfl; have hfz44_0 := zaa BK127.out 0; have hfz44_1 := zaa BK127.out 1; have hfz44_2 := zaa BK127.out 2; have hfz44_3 := zaa BK127.out 3; have hfz44_4 := zaa BK127.out 4; have hfz44_5 := zaa BK127.out 5; have hfz44_6 := zaa BK127.out 6; have hcz45_0 : w42.cell? ⟨gb128, 0, none⟩ = some (.string a1_0) := (zac BK128.out 0).trans rfl; have hcz45_1 : w42.cell? ⟨gb128, 1, none⟩ = some (.slice A1_1 l1_1.length c1_1) := (zac BK128.out 1).trans rfl; have hcz45_2 : w42.cell? ⟨gb128, 2, none⟩ = some (.int .i64 a1_2) := (zac BK128.out 2).trans rfl; have hcz45_3 : w42.cell? ⟨gb128, 3, none⟩ = some (.int .i64 a1_3) := (zac BK128.out 3).trans rfl; have hcz45_4 : w42.cell? ⟨gb128, 4, none⟩ = some (.bool a1_4) := (zac BK128.out 4).trans rfl; have hcz45_5 : w42.cell? ⟨gb128, 5, none⟩ = some (.string a1_5) := (zac BK128.out 5).trans rfl; have hcz45_6 : w42.cell? ⟨gb128, 6, none⟩ = some (.slice A1_6 l1_6.length c1_6) := (zac BK128.out 6).trans rfl; have hfz45_0 := zaa BK128.out 0; have hfz45_1 := zaa BK128.out 1; have hfz45_2 := zaa BK128.out 2; have hfz45_3 := zaa BK128.out 3; have hfz45_4 := zaa BK128.out 4; have hfz45_5 := zaa BK128.out 5; have hfz45_6 := zaa BK128.out 6))
  go_ret
  exact ⟨by first | rfl | (simp [zan, zam] <;> rfl) | (simp [*, zan, zam] <;> rfl), by repeat (first | (with_reducible first | exact HB.out | apply zab | apply zad | apply zae | refine zaf ?_ GE127.out | refine zaf ?_ GE128.out) | exact HB.out)⟩
end Go.Proofs.Ytooemobolfoefaa.P


namespace Go.Proofs.Ytooemobolfoefaa.P
open Go.RowKit Go.Proofs.YtooemobolfoefaaW.PrintWords Go.Proofs.YtooemobolfoefaaW.PrintLast Go.Proofs.YtooemobolfoefaaW.PrintMore
set_option linter.unusedVariables false
theorem sameO_any (a b : List SOp) (hl : a.length ≤ 9223372036854775807) {k : Nat} (hk : a.length < k) : expr_Same.f k a b = some (eqO a b) := by
 unfold expr_Same.f slices_Equal_api_Op.f eqO
 by_cases he : a.length = b.length
 ·have h := equalO_loop a b hl he a.length 0 k (by omega) (by omega) (fun j h => by omega)
  rw [if_pos (by omega), show slices_Equal_api_Op.l0 k a b (a.length : Int) 0 = _ from h, Option.bind_some]
 ·rw [if_neg (by omega), eqf_len he, Option.bind_some]
def eqSt (x y : SStep) : Bool := decide (x.f0.toList = y.f0.toList) && (decide (x.f5.toList = y.f5.toList) && ((x.f4 == y.f4) && ((x.f2 == y.f2) && ((x.f3 == y.f3) && (eqO x.f1 y.f1 && eqO x.f6 y.f6)))))
theorem eqSt_iff {x y : SStep} : eqSt x y = true ↔ x = y := by
 unfold eqSt
 simp only [Bool.and_eq_true, decide_eq_true_eq, beq_iff_eq, eqO_iff]
 constructor
 ·rintro ⟨h0, h5, h4, h2, h3, h1, h6⟩
  obtain ⟨a0, a1, a2, a3, a4, a5, a6⟩ := x
  obtain ⟨b0, b1, b2, b3, b4, b5, b6⟩ := y
  obtain rfl : a0 = b0 := toList_inj h0
  obtain rfl : a5 = b5 := toList_inj h5
  obtain rfl : a4 = b4 := h4
  obtain rfl : a2 = b2 := h2
  obtain rfl : a3 = b3 := h3
  obtain rfl : a1 = b1 := h1
  obtain rfl : a6 = b6 := h6
  rfl
 ·rintro rfl
  exact ⟨rfl, rfl, rfl, rfl, rfl, rfl, rfl⟩
theorem alike_is (x y : SStep) {k : Nat} (h1 : x.f1.length < k) (h6 : x.f6.length < k) (l1 : x.f1.length ≤ 9223372036854775807) (l6 : x.f6.length ≤ 9223372036854775807) : query_alike.f k x.f0 x.f1 x.f2 x.f3 x.f4 x.f5 x.f6 y.f0 y.f1 y.f2 y.f3 y.f4 y.f5 y.f6 = some (eqSt x y) := by
 unfold query_alike.f eqSt
 simp only [sameO_any _ _ l1 h1, sameO_any _ _ l6 h6, Option.bind_some]
 by_cases c0 : x.f0.toList = y.f0.toList
 ·rw [if_pos c0, decide_eq_true c0, Bool.true_and]
  by_cases c5 : x.f5.toList = y.f5.toList
  ·rw [if_pos c5, decide_eq_true c5, Bool.true_and]
   cases c4 : (x.f4 == y.f4) with
   | false => rfl
   | true =>
    rw [if_pos rfl, Bool.true_and]
    by_cases c2 : x.f2 = y.f2
    ·rw [if_pos c2, beq_iff_eq.2 c2, Bool.true_and]
     by_cases c3 : x.f3 = y.f3
     ·rw [if_pos c3, beq_iff_eq.2 c3, Bool.true_and]
      cases eqO x.f1 y.f1 <;> cases eqO x.f6 y.f6 <;> rfl
     ·rw [if_neg c3, beq_eq_false_iff_ne.2 c3, Bool.false_and]
    ·rw [if_neg c2, beq_eq_false_iff_ne.2 c2, Bool.false_and]
  ·rw [if_neg c5, decide_eq_false c5, Bool.false_and]
 ·rw [if_neg c0, decide_eq_false c0, Bool.false_and]
def eqQ (p q : SQuery) : Bool := (p.f2 == q.f2) && ((p.f3 == q.f3) && ((p.f4 == q.f4) && ((p.f1 == q.f1) && eqf eqSt zStep p.f0 q.f0)))
theorem eqQ_iff {p q : SQuery} : eqQ p q = true ↔ p = q := by
 unfold eqQ
 simp only [Bool.and_eq_true, beq_iff_eq, eqf_iff]
 constructor
 ·rintro ⟨h2, h3, h4, h1, h0, hs⟩
  obtain ⟨a0, a1, a2, a3, a4⟩ := p
  obtain ⟨b0, b1, b2, b3, b4⟩ := q
  obtain rfl : a2 = b2 := h2
  obtain rfl : a3 = b3 := h3
  obtain rfl : a4 = b4 := h4
  obtain rfl : a1 = b1 := h1
  have : a0 = b0 := by
   refine List.ext_getElem h0 (fun i hi hj => ?_)
   have := eqSt_iff.1 (hs i hi)
   simpa [List.getD, hi, hj] using this
  rw [this]
 ·rintro rfl
  exact ⟨rfl, rfl, rfl, rfl, rfl, fun i _ => eqSt_iff.2 rfl⟩
theorem eqQ_symm (p q : SQuery) : eqQ p q = eqQ q p := by
 rw [Bool.eq_iff_iff, eqQ_iff, eqQ_iff]
 exact eq_comm
theorem eqQ_refl (p : SQuery) : eqQ p p = true := eqQ_iff.2 rfl
end Go.Proofs.Ytooemobolfoefaa.P

