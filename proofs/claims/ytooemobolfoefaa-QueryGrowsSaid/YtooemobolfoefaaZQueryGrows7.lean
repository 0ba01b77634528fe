/- What QueryGrows's row stands on: words, contracts of the functions that it reaches, plain facts, its walk (part 7): no condition but those that each theorem names. -/
import Derived.Test.YtooemobolfoefaaZQueryGrows6
set_option linter.unusedVariables false
set_option linter.unusedSimpArgs false
namespace Go.Proofs.Ytooemobolfoefaa.P
open Go.RowKit Go.Proofs.YtooemobolfoefaaW.PrintWords Go.Proofs.YtooemobolfoefaaW.PrintLast Go.Proofs.YtooemobolfoefaaW.PrintMore
attribute [local go_sem] za1 zaZ zbb zba zaU zaT za0 zaY   -- for this text's walks alone
set_option linter.unusedVariables false
set_option linter.unusedSimpArgs false
def zby (w0 : World) (B : Nat) (V : Value) (k : Bool) (r : Except Int (List SValue)) (e : Ending) (w' : World) : Prop := match r with
 | .ok q => e = .returned (.int .i64 0) ∧ pileRel w0 B V k q w'
 | .error n => e = .returned (.int .i64 n) ∧ ∃ q, pileRel w0 B V k q w'
theorem at_thing {w : World} {ad : Addr} {n : Nat} {xs : List SValue} (h : Kd.C kThing w (some ad) n xs) (i : Nat) (hi : i < n) : w.cell? (ad.add i) = some (thV (xs.getD i zaN)) := by
 obtain ⟨ad', c, e, hl, hK, hcell⟩ := Kd.C_get h zaN (i : Int) (by omega) (by omega)
 cases e
 have hK2 : c = [thV (xs.getD ((i : Int).toNat) zaN)] := hK
 subst hK2
 have := hcell 0 _ rfl
 rw [show kThing.sz = 1 from rfl, Nat.mul_one, Nat.add_zero, Int.toNat_natCast] at this
 exact this
theorem zbd (a : Addr) : a.add 0 = a := by simp [Addr.add]
theorem at_last {w : World} {ad : Addr} {xs : List SValue} {m : Nat} (h : Kd.C kThing w (some ad) 1 (xs.drop m)) (hm : xs.length = m + 1) : w.cell? ad = some (thV (xs.getD m zaN)) := by
 have := at_thing h 0 (by decide)
 rw [zbd] at this
 rw [this]
 congr 2
 simp [List.getD]
theorem lay_tru (w0 : World) (B : Nat) (V : Value) (k : Bool) (xs : List SValue) (b : Bool) (w : World) (h : pileRel w0 B V k xs w) (hB : B < w0.heap.size) (hl : xs.length ≤ 1000) :
  Calls Try.prog 74 #[.pointer (some ⟨B, 0, none⟩), .iface 133 (.bool b)] w fun e w' => e = .returned (.tuple #[]) ∧ pileRel w0 B V k (xs ++ [truV b]) w' := by
 have := lay_told w0 B V k xs (truV b) w h hB hl
 rwa [thV_tru] at this
set_option maxHeartbeats 1000000 in
set_option maxRecDepth 100000 in
theorem not_told (w0 : World) (B : Nat) (V : Value) (k : Bool) (xs : List SValue) (w : World) (h : pileRel w0 B V k xs w) (hB : B < w0.heap.size) (hl : xs.length ≤ 1000) (hok : okVs xs) {r : Except Int (List SValue)}
  (hr : (if xs.length < 1 then .error 2 else if (xs.getD (xs.length - 1) zaN).f0 = 1 then .ok (xs.take (xs.length - 1) ++ [truV (!((xs.getD (xs.length - 1) zaN).f1 == 1))]) else .error 5 : Except Int (List SValue)) = r) :
  Calls Try.prog 76 #[.pointer (some ⟨B, 0, none⟩)] w (zby w0 B V k r) := by
 have HH := Aside0.mk h
 by_cases hn : xs.length < 1
 ·rw [if_pos hn] at hr
  subst hr
  clear h hok
  go_enter Try.func76, Try.ntmps76
  go_wp2_with fail
  go_at_call 77
  refine (take_no w0 B 1 V k xs _ HH.out hn (by decide)).mono ?_
  rintro e w1 ⟨rfl, rfl⟩
  go_wp2_with fail
  go_ret
  exact ⟨rfl, xs, HH.out⟩
 rw [if_neg hn] at hr
 obtain ⟨m, hm⟩ : ∃ m, xs.length = m + 1 := ⟨xs.length - 1, by omega⟩
 rw [show xs.length - 1 = m from by omega] at hr
 have hat := okVs_at hok (i := m) (by omega)
 obtain ⟨x, hx⟩ : ∃ x, xs.getD m zaN = x := ⟨_, rfl⟩
 rw [hx] at hr hat
 have HX := Aside0.mk hx
 obtain ⟨t, v, f, hx1, hx2, hx3, hx4, ⟨px, hx5⟩, _, hx7, _, _, _⟩ := zaV hat.1
 have HX1 := Aside0.mk hx1
 clear hx1 hx2 hx3 hx4 hat hok h hx
 by_cases h1 : x.f0 = 1
 ·rw [if_pos h1] at hr
  subst hr
  have a1 := hx7 h1
  clear hx5 hx7
  go_enter Try.func76, Try.ntmps76
  go_wp2_with fail
  go_at_call 77
  refine (take_told w0 B 1 V k xs _ HH.out hB (by decide) (by decide) hl (by omega)).mono ?_
  rintro e w1 ⟨A, c, ⟨rfl, hc, hC⟩, hp, hsp⟩
  rw [show xs.length - 1 = m from by omega] at hC hp
  have HC := Aside0.mk hC
  have HP := Aside0.mk hp
  have hcell := at_last hC hm
  rw [HX.out, HX1.out] at hcell
  have hcell2 : w1.cell? (A.add 0) = some (.iface t v) := by rw [zbd]; exact hcell
  clear hC hp hsp
  go_wp2_with fail
  go_at_call 74
  refine (lay_tru w0 B V k (xs.take m) (!(x.f1 == 1)) _ HP.out hB (by rw [List.length_take]; omega)).mono ?_
  rintro e w2 ⟨rfl, hp2⟩
  have HP2 := Aside0.mk hp2
  clear hp2
  go_wp2_with fail
  go_ret
  exact ⟨rfl, HP2.out⟩
 ·rw [if_neg h1] at hr
  subst hr
  have h1b : (x.f0 == 1) = false := beq_eq_false_iff_ne.2 h1
  rw [h1b] at hx5
  clear hx7 h1 h1b
  go_enter Try.func76, Try.ntmps76
  go_wp2_with fail
  go_at_call 77
  refine (take_told w0 B 1 V k xs _ HH.out hB (by decide) (by decide) hl (by omega)).mono ?_
  rintro e w1 ⟨A, c, ⟨rfl, hc, hC⟩, hp, hsp⟩
  rw [show xs.length - 1 = m from by omega] at hC hp
  have HP := Aside0.mk hp
  have hcell := at_last hC hm
  rw [HX.out, HX1.out] at hcell
  have hcell2 : w1.cell? (A.add 0) = some (.iface t v) := by rw [zbd]; exact hcell
  clear hC hp hsp
  go_wp2_with fail
  go_ret
  exact ⟨rfl, _, HP.out⟩
set_option maxHeartbeats 1000000 in
set_option maxRecDepth 100000 in
theorem of_told (x : SValue) (w : World) : Calls Try.prog 75 #[.agg #[.int .i64 x.f0, .int .i64 x.f1, .string x.f2]] w (valPost (thV x) w) := by
 unfold thV
 by_cases h0 : x.f0 = 0
 ·rw [if_pos h0]
  have h0b : (x.f0 == 0) = true := beq_iff_eq.2 h0
  go_enter Try.func75, Try.ntmps75
  go_wp2
  go_ret
  exact ⟨rfl, zaa (Below.refl _ _) _⟩
 ·rw [if_neg h0]
  have h0b : (x.f0 == 0) = false := beq_eq_false_iff_ne.2 h0
  by_cases h1 : x.f0 = 1
  ·rw [if_pos h1]
   have h1b : (x.f0 == 1) = true := beq_iff_eq.2 h1
   go_enter Try.func75, Try.ntmps75
   go_wp2
   go_ret
   exact ⟨rfl, zaa (Below.refl _ _) _⟩
  ·rw [if_neg h1]
   have h1b : (x.f0 == 1) = false := beq_eq_false_iff_ne.2 h1
   go_enter Try.func75, Try.ntmps75
   go_wp2
   go_ret
   exact ⟨rfl, zaa (Below.refl _ _) _⟩
set_option maxHeartbeats 1000000 in
set_option maxRecDepth 100000 in
theorem part_push (w0 : World) (B : Nat) (Av : Option Addr) (cv : Nat) (vs : List SValue) (k : Bool) (xs : List SValue) (x : SOp) (w : World) (h : pileRel w0 B (.slice Av vs.length cv) k xs w) (hB : B < w0.heap.size) (hl : xs.length ≤ 1000) (hok : okVs xs) (hv : Kd.C kValue w Av vs.length vs) (hvk : okVs vs) (hx : okV x.f2) (hc : x.f0 = 0) : Calls Try.prog 71 #[.pointer (some ⟨B, 0, none⟩), .agg #[.int .i64 x.f0, .int .i64 x.f1, .int .i64 x.f2.f0, .int .i64 x.f2.f1, .string x.f2.f2]] w (zby w0 B (.slice Av vs.length cv) k (.ok (xs ++ [x.f2]))) := by
 have HH := Aside0.mk h
 have hc0 : (x.f0 == 0) = true := beq_iff_eq.2 hc
 clear h hok hv hvk hx hc
 go_enter Try.func71, Try.ntmps71
 go_wp2_with fail
 go_at_call 75
 refine (of_told x.f2 _).mono ?_
 rintro e w1 ⟨rfl, hb1⟩
 have HP1 := Aside0.mk (HH.out.below (zah (zaa (Below.refl _ _) _) hb1))
 clear hb1
 go_wp2_with fail
 go_at_call 74
 refine (lay_told w0 B _ k xs x.f2 _ HP1.out hB hl).mono ?_
 rintro e w2 ⟨rfl, hp2⟩
 have HP2 := Aside0.mk hp2
 clear hp2
 go_wp2_with fail
 go_ret
 exact ⟨rfl, HP2.out⟩
set_option maxHeartbeats 1000000 in
set_option maxRecDepth 100000 in
theorem part_none (w0 : World) (B : Nat) (Av : Option Addr) (cv : Nat) (vs : List SValue) (k : Bool) (xs : List SValue) (x : SOp) (w : World) (h : pileRel w0 B (.slice Av vs.length cv) k xs w) (hB : B < w0.heap.size) (hl : xs.length ≤ 1000) (hok : okVs xs) (hv : Kd.C kValue w Av vs.length vs) (hvk : okVs vs) (hx : okV x.f2) (hc : x.f0 = 1) (h0 : 0 ≤ x.f1) (hi : ¬ x.f1.toNat < vs.length) : Calls Try.prog 71 #[.pointer (some ⟨B, 0, none⟩), .agg #[.int .i64 x.f0, .int .i64 x.f1, .int .i64 x.f2.f0, .int .i64 x.f2.f1, .string x.f2.f2]] w (zby w0 B (.slice Av vs.length cv) k (.error 3)) := by
 have HH := Aside0.mk h
 have hc0 : (x.f0 == 0) = false := beq_eq_false_iff_ne.2 (by omega)
 have hc1 : (x.f0 == 1) = true := beq_iff_eq.2 hc
 have hge : (vs.length : Int) ≤ x.f1 := by omega
 have hged : decide ((vs.length : Int) ≤ x.f1) = true := decide_eq_true hge
 obtain ⟨v, hb, ho, hs⟩ := h
 obtain ⟨A, c, rfl⟩ := Kd.R_slice ho
 unfold zbn at hb
 obtain ⟨k1, k2, k3, k4⟩ := know hb
 obtain ⟨q1, q2, q3, q4⟩ := know (zaw w (.cells #[.int .i64 x.f0, .int .i64 x.f1, .int .i64 x.f2.f0, .int .i64 x.f2.f1, .string x.f2.f2] 75))
 have HK := Aside0.mk (zag hb (.cells #[.int .i64 x.f0, .int .i64 x.f1, .int .i64 x.f2.f0, .int .i64 x.f2.f1, .string x.f2.f2] 75))
 have hcp : ∀ m, ((w.alloc (.cells #[.int .i64 x.f0, .int .i64 x.f1, .int .i64 x.f2.f0, .int .i64 x.f2.f1, .string x.f2.f2] 75)).drewN m).cell? ⟨B, 1, none⟩ = some (.slice Av vs.length cv) := fun m => zad (zai HK.out m) 1
 have hcq : ∀ m, ((w.alloc (.cells #[.int .i64 x.f0, .int .i64 x.f1, .int .i64 x.f2.f0, .int .i64 x.f2.f1, .string x.f2.f2] 75)).drewN m).cell? ⟨w.heap.size, 1, none⟩ = some (.int .i64 x.f1) := fun m => zad (zai (zaw w (.cells #[.int .i64 x.f0, .int .i64 x.f1, .int .i64 x.f2.f0, .int .i64 x.f2.f1, .string x.f2.f2] 75)) m) 1
 clear hok hv hvk hx hc ho hs hb
 go_enter Try.func71, Try.ntmps71
 go_wp2_with fail
 go_quiet (fail)
 go_wp2_with fail
 go_ret
 exact ⟨rfl, _, HH.out.below (zac (zaa (Below.refl _ _) _) _)⟩
set_option maxHeartbeats 1000000 in
set_option maxRecDepth 100000 in
theorem part_load (w0 : World) (B : Nat) (Av : Option Addr) (cv : Nat) (vs : List SValue) (k : Bool) (xs : List SValue) (x : SOp) (w : World) (h : pileRel w0 B (.slice Av vs.length cv) k xs w) (hB : B < w0.heap.size) (hl : xs.length ≤ 1000) (hok : okVs xs) (hv : Kd.C kValue w Av vs.length vs) (hvk : okVs vs) (hx : okV x.f2) (hc : x.f0 = 1) (h0 : 0 ≤ x.f1) (hi : x.f1.toNat < vs.length) : Calls Try.prog 71 #[.pointer (some ⟨B, 0, none⟩), .agg #[.int .i64 x.f0, .int .i64 x.f1, .int .i64 x.f2.f0, .int .i64 x.f2.f1, .string x.f2.f2]] w (zby w0 B (.slice Av vs.length cv) k (.ok (xs ++ [vs.getD x.f1.toNat zaN]))) := by
 have HH := Aside0.mk h
 have hc0 : (x.f0 == 0) = false := beq_eq_false_iff_ne.2 (by omega)
 have hc1 : (x.f0 == 1) = true := beq_iff_eq.2 hc
 have hge : ¬ (vs.length : Int) ≤ x.f1 := by omega
 have hged : decide ((vs.length : Int) ≤ x.f1) = false := decide_eq_false hge
 have hlt : x.f1 < (vs.length : Int) := by omega
 obtain ⟨v, hb, ho, hs⟩ := h
 obtain ⟨A, c, rfl⟩ := Kd.R_slice ho
 unfold zbn at hb
 obtain ⟨k1, k2, k3, k4⟩ := know hb
 obtain ⟨q1, q2, q3, q4⟩ := know (zaw w (.cells #[.int .i64 x.f0, .int .i64 x.f1, .int .i64 x.f2.f0, .int .i64 x.f2.f1, .string x.f2.f2] 75))
 have HK := Aside0.mk (zag hb (.cells #[.int .i64 x.f0, .int .i64 x.f1, .int .i64 x.f2.f0, .int .i64 x.f2.f1, .string x.f2.f2] 75))
 have hcp : ∀ m, ((w.alloc (.cells #[.int .i64 x.f0, .int .i64 x.f1, .int .i64 x.f2.f0, .int .i64 x.f2.f1, .string x.f2.f2] 75)).drewN m).cell? ⟨B, 1, none⟩ = some (.slice Av vs.length cv) := fun m => zad (zai HK.out m) 1
 have hcq : ∀ m, ((w.alloc (.cells #[.int .i64 x.f0, .int .i64 x.f1, .int .i64 x.f2.f0, .int .i64 x.f2.f1, .string x.f2.f2] 75)).drewN m).cell? ⟨w.heap.size, 1, none⟩ = some (.int .i64 x.f1) := fun m => zad (zai (zaw w (.cells #[.int .i64 x.f0, .int .i64 x.f1, .int .i64 x.f2.f0, .int .i64 x.f2.f1, .string x.f2.f2] 75)) m) 1
 obtain ⟨ad, e, z0, z1, z2⟩ := at_TValue hv x.f1 h0 hlt
 subst e
 rw [show rd_TValue vs x.f1 = vs.getD x.f1.toNat zaN from rfl] at z0 z1 z2
 obtain ⟨y, hy⟩ : ∃ y, vs.getD x.f1.toNat zaN = y := ⟨_, rfl⟩
 rw [hy] at z0 z1 z2 ⊢
 clear hok hv hvk hx hc ho hs hb hy
 go_enter Try.func71, Try.ntmps71
 go_wp2_with fail
 go_quiet (fail)
 go_wp2_with fail
 have HPQ := Aside0.mk (HH.out.below (zac (zaa (Below.refl _ _) (.cells #[.int .i64 x.f0, .int .i64 x.f1, .int .i64 x.f2.f0, .int .i64 x.f2.f1, .string x.f2.f2] 75)) nq))
 have f1 := hcp nq
 have f2 := hcq nq
 have f3 : ((w.alloc (.cells #[.int .i64 x.f0, .int .i64 x.f1, .int .i64 x.f2.f0, .int .i64 x.f2.f1, .string x.f2.f2] 75)).drewN nq).cell? (ad.add (x.f1.toNat * 3)) = some (Value.int IntKind.i64 y.f0) := zaH (zac (zaa (Below.refl _ _) (.cells #[.int .i64 x.f0, .int .i64 x.f1, .int .i64 x.f2.f0, .int .i64 x.f2.f1, .string x.f2.f2] 75)) nq) z0
 have f4 := zaH (zac (zaa (Below.refl _ _) (.cells #[.int .i64 x.f0, .int .i64 x.f1, .int .i64 x.f2.f0, .int .i64 x.f2.f1, .string x.f2.f2] 75)) nq) z1
 have f5 := zaH (zac (zaa (Below.refl _ _) (.cells #[.int .i64 x.f0, .int .i64 x.f1, .int .i64 x.f2.f0, .int .i64 x.f2.f1, .string x.f2.f2] 75)) nq) z2
 have HSZ := Aside0.mk (show w.heap.size < ((w.alloc (.cells #[.int .i64 x.f0, .int .i64 x.f1, .int .i64 x.f2.f0, .int .i64 x.f2.f1, .string x.f2.f2] 75)).drewN nq).heap.size by simp)
 obtain ⟨W1, hW1⟩ : ∃ W1, (w.alloc (.cells #[.int .i64 x.f0, .int .i64 x.f1, .int .i64 x.f2.f0, .int .i64 x.f2.f1, .string x.f2.f2] 75)).drewN nq = W1 := ⟨_, rfl⟩
 rw [hW1] at f1 f2 f3 f4 f5 HPQ ⊢
 clear q1 q2 q3 q4 k1 k2 k3 k4 HK hcp hcq z0 z1 z2 hW1 HSZ HH
 go_region_law (first
  | (go_simp; go_at_call 75; refine (of_told y _).mono ?_; rintro e w1 ⟨rfl, hb1⟩)
  | (go_simp; go_at_call 74; refine (lay_told w0 B _ k xs y _ (HPQ.out.below (zah (zaW (Below.refl _ _)) hb1)) hB hl).mono ?_; rintro e w2 ⟨rfl, hp2⟩))
 all_goals
  go_wp2_with fail
  go_ret
  exact ⟨rfl, hp2⟩
set_option maxHeartbeats 1000000 in
set_option maxRecDepth 100000 in
theorem part_not (w0 : World) (B : Nat) (Av : Option Addr) (cv : Nat) (vs : List SValue) (k : Bool) (xs : List SValue) (x : SOp) (w : World) (h : pileRel w0 B (.slice Av vs.length cv) k xs w) (hB : B < w0.heap.size) (hl : xs.length ≤ 1000) (hok : okVs xs) (hv : Kd.C kValue w Av vs.length vs) (hvk : okVs vs) (hx : okV x.f2) (hc : x.f0 = 9) {r : Except Int (List SValue)} (hr : stepV vs k x xs = r) : Calls Try.prog 71 #[.pointer (some ⟨B, 0, none⟩), .agg #[.int .i64 x.f0, .int .i64 x.f1, .int .i64 x.f2.f0, .int .i64 x.f2.f1, .string x.f2.f2]] w (zby w0 B (.slice Av vs.length cv) k r) := by
 have HH := Aside0.mk h
 have hc0 : (x.f0 == 0) = false := beq_eq_false_iff_ne.2 (by omega)
 have hc1 : (x.f0 == 1) = false := beq_eq_false_iff_ne.2 (by omega)
 have hc9 : (x.f0 == 9) = true := beq_iff_eq.2 hc
 unfold stepV at hr
 rw [if_neg (by omega), if_neg (by omega), if_pos hc] at hr
 have HR := Aside0.mk hr
 clear h hv hvk hx hc hr
 go_enter Try.func71, Try.ntmps71
 go_wp2_with fail
 go_at_call 76
 refine (not_told w0 B _ k xs _ (HH.out.below (zaa (Below.refl _ _) _)) hB hl hok HR.out).mono ?_
 intro e w1 hp
 unfold zby at hp ⊢
 cases r with
 | ok q =>
  obtain ⟨rfl, hp1⟩ := hp
  go_wp2_with fail
  go_ret
  exact ⟨rfl, hp1⟩
 | error n =>
  obtain ⟨rfl, hp1⟩ := hp
  go_wp2_with fail
  go_ret
  exact ⟨rfl, hp1⟩
set_option maxHeartbeats 1000000 in
set_option maxRecDepth 100000 in
theorem part_few (w0 : World) (B : Nat) (Av : Option Addr) (cv : Nat) (vs : List SValue) (k : Bool) (xs : List SValue) (x : SOp) (w : World) (h : pileRel w0 B (.slice Av vs.length cv) k xs w) (hB : B < w0.heap.size) (hl : xs.length ≤ 1000) (hok : okVs xs) (hv : Kd.C kValue w Av vs.length vs) (hvk : okVs vs) (hx : okV x.f2) (hc0 : ¬ x.f0 = 0) (hc1 : ¬ x.f0 = 1) (hc9 : ¬ x.f0 = 9) (hn : xs.length < 2) : Calls Try.prog 71 #[.pointer (some ⟨B, 0, none⟩), .agg #[.int .i64 x.f0, .int .i64 x.f1, .int .i64 x.f2.f0, .int .i64 x.f2.f1, .string x.f2.f2]] w (zby w0 B (.slice Av vs.length cv) k (.error 2)) := by
 have HH := Aside0.mk h
 have hd0 : (x.f0 == 0) = false := beq_eq_false_iff_ne.2 hc0
 have hd1 : (x.f0 == 1) = false := beq_eq_false_iff_ne.2 hc1
 have hd9 : (x.f0 == 9) = false := beq_eq_false_iff_ne.2 hc9
 clear h hv hvk hx hc0 hc1 hc9
 go_enter Try.func71, Try.ntmps71
 go_wp2_with fail
 go_at_call 77
 refine (take_no w0 B 2 _ k xs _ (HH.out.below (zaa (Below.refl _ _) _)) hn (by decide)).mono ?_
 rintro e w1 ⟨rfl, rfl⟩
 go_wp2_with fail
 go_ret
 exact ⟨rfl, _, HH.out.below (zaa (Below.refl _ _) _)⟩
theorem at_two {w : World} {ad : Addr} {xs : List SValue} {m : Nat} (h : Kd.C kThing w (some ad) 2 (xs.drop m)) (hm : xs.length = m + 2) : w.cell? ad = some (thV (xs.getD m zaN)) ∧ w.cell? ⟨ad.block, ad.off + 1, none⟩ = some (thV (xs.getD (m + 1) zaN)) := by
 have h0 := at_thing h 0 (by decide)
 have h1 := at_thing h 1 (by decide)
 rw [zbd] at h0
 rw [zaA _ _ 1 (by omega)] at h1
 have e0 : (xs.drop m).getD 0 zaN = xs.getD m zaN := by simp [List.getD]
 have e1 : (xs.drop m).getD 1 zaN = xs.getD (m + 1) zaN := by simp [List.getD]
 rw [e0] at h0
 rw [e1] at h1
 exact ⟨h0, h1⟩
set_option maxHeartbeats 20000000 in
set_option maxRecDepth 100000 in
theorem part_two (w0 : World) (B : Nat) (Av : Option Addr) (cv : Nat) (vs : List SValue) (k : Bool) (xs : List SValue) (x : SOp) (w : World) (h : pileRel w0 B (.slice Av vs.length cv) k xs w) (hB : B < w0.heap.size) (hl : xs.length ≤ 1000) (hok : okVs xs) (hv : Kd.C kValue w Av vs.length vs) (hvk : okVs vs) (hx : okV x.f2) (hc0 : ¬ x.f0 = 0) (hc1 : ¬ x.f0 = 1) (hc9 : ¬ x.f0 = 9) (hn : 2 ≤ xs.length) {y : SValue} (hr : twoV x.f0 (xs.getD (xs.length - 2) zaN) (xs.getD (xs.length - 1) zaN) = .ok y) : Calls Try.prog 71 #[.pointer (some ⟨B, 0, none⟩), .agg #[.int .i64 x.f0, .int .i64 x.f1, .int .i64 x.f2.f0, .int .i64 x.f2.f1, .string x.f2.f2]] w (zby w0 B (.slice Av vs.length cv) k (.ok (xs.take (xs.length - 2) ++ [y]))) := by
 have HH := Aside0.mk h
 have hd0 : (x.f0 == 0) = false := beq_eq_false_iff_ne.2 hc0
 have hd1 : (x.f0 == 1) = false := beq_eq_false_iff_ne.2 hc1
 have hd9 : (x.f0 == 9) = false := beq_eq_false_iff_ne.2 hc9
 obtain ⟨m, hm⟩ : ∃ m, xs.length = m + 2 := ⟨xs.length - 2, by omega⟩
 rw [show xs.length - 2 = m from by omega, show xs.length - 1 = m + 1 from by omega] at hr
 have ha := okVs_at hok (i := m) (by omega)
 have hb := okVs_at hok (i := m + 1) (by omega)
 obtain ⟨a, hea⟩ : ∃ a, xs.getD m zaN = a := ⟨_, rfl⟩
 obtain ⟨b, heb⟩ : ∃ b, xs.getD (m + 1) zaN = b := ⟨_, rfl⟩
 rw [hea] at hr ha
 rw [heb] at hr hb
 have HA := Aside0.mk ha
 have HB := Aside0.mk hb
 have HEA := Aside0.mk hea
 have HEB := Aside0.mk heb
 have HRR := Aside0.mk hr
 have HX := Aside0.mk (zaw w (.cells #[.int .i64 x.f0, .int .i64 x.f1, .int .i64 x.f2.f0, .int .i64 x.f2.f1, .string x.f2.f2] 75))
 clear h hv hvk hx hc0 hc1 hc9 ha hb hea heb hok hr
 go_enter Try.func71, Try.ntmps71
 go_wp2_with fail
 go_at_call 77
 refine (take_told w0 B 2 _ k xs _ (HH.out.below (zaa (Below.refl _ _) (.cells #[.int .i64 x.f0, .int .i64 x.f1, .int .i64 x.f2.f0, .int .i64 x.f2.f1, .string x.f2.f2] 75))) hB (by decide) (by decide) hl (by omega)).mono ?_
 rintro e w1 ⟨A, c, ⟨rfl, hc, hC⟩, hp, hsp⟩
 rw [show xs.length - 2 = m from by omega] at hC
 have hne : ¬ w.heap.size = B := by have := HH.out.size; omega
 have HX1 := Aside0.mk (hsp.blk HX.out hne)
 obtain ⟨q1, q2, q3, q4⟩ := know HX1.out
 obtain ⟨d0, d1⟩ := at_two hC hm
 rw [HEA.out] at d0
 rw [HEB.out] at d1
 have d0' : w1.cell? (A.add 0) = some (thV a) := by rw [zbd]; exact d0
 have HP := Aside0.mk hp
 obtain ⟨ta, va, hta⟩ := thV_iface a
 obtain ⟨tb, vb, htb⟩ := thV_iface b
 rw [hta] at d0 d0'
 rw [htb] at d1
 have HTW := Aside0.mk (fun W => two_told x.f0 a b W HA.out HB.out HRR.out)
 rw [hta, htb] at HTW
 clear hC hsp hp hne hta htb hc
 go_wp2_with fail
 have hq0 : w1.drew.cell? ⟨w.heap.size, 0, none⟩ = some (.int .i64 x.f0) := zad (zaj HX1.out) 0
 have hdd0 : w1.drew.cell? A = some (.iface ta va) := d0
 have hdd1 : w1.drew.cell? ⟨A.block, A.off + 1, none⟩ = some (.iface tb vb) := d1
 have hdd2 : w1.drew.cell? (A.add 0) = some (.iface ta va) := d0'
 go_region_held3 (fun w' => w'.cell? ⟨w.heap.size, 0, none⟩ = some (.int .i64 x.f0) ∧ w'.cell? A = some (.iface ta va) ∧ w'.cell? ⟨A.block, A.off + 1, none⟩ = some (.iface tb vb) ∧ w'.cell? (A.add 0) = some (.iface ta va))
  (first | go_keep | (go_split_ands; refine ⟨?_, ?_, ?_, ?_⟩ <;> (first | assumption | (apply zaH; (first | exact hb2); assumption))))
  (first
   | (go_at_call 78; refine (HTW.out _).mono ?_; rintro e w2 ⟨rfl, hb2⟩))
 all_goals
  have HP2 := Aside0.mk (HP.out.below (zah (zaW (Below.refl _ _)) hb2))
  rw [show xs.length - 2 = m from by omega] at HP2
  obtain ⟨v2, hk2, ho2, hs2⟩ := HP2.out
  obtain ⟨A2, c2, rfl⟩ := Kd.R_slice ho2
  unfold zbn at hk2
  obtain ⟨j1, j2, j3, j4⟩ := know hk2
  clear hk2 ho2 hs2 hb2 q1 q2 q3 q4 d0 d1 d0'
  have HLY := Aside0.mk (fun W h => lay_told w0 B (.slice Av vs.length cv) k (xs.take m) y W h hB (by rw [List.length_take]; omega))
  cases k
  all_goals
   go_wp2_with fail
   go_at_call 74
   refine (HLY.out _ HP2.out).mono ?_
   rintro e w3 ⟨rfl, hp3⟩
   go_wp2_with fail
   go_ret
   exact ⟨rfl, by rw [show xs.length - 2 = m from by omega]; exact hp3⟩
set_option maxHeartbeats 1000000 in
set_option maxRecDepth 100000 in
theorem part_err (w0 : World) (B : Nat) (Av : Option Addr) (cv : Nat) (vs : List SValue) (k : Bool) (xs : List SValue) (x : SOp) (w : World) (h : pileRel w0 B (.slice Av vs.length cv) k xs w) (hB : B < w0.heap.size) (hl : xs.length ≤ 1000) (hok : okVs xs) (hv : Kd.C kValue w Av vs.length vs) (hvk : okVs vs) (hx : okV x.f2) (hc0 : ¬ x.f0 = 0) (hc1 : ¬ x.f0 = 1) (hc9 : ¬ x.f0 = 9) (hn : 2 ≤ xs.length) {n : Int} (hr : twoV x.f0 (xs.getD (xs.length - 2) zaN) (xs.getD (xs.length - 1) zaN) = .error n) (hk : ¬ (k = true ∧ n = 6)) (hn0 : n ≠ 0) : Calls Try.prog 71 #[.pointer (some ⟨B, 0, none⟩), .agg #[.int .i64 x.f0, .int .i64 x.f1, .int .i64 x.f2.f0, .int .i64 x.f2.f1, .string x.f2.f2]] w (zby w0 B (.slice Av vs.length cv) k (.error n)) := by
 have HH := Aside0.mk h
 have hd0 : (x.f0 == 0) = false := beq_eq_false_iff_ne.2 hc0
 have hd1 : (x.f0 == 1) = false := beq_eq_false_iff_ne.2 hc1
 have hd9 : (x.f0 == 9) = false := beq_eq_false_iff_ne.2 hc9
 obtain ⟨m, hm⟩ : ∃ m, xs.length = m + 2 := ⟨xs.length - 2, by omega⟩
 rw [show xs.length - 2 = m from by omega, show xs.length - 1 = m + 1 from by omega] at hr
 have ha := okVs_at hok (i := m) (by omega)
 have hb := okVs_at hok (i := m + 1) (by omega)
 obtain ⟨a, hea⟩ : ∃ a, xs.getD m zaN = a := ⟨_, rfl⟩
 obtain ⟨b, heb⟩ : ∃ b, xs.getD (m + 1) zaN = b := ⟨_, rfl⟩
 rw [hea] at hr ha
 rw [heb] at hr hb
 have HA := Aside0.mk ha
 have HB := Aside0.mk hb
 have HEA := Aside0.mk hea
 have HEB := Aside0.mk heb
 have HRR := Aside0.mk hr
 have HX := Aside0.mk (zaw w (.cells #[.int .i64 x.f0, .int .i64 x.f1, .int .i64 x.f2.f0, .int .i64 x.f2.f1, .string x.f2.f2] 75))
 clear h hv hvk hx hc0 hc1 hc9 ha hb hea heb hok hr
 go_enter Try.func71, Try.ntmps71
 go_wp2_with fail
 go_at_call 77
 refine (take_told w0 B 2 _ k xs _ (HH.out.below (zaa (Below.refl _ _) (.cells #[.int .i64 x.f0, .int .i64 x.f1, .int .i64 x.f2.f0, .int .i64 x.f2.f1, .string x.f2.f2] 75))) hB (by decide) (by decide) hl (by omega)).mono ?_
 rintro e w1 ⟨A, c, ⟨rfl, hc, hC⟩, hp, hsp⟩
 rw [show xs.length - 2 = m from by omega] at hC
 have hne : ¬ w.heap.size = B := by have := HH.out.size; omega
 have HX1 := Aside0.mk (hsp.blk HX.out hne)
 obtain ⟨q1, q2, q3, q4⟩ := know HX1.out
 obtain ⟨d0, d1⟩ := at_two hC hm
 rw [HEA.out] at d0
 rw [HEB.out] at d1
 have d0' : w1.cell? (A.add 0) = some (thV a) := by rw [zbd]; exact d0
 have HP := Aside0.mk hp
 obtain ⟨ta, va, hta⟩ := thV_iface a
 obtain ⟨tb, vb, htb⟩ := thV_iface b
 rw [hta] at d0 d0'
 rw [htb] at d1
 have HTW := Aside0.mk (fun W => two_told x.f0 a b W HA.out HB.out HRR.out)
 rw [hta, htb] at HTW
 clear hC hsp hp hne hta htb hc
 go_wp2_with fail
 have hq0 : w1.drew.cell? ⟨w.heap.size, 0, none⟩ = some (.int .i64 x.f0) := zad (zaj HX1.out) 0
 have hdd0 : w1.drew.cell? A = some (.iface ta va) := d0
 have hdd1 : w1.drew.cell? ⟨A.block, A.off + 1, none⟩ = some (.iface tb vb) := d1
 have hdd2 : w1.drew.cell? (A.add 0) = some (.iface ta va) := d0'
 go_region_held3 (fun w' => w'.cell? ⟨w.heap.size, 0, none⟩ = some (.int .i64 x.f0) ∧ w'.cell? A = some (.iface ta va) ∧ w'.cell? ⟨A.block, A.off + 1, none⟩ = some (.iface tb vb) ∧ w'.cell? (A.add 0) = some (.iface ta va))
  (first | go_keep | (go_split_ands; refine ⟨?_, ?_, ?_, ?_⟩ <;> (first | assumption | (apply zaH; (first | exact hb2); assumption))))
  (first
   | (go_at_call 78; refine (HTW.out _).mono ?_; rintro e w2 ⟨rfl, hb2⟩))
 all_goals
  have HP2 := Aside0.mk (HP.out.below (zah (zaW (Below.refl _ _)) hb2))
  rw [show xs.length - 2 = m from by omega] at HP2
  obtain ⟨v2, hk2, ho2, hs2⟩ := HP2.out
  obtain ⟨A2, c2, rfl⟩ := Kd.R_slice ho2
  unfold zbn at hk2
  obtain ⟨j1, j2, j3, j4⟩ := know hk2
  clear hk2 ho2 hs2 hb2 q1 q2 q3 q4 d0 d1 d0'
  have hn0b : (n == 0) = false := beq_eq_false_iff_ne.2 hn0
  cases k
  ·go_wp2_with fail
   go_ret
   exact ⟨rfl, _, HP2.out⟩
  ·have hn6 : (n == 6) = false := beq_eq_false_iff_ne.2 (fun h => hk ⟨rfl, h⟩)
   go_wp2_with fail
   go_ret
   exact ⟨rfl, _, HP2.out⟩
set_option maxHeartbeats 1000000 in
set_option maxRecDepth 100000 in
theorem part_over (w0 : World) (B : Nat) (Av : Option Addr) (cv : Nat) (vs : List SValue) (k : Bool) (xs : List SValue) (x : SOp) (w : World) (h : pileRel w0 B (.slice Av vs.length cv) k xs w) (hB : B < w0.heap.size) (hl : xs.length ≤ 1000) (hok : okVs xs) (hv : Kd.C kValue w Av vs.length vs) (hvk : okVs vs) (hx : okV x.f2) (hc0 : ¬ x.f0 = 0) (hc1 : ¬ x.f0 = 1) (hc9 : ¬ x.f0 = 9) (hn : 2 ≤ xs.length) (hr : twoV x.f0 (xs.getD (xs.length - 2) zaN) (xs.getD (xs.length - 1) zaN) = .error 6) (hk : k = true) : Calls Try.prog 71 #[.pointer (some ⟨B, 0, none⟩), .agg #[.int .i64 x.f0, .int .i64 x.f1, .int .i64 x.f2.f0, .int .i64 x.f2.f1, .string x.f2.f2]] w (zby w0 B (.slice Av vs.length cv) k (.ok (xs.take (xs.length - 2) ++ [zeroV]))) := by
 subst hk
 have HH := Aside0.mk h
 have hd0 : (x.f0 == 0) = false := beq_eq_false_iff_ne.2 hc0
 have hd1 : (x.f0 == 1) = false := beq_eq_false_iff_ne.2 hc1
 have hd9 : (x.f0 == 9) = false := beq_eq_false_iff_ne.2 hc9
 obtain ⟨m, hm⟩ : ∃ m, xs.length = m + 2 := ⟨xs.length - 2, by omega⟩
 rw [show xs.length - 2 = m from by omega, show xs.length - 1 = m + 1 from by omega] at hr
 have ha := okVs_at hok (i := m) (by omega)
 have hb := okVs_at hok (i := m + 1) (by omega)
 obtain ⟨a, hea⟩ : ∃ a, xs.getD m zaN = a := ⟨_, rfl⟩
 obtain ⟨b, heb⟩ : ∃ b, xs.getD (m + 1) zaN = b := ⟨_, rfl⟩
 rw [hea] at hr ha
 rw [heb] at hr hb
 have HA := Aside0.mk ha
 have HB := Aside0.mk hb
 have HEA := Aside0.mk hea
 have HEB := Aside0.mk heb
 have HRR := Aside0.mk hr
 have HX := Aside0.mk (zaw w (.cells #[.int .i64 x.f0, .int .i64 x.f1, .int .i64 x.f2.f0, .int .i64 x.f2.f1, .string x.f2.f2] 75))
 clear h hv hvk hx hc0 hc1 hc9 ha hb hea heb hok hr
 go_enter Try.func71, Try.ntmps71
 go_wp2_with fail
 go_at_call 77
 refine (take_told w0 B 2 _ true xs _ (HH.out.below (zaa (Below.refl _ _) (.cells #[.int .i64 x.f0, .int .i64 x.f1, .int .i64 x.f2.f0, .int .i64 x.f2.f1, .string x.f2.f2] 75))) hB (by decide) (by decide) hl (by omega)).mono ?_
 rintro e w1 ⟨A, c, ⟨rfl, hc, hC⟩, hp, hsp⟩
 rw [show xs.length - 2 = m from by omega] at hC
 have hne : ¬ w.heap.size = B := by have := HH.out.size; omega
 have HX1 := Aside0.mk (hsp.blk HX.out hne)
 obtain ⟨q1, q2, q3, q4⟩ := know HX1.out
 obtain ⟨d0, d1⟩ := at_two hC hm
 rw [HEA.out] at d0
 rw [HEB.out] at d1
 have d0' : w1.cell? (A.add 0) = some (thV a) := by rw [zbd]; exact d0
 have HP := Aside0.mk hp
 obtain ⟨ta, va, hta⟩ := thV_iface a
 obtain ⟨tb, vb, htb⟩ := thV_iface b
 rw [hta] at d0 d0'
 rw [htb] at d1
 have HTW := Aside0.mk (fun W => two_told x.f0 a b W HA.out HB.out HRR.out)
 rw [hta, htb] at HTW
 clear hC hsp hp hne hta htb hc
 go_wp2_with fail
 have hq0 : w1.drew.cell? ⟨w.heap.size, 0, none⟩ = some (.int .i64 x.f0) := zad (zaj HX1.out) 0
 have hdd0 : w1.drew.cell? A = some (.iface ta va) := d0
 have hdd1 : w1.drew.cell? ⟨A.block, A.off + 1, none⟩ = some (.iface tb vb) := d1
 have hdd2 : w1.drew.cell? (A.add 0) = some (.iface ta va) := d0'
 go_region_held3 (fun w' => w'.cell? ⟨w.heap.size, 0, none⟩ = some (.int .i64 x.f0) ∧ w'.cell? A = some (.iface ta va) ∧ w'.cell? ⟨A.block, A.off + 1, none⟩ = some (.iface tb vb) ∧ w'.cell? (A.add 0) = some (.iface ta va))
  (first | go_keep | (go_split_ands; refine ⟨?_, ?_, ?_, ?_⟩ <;> (first | assumption | (apply zaH; (first | exact hb2); assumption))))
  (first
   | (go_at_call 78; refine (HTW.out _).mono ?_; rintro e w2 ⟨rfl, hb2⟩))
 all_goals
  have HP2 := Aside0.mk (HP.out.below (zah (zaW (Below.refl _ _)) hb2))
  rw [show xs.length - 2 = m from by omega] at HP2
  obtain ⟨v2, hk2, ho2, hs2⟩ := HP2.out
  obtain ⟨A2, c2, rfl⟩ := Kd.R_slice ho2
  unfold zbn at hk2
  obtain ⟨j1, j2, j3, j4⟩ := know hk2
  clear hk2 ho2 hs2 hb2 q1 q2 q3 q4 d0 d1 d0'
  have HLY := Aside0.mk (fun W h => lay_told w0 B (.slice Av vs.length cv) true (xs.take m) zeroV W h hB (by rw [List.length_take]; omega))
  rw [show thV zeroV = .iface 131 (.int .i64 0) from rfl] at HLY
  go_wp2_with fail
  go_at_call 74
  refine (HLY.out _ HP2.out).mono ?_
  rintro e w3 ⟨rfl, hp3⟩
  go_wp2_with fail
  go_ret
  exact ⟨rfl, by rw [show xs.length - 2 = m from by omega]; exact hp3⟩
theorem twoV_err {code : Int} {a b : SValue} {n : Int} (h : twoV code a b = .error n) : n ≠ 0 := by
 unfold twoV at h
 repeat' split at h
 all_goals first
  | (obtain rfl := Except.error.inj h; decide)
  | cases h
theorem stepV_err {v : List SValue} {k : Bool} {x : SOp} {p : List SValue} {n : Int} (h : stepV v k x p = .error n) : n ≠ 0 := by
 unfold stepV at h
 repeat' split at h
 all_goals first
  | (obtain rfl := Except.error.inj h; first | decide | (rename_i ht _; exact twoV_err ht) | (rename_i ht; exact twoV_err ht))
  | cases h
theorem part_told (w0 : World) (B : Nat) (Av : Option Addr) (cv : Nat) (vs : List SValue) (k : Bool) (xs : List SValue) (x : SOp) (w : World) (h : pileRel w0 B (.slice Av vs.length cv) k xs w) (hB : B < w0.heap.size) (hl : xs.length ≤ 1000) (hok : okVs xs) (hv : Kd.C kValue w Av vs.length vs) (hvk : okVs vs) (hx : okV x.f2) (h0 : 0 ≤ x.f1) {r : Except Int (List SValue)} (hr : stepV vs k x xs = r) : Calls Try.prog 71 #[.pointer (some ⟨B, 0, none⟩), .agg #[.int .i64 x.f0, .int .i64 x.f1, .int .i64 x.f2.f0, .int .i64 x.f2.f1, .string x.f2.f2]] w (zby w0 B (.slice Av vs.length cv) k r) := by
 have hr0 := hr
 unfold stepV at hr
 by_cases c0 : x.f0 = 0
 ·rw [if_pos c0] at hr; subst hr; exact part_push w0 B Av cv vs k xs x w h hB hl hok hv hvk hx c0
 rw [if_neg c0] at hr
 by_cases c1 : x.f0 = 1
 ·rw [if_pos c1] at hr
  by_cases hi : x.f1.toNat < vs.length
  ·rw [if_pos hi] at hr; subst hr; exact part_load w0 B Av cv vs k xs x w h hB hl hok hv hvk hx c1 h0 hi
  ·rw [if_neg hi] at hr; subst hr; exact part_none w0 B Av cv vs k xs x w h hB hl hok hv hvk hx c1 h0 hi
 rw [if_neg c1] at hr
 by_cases c9 : x.f0 = 9
 ·exact part_not w0 B Av cv vs k xs x w h hB hl hok hv hvk hx c9 hr0
 rw [if_neg c9] at hr
 by_cases hn : xs.length < 2
 ·rw [if_pos hn] at hr; subst hr; exact part_few w0 B Av cv vs k xs x w h hB hl hok hv hvk hx c0 c1 c9 hn
 rw [if_neg hn] at hr
 cases ht : twoV x.f0 (xs.getD (xs.length - 2) zaN) (xs.getD (xs.length - 1) zaN) with
 | ok y => rw [ht] at hr; subst hr; exact part_two w0 B Av cv vs k xs x w h hB hl hok hv hvk hx c0 c1 c9 (by omega) ht
 | error n =>
  rw [ht] at hr
  by_cases hk : k = true ∧ n = 6
  ·replace hr : (if k = true ∧ n = 6 then .ok (xs.take (xs.length - 2) ++ [zeroV]) else .error n : Except Int (List SValue)) = r := hr
   rw [if_pos hk] at hr
   subst hr
   obtain ⟨hk1, rfl⟩ := hk
   exact part_over w0 B Av cv vs k xs x w h hB hl hok hv hvk hx c0 c1 c9 (by omega) ht hk1
  ·replace hr : (if k = true ∧ n = 6 then .ok (xs.take (xs.length - 2) ++ [zeroV]) else .error n : Except Int (List SValue)) = r := hr
   rw [if_neg hk] at hr
   subst hr
   exact part_err w0 B Av cv vs k xs x w h hB hl hok hv hvk hx c0 c1 c9 (by omega) ht hk (twoV_err ht)
def throughRel (vs : List SValue) (k : Bool) (l : List SOp) (V : Value) (w0 : World) (B i : Nat) (w' : World) : Prop := ∃ p, i ≤ l.length ∧ okVs p ∧ p.length ≤ i ∧ runV vs k l [] = runV vs k (l.drop i) p ∧ pileRel w0 B V k p w'
def throughPost (y : SValue) (n : Int) (B : Nat) (w : World) (e : Ending) (w' : World) : Prop := e = .returned (.tuple #[.agg #[.int .i64 y.f0, .int .i64 y.f1, .string y.f2], .int .i64 n]) ∧ Spares (fun i => i = B) w w'
theorem Spares.old {S : Nat → Prop} {w w1 : World} {o : Obj} (h : Spares S (w.alloc o) w1) : Spares S w w1 := (Spares.of_below (zaa (Below.refl _ _) o)).trans h
set_option maxHeartbeats 8000000 in
set_option maxRecDepth 100000 in
theorem through_told (w : World) (B : Nat) (Av : Option Addr) (cv : Nat) (vs : List SValue) (k : Bool) (Al : Option Addr) (cl : Nat) (l : List SOp) (hb : w.heap[B]? = some (zbn (.slice none 0 0) (.slice Av vs.length cv) k)) (hvs : ∀ w', Spares (fun i => i = B) w w' → Kd.C kValue w' Av vs.length vs) (hls : ∀ w', Spares (fun i => i = B) w w' → Kd.C kOp w' Al l.length l) (hc : l.length ≤ cl) (hvk : okVs vs) (hm : mayO l = true) (hi64 : ∀ x ∈ l, i64V x.f2) {y : SValue} {n : Int} (hr : endV (runV vs k l []) = (y, n)) :
  Calls Try.prog 62 #[.pointer (some ⟨B, 0, none⟩), .slice Al l.length cl] w (throughPost y n B w) := by
 have hlen := (mayO_iff.1 hm).1
 have HMP := Aside0.mk (mayO_iff.1 hm).2
 have HI := Aside0.mk hi64
 have HVS := Aside0.mk hvs
 have HLS := Aside0.mk hls
 have HVK := Aside0.mk hvk
 have HR := Aside0.mk hr
 have hBw : B < w.heap.size := zay hb
 obtain ⟨o, ho⟩ : ∃ o : Obj, (.cells #[.int .i64 0, .int .i64 0, .string ⟨#[]⟩] 73) = o := ⟨_, rfl⟩
 have HO := Aside0.mk ho
 have HP0 : Aside0 (pileRel (w.alloc o) B (.slice Av vs.length cv) k [] (w.alloc o)) := ⟨⟨_, zag hb o, Kd.R_nil _ _ _ _ _, Spares.refl _ _⟩⟩
 have HNEW := Aside0.mk (zaw w o)
 have HB2 : Aside0 (B < (w.alloc o).heap.size) := ⟨by rw [World.size_alloc]; omega⟩
 have HWB : Aside0 (w.heap.size < (w.alloc o).heap.size ∧ ¬ w.heap.size = B) := ⟨by rw [World.size_alloc]; omega, by omega⟩
 subst ho
 clear hb hvs hls hvk hm hi64 hr
 go_enter Try.func62, Try.ntmps62
 go_wp2
 go_loopw [7, 8, 11] (fun _ _ v11 w' => ∃ i : Nat, v11 = .int .i64 i ∧ throughRel vs k l (.slice Av vs.length cv) (w.alloc (.cells #[.int .i64 0, .int .i64 0, .string ⟨#[]⟩] 73)) B i w') (fun _ _ i _ => l.length - (intOf i).toNat)
 case atStart => exact ⟨0, rfl, [], Nat.zero_le _, okVs_nil, Nat.le_refl _, rfl, HP0.out⟩
 case round =>
  obtain ⟨i, rfl, p, hi, hok, hpl, hrun, hp⟩ := hrel
  have HP := Aside0.mk hp
  have HRUN := Aside0.mk hrun
  have HOK := Aside0.mk hok
  have HLR := Aside0.mk (HLS.out wr (by obtain ⟨_, _, _, hs⟩ := hp; exact hs.old))
  have HVR := Aside0.mk (HVS.out wr (by obtain ⟨_, _, _, hs⟩ := hp; exact hs.old))
  clear hp hrun hok HP0
  by_cases hlt : i < l.length
  ·obtain ⟨ad, e, z0, z1, z2, z3, z4⟩ := at_TOp HLR.out (i : Int) (by omega) (by omega)
   subst e
   simp only [Int.toNat_natCast] at z0 z1 z2 z3 z4
   rw [show zaJ l (i : Int) = l.getD i zOp from rfl] at z0 z1 z2 z3 z4
   have hin := getD_in zOp hlt
   have HDR := Aside0.mk (drop_cons zOp l hlt)
   have hmp := HMP.out _ hin
   have hix := HI.out _ hin
   obtain ⟨x, hx⟩ : ∃ x, l.getD i zOp = x := ⟨_, rfl⟩
   rw [hx] at z0 z1 z2 z3 z4 hmp hix
   rw [hx] at HDR
   have hmq := mayP_iff.1 hmp
   have HKX : Aside0 (okV x.f2) := ⟨⟨hmq.2.2.2.2.2.2, hix⟩⟩
   have h0 := hmq.2.2.1
   cases hst : stepV vs k x p with
   | error m =>
    have hfin : endV (runV vs k l []) = (zeroV, m) := by rw [HRUN.out, HDR.out, runV_stop hst]; rfl
    rw [HR.out] at hfin
    simp only [Prod.mk.injEq] at hfin
    obtain ⟨rfl, rfl⟩ := hfin
    have HST := Aside0.mk hst
    have hn0 : (n != 0) = true := by rw [bne_iff_ne]; exact stepV_err hst
    have hn1 : (n == 0) = false := by rw [beq_eq_false_iff_ne]; exact stepV_err hst
    clear hst hmp hmq hix hin hx
    go_wp2_with fail
    go_at_call 71
    refine (part_told (w.alloc (.cells #[.int .i64 0, .int .i64 0, .string ⟨#[]⟩] 73)) B Av cv vs k p x _ (HP.out.below (zaa (Below.refl _ _) _)) HB2.out (by omega) HOK.out (Kd.C_below HVR.out (zaa (Below.refl _ _) _)) HVK.out HKX.out h0 HST.out).mono ?_
    rintro e w1 ⟨rfl, q, hq⟩
    have HQ := Aside0.mk hq
    obtain ⟨_, _, _, hs⟩ := hq
    have HZ := Aside0.mk (hs.blk HNEW.out HWB.out.2)
    obtain ⟨j1, j2, j3, j4⟩ := know HZ.out
    have HSP := Aside0.mk hs.old
    clear hs
    have hfz := zbB HZ.out (.int .i64 0) (.int .i64 0) (.string ⟨#[]⟩)
    have hz0 := zad hfz 0
    have hz1 := zad hfz 1
    have hz2 := zad hfz 2
    go_wp2_with fail
    exact bodyPost_ret (v := .tuple #[.agg #[.int .i64 0, .int .i64 0, .string ⟨#[]⟩], .int .i64 n]) (by simp [results, Try.results62, go_sem, hz0, hz1, hz2]) rfl ⟨rfl, Spares.set (Spares.set (HSP.out.set 0 (.inr (Nat.le_refl _)) _) 1 (.inr (Nat.le_refl _)) _) 2 (.inr (Nat.le_refl _)) _⟩
   | ok q =>
    have hq2 := stepV_ok HVK.out HKX.out HOK.out hst
    have hql := stepV_len hst
    have HNX : Aside0 (runV vs k l [] = runV vs k (l.drop (i + 1)) q) := ⟨by rw [HRUN.out, HDR.out, runV_cons hst]⟩
    have HQK := Aside0.mk hq2
    have HST := Aside0.mk hst
    clear hst hmp hmq hix hin hx hq2
    go_wp2_with fail
    go_at_call 71
    refine (part_told (w.alloc (.cells #[.int .i64 0, .int .i64 0, .string ⟨#[]⟩] 73)) B Av cv vs k p x _ (HP.out.below (zaa (Below.refl _ _) _)) HB2.out (by omega) HOK.out (Kd.C_below HVR.out (zaa (Below.refl _ _) _)) HVK.out HKX.out h0 HST.out).mono ?_
    rintro e w1 ⟨rfl, hq⟩
    have HQ := Aside0.mk hq
    clear hq
    go_wp2_with fail
    go_roundw
    case rel => exact ⟨i + 1, by go_num, q, by omega, HQK.out, by omega, HNX.out, HQ.out⟩
    case measure => simp [intOf]; omega
  ·obtain rfl : i = l.length := by omega
   have hrun := HRUN.out
   rw [List.drop_length] at hrun
   have hfin : endV (.ok p) = (y, n) := by rw [← HR.out, hrun]; rfl
   obtain ⟨v, hbk, hro, hsp⟩ := HP.out
   obtain ⟨A, c, rfl, hAc, hrd⟩ := Kd.R_reads hro
   unfold zbn at hbk
   have HZ := Aside0.mk (hsp.blk HNEW.out HWB.out.2)
   obtain ⟨j1, j2, j3, j4⟩ := know HZ.out
   obtain ⟨k1, k2, k3, k4⟩ := know hbk
   have HSP := Aside0.mk hsp.old
   have HOKP := Aside0.mk HOK.out
   clear hbk hro hsp hrun
   match p, hfin, hrd with
   | [], hfin, hrd =>
    simp only [endV, Prod.mk.injEq] at hfin
    obtain ⟨rfl, rfl⟩ := hfin
    have hfz := zbB HZ.out (.int .i64 0) (.int .i64 0) (.string ⟨#[]⟩)
    have hz0 := zad hfz 0
    have hz1 := zad hfz 1
    have hz2 := zad hfz 2
    go_wp2_with fail
    exact bodyPost_ret (v := .tuple #[.agg #[.int .i64 0, .int .i64 0, .string ⟨#[]⟩], .int .i64 2]) (by simp [results, Try.results62, go_sem, hz0, hz1, hz2]) rfl ⟨rfl, Spares.set (Spares.set (HSP.out.set 0 (.inr (Nat.le_refl _)) _) 1 (.inr (Nat.le_refl _)) _) 2 (.inr (Nat.le_refl _)) _⟩
   | [x], hfin, hrd =>
    simp only [endV, Prod.mk.injEq] at hfin
    obtain ⟨rfl, rfl⟩ := hfin
    obtain ⟨ad, e, _⟩ := hrd.2.2 (show 0 < 1 by decide)
    subst e
    have hat := at_thing hrd 0 (show 0 < 1 by decide)
    have hat2 : wr.cell? (ad.add 0) = some (thV x) := hat
    have hat3 : wr.cell? ad = some (thV x) := by rw [zbd] at hat2; exact hat2
    obtain ⟨t, v, f, hx1, hx2, hx3, hx4, _⟩ := zaV (HOKP.out x (List.mem_singleton.2 rfl)).1
    have HX4 := Aside0.mk hx4
    rw [hx1] at hat2 hat3
    clear hat hrd hx4 hx1
    go_wp2_with fail
    refine (HX4.out _).mono ?_
    rintro e w1 ⟨rfl, hb1⟩
    have HZ1 := Aside0.mk (zak HZ.out hb1)
    have HSP1 := Aside0.mk (HSP.out.step hb1)
    obtain ⟨i1, i2, i3, i4⟩ := know HZ1.out
    have hfz := zbB HZ1.out (.int .i64 x.f0) (.int .i64 x.f1) (.string x.f2)
    have hz0 := zad hfz 0
    have hz1 := zad hfz 1
    have hz2 := zad hfz 2
    clear hb1
    go_wp2_with fail
    exact bodyPost_ret (v := .tuple #[.agg #[.int .i64 x.f0, .int .i64 x.f1, .string x.f2], .int .i64 0]) (by simp [results, Try.results62, go_sem, hz0, hz1, hz2]) rfl ⟨rfl, Spares.set (Spares.set (HSP1.out.set 0 (.inr (Nat.le_refl _)) _) 1 (.inr (Nat.le_refl _)) _) 2 (.inr (Nat.le_refl _)) _⟩
   | x :: z :: q, hfin, hrd =>
    simp only [endV, Prod.mk.injEq] at hfin
    obtain ⟨rfl, rfl⟩ := hfin
    have hl2 : ((x :: z :: q).length : Int) = (q.length : Int) + 2 := by simp only [List.length_cons]; omega
    have hne : ((x :: z :: q).length : Int) ≠ 1 := by omega
    have hne2 : (((x :: z :: q).length : Int) != 1) = true := bne_iff_ne.2 hne
    have hne3 : (((x :: z :: q).length : Int) == 1) = false := beq_eq_false_iff_ne.2 hne
    clear hrd hl2 hne
    generalize (x :: z :: q).length = len at *
    have hfz := zbB HZ.out (.int .i64 0) (.int .i64 0) (.string ⟨#[]⟩)
    have hz0 := zad hfz 0
    have hz1 := zad hfz 1
    have hz2 := zad hfz 2
    go_wp2_with fail
    exact bodyPost_ret (v := .tuple #[.agg #[.int .i64 0, .int .i64 0, .string ⟨#[]⟩], .int .i64 2]) (by simp [results, Try.results62, go_sem, hz0, hz1, hz2]) rfl ⟨rfl, Spares.set (Spares.set (HSP.out.set 0 (.inr (Nat.le_refl _)) _) 1 (.inr (Nat.le_refl _)) _) 2 (.inr (Nat.le_refl _)) _⟩
def kindPost (y n : Int) (w : World) (e : Ending) (w' : World) : Prop := e = .returned (.tuple #[.int .i64 y, .int .i64 n]) ∧ Below w.heap.size w w'
def kindRel (F : List SField) (w : World) (B i : Nat) (w' : World) : Prop := ∃ v, i ≤ F.length ∧ w'.heap[B]? = some (zbn (.slice none 0 0) v true) ∧ Kd.R kValue 73 w' w.heap.size (fun _ => True) v ((F.take i).map fun f => (⟨f.f1, 0, ⟨#[]⟩⟩ : SValue)) ∧ Below w.heap.size w w'
theorem value_types : ∀ q, q ∈ 73 :: kValue.E → q ≠ 105 := by decide
theorem kindsOf_ok {x : SSchema} (h : mayS x = true) : okVs (kindsOf x) ∧ x.f2.length ≤ 6 := by
 obtain ⟨_, _, _, h6, hF⟩ := mayS_iff8.1 h
 refine ⟨fun v hv => ?_, h6⟩
 unfold kindsOf at hv
 obtain ⟨f, hf, rfl⟩ := List.mem_map.1 hv
 obtain ⟨i, hi, rfl⟩ := List.mem_iff_getElem.1 hf
 have hk := fieldOK_parts (hF i hi)
 rw [show x.f2.getD i zaO = x.f2[i] from by simp [List.getD, hi]] at hk
 have he : (⟨#[]⟩ : ByteArray).toList = [] := by decide +kernel
 have hs : (⟨#[]⟩ : ByteArray).size = 0 := rfl
 obtain ⟨_, hk0, hk4⟩ := hk
 refine ⟨mayV_iff.2 ?_, show -9223372036854775808 ≤ (0 : Int) ∧ (0 : Int) ≤ 9223372036854775807 by decide⟩
 show (x.f2[i].f1 = 0 ∧ (⟨#[]⟩ : ByteArray).toList = []) ∨ (x.f2[i].f1 = 1 ∧ (⟨#[]⟩ : ByteArray).toList = [] ∧ (0 : Int) ≤ 0 ∧ (0 : Int) < 2) ∨ (x.f2[i].f1 = 2 ∧ (0 : Int) = 0 ∧ (⟨#[]⟩ : ByteArray).size ≤ 40) ∨ (x.f2[i].f1 = 3 ∧ (⟨#[]⟩ : ByteArray).toList = [] ∧ (0 : Int) ≤ 0 ∧ (0 : Int) ≤ 1125899906842624)
 rw [he, hs]
 have h4 : x.f2[i].f1 = 0 ∨ x.f2[i].f1 = 1 ∨ x.f2[i].f1 = 2 ∨ x.f2[i].f1 = 3 := by omega
 rcases h4 with h | h | h | h
 ·exact .inl ⟨h, rfl⟩
 ·exact .inr (.inl ⟨h, rfl, by decide, by decide⟩)
 ·exact .inr (.inr (.inl ⟨h, rfl, by decide⟩))
 ·exact .inr (.inr (.inr ⟨h, rfl, by decide, by decide⟩))
set_option maxHeartbeats 1000000 in
set_option maxRecDepth 100000 in
theorem kind_no1 (x : SSchema) (A : Option Addr) (c : Nat) (l : List SOp) (Al : Option Addr) (cl : Nat) (w : World) (hr : Kd.C kField w A x.f2.length x.f2) (hc : x.f2.length ≤ c) (hl : Kd.C kOp w Al l.length l) (hlc : l.length ≤ cl) (hwl : ∀ x ∈ l, i64V x.f2) (h1 : mayS x = false) : Calls Try.prog 47 #[.agg #[.string x.f0, .int .i64 x.f1, .slice A x.f2.length c], .slice Al l.length cl] w (kindPost 0 1 w) := by
 have HR := Aside0.mk hr
 have HC := Aside0.mk hc
 have HL := Aside0.mk hl
 have HLC := Aside0.mk hlc
 have HWL := Aside0.mk hwl
 have HM1 := Aside0.mk (show schema_May.f x.f0 x.f1 x.f2 = some (mayS x) from rfl)
 rw [h1] at HM1
 clear hr hc hl hlc hwl h1
 go_enter Try.func47, Try.ntmps47
 go_wp2_with fail
 go_at_call 33
 refine (schema_May.calls x.f0 x.f1 A c x.f2 _ _ (Kd.C_below HR.out (zaa (Below.refl _ _) _)) HC.out HM1.out).mono ?_
 rintro e w1_ ⟨rfl, hb1_⟩
 have HB1_ := Aside0.mk (zah (zaa (Below.refl _ _) _) hb1_)
 have HKs1_ := Aside0.mk (zak (zaw _ _) hb1_)
 obtain ⟨ks1a_, ks1b_, ks1c_, ks1d_⟩ := know HKs1_.out
 clear hb1_
 go_wp2_with fail
 go_ret2
 exact ⟨rfl, HB1_.out⟩
set_option maxHeartbeats 1000000 in
set_option maxRecDepth 100000 in
theorem kind_no2 (x : SSchema) (A : Option Addr) (c : Nat) (l : List SOp) (Al : Option Addr) (cl : Nat) (w : World) (hr : Kd.C kField w A x.f2.length x.f2) (hc : x.f2.length ≤ c) (hl : Kd.C kOp w Al l.length l) (hlc : l.length ≤ cl) (hwl : ∀ x ∈ l, i64V x.f2) (h1 : mayS x = true) (h2 : mayO l = false) : Calls Try.prog 47 #[.agg #[.string x.f0, .int .i64 x.f1, .slice A x.f2.length c], .slice Al l.length cl] w (kindPost 0 1 w) := by
 have HR := Aside0.mk hr
 have HC := Aside0.mk hc
 have HL := Aside0.mk hl
 have HLC := Aside0.mk hlc
 have HWL := Aside0.mk hwl
 have HM1 := Aside0.mk (show schema_May.f x.f0 x.f1 x.f2 = some (mayS x) from rfl)
 rw [h1] at HM1
 have HM2 := Aside0.mk h2
 clear hr hc hl hlc hwl h1 h2
 go_enter Try.func47, Try.ntmps47
 go_wp2_with fail
 go_at_call 33
 refine (schema_May.calls x.f0 x.f1 A c x.f2 _ _ (Kd.C_below HR.out (zaa (Below.refl _ _) _)) HC.out HM1.out).mono ?_
 rintro e w1_ ⟨rfl, hb1_⟩
 have HB1_ := Aside0.mk (zah (zaa (Below.refl _ _) _) hb1_)
 have HKs1_ := Aside0.mk (zak (zaw _ _) hb1_)
 obtain ⟨ks1a_, ks1b_, ks1c_, ks1d_⟩ := know HKs1_.out
 clear hb1_
 go_wp2_with fail
 go_at_call 58
 refine (mayO_told l Al cl _ (Kd.C_below HL.out (HB1_.out)) HLC.out HWL.out HM2.out).mono ?_
 rintro e w2_ ⟨rfl, hb2_⟩
 have HB2_ := Aside0.mk (zah (HB1_.out) hb2_)
 have HKs2_ := Aside0.mk (zak (HKs1_.out) hb2_)
 obtain ⟨ks2a_, ks2b_, ks2c_, ks2d_⟩ := know HKs2_.out
 clear ks1a_ ks1b_ ks1c_ ks1d_
 clear hb2_
 go_wp2_with fail
 go_ret2
 exact ⟨rfl, HB2_.out⟩
set_option maxHeartbeats 8000000 in
set_option maxRecDepth 100000 in
theorem kind_go (x : SSchema) (A : Option Addr) (c : Nat) (l : List SOp) (Al : Option Addr) (cl : Nat) (w : World) (hr : Kd.C kField w A x.f2.length x.f2) (hc : x.f2.length ≤ c) (hl : Kd.C kOp w Al l.length l) (hlc : l.length ≤ cl) (hwl : ∀ x ∈ l, i64V x.f2) (h1 : mayS x = true) (h2 : mayO l = true) {y : SValue} {n : Int} (hq : endV (runV (kindsOf x) true l []) = (y, n)) : Calls Try.prog 47 #[.agg #[.string x.f0, .int .i64 x.f1, .slice A x.f2.length c], .slice Al l.length cl] w (kindPost y.f0 n w) := by
 have HR := Aside0.mk hr
 have HC := Aside0.mk hc
 have HL := Aside0.mk hl
 have HLC := Aside0.mk hlc
 have HWL := Aside0.mk hwl
 have HM1 := Aside0.mk (show schema_May.f x.f0 x.f1 x.f2 = some (mayS x) from rfl)
 rw [h1] at HM1
 have HM2 := Aside0.mk h2
 have HOK := Aside0.mk (kindsOf_ok h1).1
 have hl6 := (kindsOf_ok h1).2
 have HEV := Aside0.mk hq
 clear hr hc hl hlc hwl h1 h2 hq
 go_enter Try.func47, Try.ntmps47
 go_wp2_with fail
 go_at_call 33
 refine (schema_May.calls x.f0 x.f1 A c x.f2 _ _ (Kd.C_below HR.out (zaa (Below.refl _ _) _)) HC.out HM1.out).mono ?_
 rintro e w1_ ⟨rfl, hb1_⟩
 have HB1_ := Aside0.mk (zah (zaa (Below.refl _ _) _) hb1_)
 have HKs1_ := Aside0.mk (zak (zaw _ _) hb1_)
 obtain ⟨ks1a_, ks1b_, ks1c_, ks1d_⟩ := know HKs1_.out
 clear hb1_
 go_wp2_with fail
 go_at_call 58
 refine (mayO_told l Al cl _ (Kd.C_below HL.out (HB1_.out)) HLC.out HWL.out HM2.out).mono ?_
 rintro e w2_ ⟨rfl, hb2_⟩
 have HB2_ := Aside0.mk (zah (HB1_.out) hb2_)
 have HKs2_ := Aside0.mk (zak (HKs1_.out) hb2_)
 obtain ⟨ks2a_, ks2b_, ks2c_, ks2d_⟩ := know HKs2_.out
 clear ks1a_ ks1b_ ks1c_ ks1d_
 clear hb2_
 go_wp2_with fail
 have HPB := Aside0.mk (zaw w2_ (zbn (.slice none 0 0) (.slice none 0 0) true))
 have HBL := Aside0.mk (zaa (HB2_.out) (zbn (.slice none 0 0) (.slice none 0 0) true))
 have HLE := Aside0.mk (zan (HB2_.out))
 clear ks2a_ ks2b_ ks2c_ ks2d_
 generalize w2_.heap.size = B at *
 go_loopw [8, 24] (fun _ v24 w' => ∃ i : Nat, v24 = .int .i64 i ∧ kindRel x.f2 w B i w') (fun _ i _ => x.f2.length - (intOf i).toNat)
 case atStart => exact ⟨0, rfl, _, Nat.zero_le _, HPB.out, Kd.R_nil _ _ _ _ _, HBL.out⟩
 case round =>
  obtain ⟨i, rfl, v, hi, hk, ho, hb⟩ := hrel
  have HK := Aside0.mk hk
  have HO := Aside0.mk ho
  have HB := Aside0.mk hb
  obtain ⟨A0, c0, rfl⟩ := Kd.R_slice ho
  clear ho hb HPB HBL
  by_cases hlt : i < x.f2.length
  ·obtain ⟨ad, e, z0, z1⟩ := zbk (Kd.C_below HR.out HB.out) (i : Int) (by omega) (by omega)
   cases e
   simp only [Int.toNat_natCast] at z0 z1
   rw [show zaz x.f2 (i : Int) = x.f2.getD i zaO from rfl] at z0 z1
   have HT := Aside0.mk (take_snoc zaO x.f2 i hlt)
   generalize x.f2.getD i zaO = f at *
   have hml : (List.map (fun f => (⟨f.f1, 0, ⟨#[]⟩⟩ : SValue)) (x.f2.take i)).length = i := by rw [List.length_map, List.length_take]; omega
   obtain ⟨ks, hks⟩ : ∃ ks, List.map (fun f => (⟨f.f1, 0, ⟨#[]⟩⟩ : SValue)) (x.f2.take i) = ks := ⟨_, rfl⟩
   rw [hks] at HO HK hml hk
   rw [hml] at HO HK hk
   have HML := Aside0.mk hml
   have HKN : Aside0 (List.map (fun f => (⟨f.f1, 0, ⟨#[]⟩⟩ : SValue)) (x.f2.take (i + 1)) = ks ++ [⟨f.f1, 0, ⟨#[]⟩⟩]) := ⟨by rw [HT.out, List.map_append, hks]; rfl⟩
   unfold zbn at hk
   have HK2 := Aside0.mk (zag hk (.cells #[.string f.f0, .int .i64 f.f1] 67))
   have HQ2 := Aside0.mk (zaw wr (.cells #[.string f.f0, .int .i64 f.f1] 67))
   have HB2 := Aside0.mk (zaa HB.out (.cells #[.string f.f0, .int .i64 f.f1] 67))
   have HO2 := Aside0.mk (Kd.R_alloc HO.out (.cells #[.string f.f0, .int .i64 f.f1] 67))
   have hks63 : ks.length ≤ 6 := by omega
   clear hk hml hks
   go_wp2_with fail
   generalize wr.alloc (.cells #[.string f.f0, .int .i64 f.f1] 67) = Wb at HK2 HQ2 HB2 HO2 ⊢
   obtain ⟨d1, d2, d3, d4⟩ := know HK2.out
   obtain ⟨q1, q2, q3, q4⟩ := know HQ2.out
   go_region_law (first
    | (refine Kd.R_append_step (o := ⟨some 37, _, _, _, _, _⟩) kValue (w0 := w) (W := Wb.drew) w.heap.size ?hw (.tmp 32) (.tmp 36) 103 73 (.agg #[(.int .i64 0), (.int .i64 0), (.string ⟨#[]⟩)]) 32 rfl Try.underlying103 infoValue rfl ?h0 ?h1 (.slice A0 i c0) ks (⟨f.f1, 0, ⟨#[]⟩⟩ : SValue) [.int .i64 f.f1, .int .i64 0, .string ⟨#[]⟩] (fun _ => True) (fun _ => False) ?hs ?hx ?aP (fun _ h => h.elim) (fun _ _ => trivial) ?aO ?aB ?aS ?aL ?_; (case hw => rfl); (case h0 => decide); (case h1 => decide); (case hs => rfl); (case hx => rfl); (case aP => exact kValue_mkM _ _ _ (⟨f.f1, 0, ⟨#[]⟩⟩ : SValue)); (case aO => exact Kd.R_drew HO2.out); (case aB => exact zaW HB2.out); (case aS => exact zan (zaW HB2.out)); (case aL => omega); intro v6 w6 ho6 hb6 hg6 hat6; obtain ⟨A6, c6, hv6⟩ := Kd.R_slice ho6; rw [List.length_append, List.length_singleton, HML.out] at hv6; subst hv6; have HO6 := Aside0.mk ho6; have HK6 := Aside0.mk (za3 (zaj HK2.out) hg6 (Kd.R_ne HO2.out HK2.out (by decide))); have HB6 := Aside0.mk hb6; have hd60 : w6.cell? ⟨B, 1, none⟩ = some (.slice A0 i c0) := zad HK6.out 1; have hd61 : w6.frozen? ⟨B, 1, none⟩ = false := zab HK6.out 1; clear ho6 hb6 hg6 hat6))
   all_goals
    have HK7 := Aside0.mk (blk_set HK6.out 1 (Value.slice A6 (i + 1) c6))
    have HO7 := Aside0.mk (Kd.R_set HO6.out HK6.out value_types 1 (Value.slice A6 (i + 1) c6))
    have HB7 := Aside0.mk (HB6.out.setCell (p := ⟨B, 1, none⟩) HLE.out (Value.slice A6 (i + 1) c6))
    go_wp2_with fail
    go_roundw
    case measure => simp [intOf]; omega
    case rel => exact ⟨i + 1, by go_num, _, by omega, HK7.out, by rw [HKN.out]; exact HO7.out, HB7.out⟩
  ·obtain rfl : i = x.f2.length := by omega
   rw [List.take_length] at HO HK hk
   obtain ⟨ks, hks⟩ : ∃ ks, kindsOf x = ks := ⟨_, rfl⟩
   have hks2 : List.map (fun f => (⟨f.f1, 0, ⟨#[]⟩⟩ : SValue)) x.f2 = ks := hks
   rw [hks2] at HO HK hk
   rw [hks] at HEV HOK
   have HRT := Aside0.mk (Kd.R_types HO.out HK.out value_types)
   unfold zbn at hk
   obtain ⟨d1, d2, d3, d4⟩ := know hk
   clear hks hks2 hk
   go_wp2_with fail
   go_at_call 62
   refine (through_told wr B A0 c0 ks true Al cl l HK.out (fun w' h => (Kd.R_reads' (Spares.row h HRT.out (fun k hk _ => hk.2))).2.2) (fun w' h => Kd.C_below HL.out (below_spares HB.out h HLE.out)) HLC.out HOK.out HM2.out HWL.out HEV.out).mono ?_
   rintro e w9_ ⟨rfl, hs9_⟩
   have HB9 := Aside0.mk (below_spares HB.out hs9_ HLE.out)
   clear hs9_
   go_wp2_with fail
   go_ret2
   exact ⟨rfl, zaa HB9.out _⟩
theorem kind_told (x : SSchema) (A : Option Addr) (c : Nat) (l : List SOp) (Al : Option Addr) (cl : Nat) (w : World) (hr : Kd.C kField w A x.f2.length x.f2) (hc : x.f2.length ≤ c) (hl : Kd.C kOp w Al l.length l) (hlc : l.length ≤ cl) (hwl : ∀ x ∈ l, i64V x.f2) {y n : Int} (hq : kindV x l = (y, n)) : Calls Try.prog 47 #[.agg #[.string x.f0, .int .i64 x.f1, .slice A x.f2.length c], .slice Al l.length cl] w (kindPost y n w) := by
 unfold kindV at hq
 cases h1 : mayS x with
 | false =>
  rw [h1, if_neg (by simp), Prod.mk.injEq] at hq
  obtain ⟨rfl, rfl⟩ := hq
  exact kind_no1 x A c l Al cl w hr hc hl hlc hwl h1
 | true =>
  cases h2 : mayO l with
  | false =>
   rw [h1, h2, if_neg (by simp), Prod.mk.injEq] at hq
   obtain ⟨rfl, rfl⟩ := hq
   exact kind_no2 x A c l Al cl w hr hc hl hlc hwl h1 h2
  | true =>
   rw [h1, h2, if_pos ⟨rfl, rfl⟩, Prod.mk.injEq] at hq
   obtain ⟨rfl, rfl⟩ := hq
   exact kind_go x A c l Al cl w hr hc hl hlc hwl h1 h2 rfl
def expr_Kind.f (a0_0 : ByteArray) (a0_1 : Int) (l0_2 : List SField) (l1 : List SOp) : Option (Int × Int) := if i64B l1 = true then some (kindV ⟨a0_0, a0_1, l0_2⟩ l1) else none
theorem expr_Kind.calls (a0_0 : ByteArray) (a0_1 : Int) (A0_2 : Option Addr) (c0_2 : Nat) (l0_2 : List SField) (A1 : Option Addr) (c1 : Nat) (l1 : List SOp) (r1 : Int) (r2 : Int) (w : World) (hr0_2 : Kd.C kField w A0_2 l0_2.length l0_2) (hc0_2 : l0_2.length ≤ c0_2) (hr1 : Kd.C kOp w A1 l1.length l1) (hc1 : l1.length ≤ c1) (h : expr_Kind.f a0_0 a0_1 l0_2 l1 = some (r1, r2)) :
  Calls Try.prog 47 #[.agg #[.string a0_0, .int .i64 a0_1, .slice A0_2 l0_2.length c0_2], .slice A1 l1.length c1] w fun e w' => e = .returned (.tuple #[.int .i64 r1, .int .i64 r2]) ∧ Below w.heap.size w w' := by
 unfold expr_Kind.f at h
 split at h
 ·rename_i hb
  exact kind_told ⟨a0_0, a0_1, l0_2⟩ A0_2 c0_2 l1 A1 c1 w hr0_2 hc0_2 hr1 hc1 (i64B_iff.1 hb) (Option.some.inj h)
 ·cases h
def query_asks.f (l0 : List (SSchema)) (a1 : ByteArray) (l2 : List (SOp)) : Option (Int) := (registry_Find.f l0 a1).bind fun bt161 => (if bt161.2.2.2 = true then (if (l2.length : Int) = 0 then (some 0) else ((expr_Kind.f bt161.1 bt161.2.1 bt161.2.2.1 l2).bind fun bt168 => (if bt168.2 = 0 then (if bt168.1 = 1 then (some bt168.2) else (some 5)) else (some bt168.2)))) else (some 3))
set_option maxHeartbeats 8000000 in
set_option maxRecDepth 100000 in
theorem query_asks.calls (A0 : Option Addr) (c0 : Nat) (l0 : List (SSchema)) (a1 : ByteArray) (A2 : Option Addr) (c2 : Nat) (l2 : List (SOp)) (r : Int) (w : World) (hr0 : Kd.C kSchema w A0 l0.length l0) (hc0 : l0.length ≤ c0) (hr2 : Kd.C kOp w A2 l2.length l2) (hc2 : l2.length ≤ c2) (h : query_asks.f l0 a1 l2 = some r) :
  Calls Try.prog 30 #[.slice A0 l0.length c0, .string a1, .slice A2 l2.length c2] w fun e w' => e = .returned (.int .i64 r) ∧ Below w.heap.size w w' := by
 have hu43 := Try.underlying43
 have HR0 := Aside0.mk hr0
 have HC0 := Aside0.mk hc0
 clear hr0 hc0
 have HR2 := Aside0.mk hr2
 have HC2 := Aside0.mk hc2
 clear hr2 hc2
 have HB := Aside0.mk (Below.refl w.heap.size w)
 have H : ((registry_Find.f l0 a1).bind fun bt161 => (if bt161.2.2.2 = true then (if (l2.length : Int) = 0 then (some 0) else ((expr_Kind.f bt161.1 bt161.2.1 bt161.2.2.1 l2).bind fun bt168 => (if bt168.2 = 0 then (if bt168.1 = 1 then (some bt168.2) else (some 5)) else (some bt168.2)))) else (some 3))) = some r := h
 clear h
 replace H := Option.bind_eq_some_iff.mp H
 obtain ⟨⟨t161, t162, t163, t166⟩, A40, H⟩ := H
 replace H : (if t166 = true then (if (l2.length : Int) = 0 then (some 0) else ((expr_Kind.f t161 t162 t163 l2).bind fun bt168 => (if bt168.2 = 0 then (if bt168.1 = 1 then (some bt168.2) else (some 5)) else (some bt168.2)))) else (some 3)) = some r := H
 have A4 := Aside0.mk A40
 clear A40
 by_cases c5 : t166 = true
 ·subst c5
  have H1 : (if (l2.length : Int) = 0 then (some 0) else ((expr_Kind.f t161 t162 t163 l2).bind fun bt168 => (if bt168.2 = 0 then (if bt168.1 = 1 then (some bt168.2) else (some 5)) else (some bt168.2)))) = some r := by rw [if_pos rfl] at H; exact H
  clear H
  have H := H1
  clear H1
  by_cases c6 : (l2.length : Int) = 0
  ·rw [if_pos c6] at H
   have c6b0 : ((l2.length : Int) == 0) = true := beq_iff_eq.mpr c6
   have c6b1 : ((l2.length : Int) != 0) = false := bne_eq_false_iff_eq.mpr c6
   clear c6
   obtain rfl := Option.some.inj H
   go_enter Try.func30, Try.ntmps30
   go_wp2_with (first | ((with_reducible refine zaq (f := 31) rfl ?_); refine zav (some 14) rfl rfl Try.func31 (by kernel_rfl) rfl #[.slice A0 l0.length c0, .string a1] rfl (by (try simp only [List.map_toArray, List.map_cons, List.map_nil]); first | done | rfl | (simp only [List.length_drop, List.length_take]; rfl)) ?_; (with_reducible refine (registry_Find.calls _ _ l0 a1 t161 t162 t163 true _ ?side1 ?side2 A4.out).mono ?_); (case side1 => repeat (first | exact HR0.out | (with_reducible refine Kd.C_alloc ?_ _) | (with_reducible refine Kd.C_drewN ?_ _) | (with_reducible refine Kd.C_drew ?_))); (case side2 => exact HC0.out); rintro e w7 ⟨v164, rfl, ho0, hb⟩; refine ⟨_, rfl, ?_⟩; have n0_ := Aside0.mk (Kd.R_lower ho0 (zan (by repeat (first | (with_reducible first | exact HB.out | apply zaa | apply zac | apply zae) | exact HB.out)))); have n1_ := Aside0.mk (zah (by repeat (first | (with_reducible first | exact HB.out | apply zaa | apply zac | apply zae) | exact HB.out)) hb); clear HB; have HO165 := n0_; have HB := n1_; clear n0_ n1_; (try clear hb); (try clear hb2); (try clear hk); (try clear hi); (try clear ho0)) | ((with_reducible refine zat (N := 7) rfl ?_); refine zar ?hg (N := 7) ?hd (cs := #[.string (⟨#[]⟩ : ByteArray), .int .i64 0, .slice none 0 0]) (t := 43) ?hr ?_; (case hd => rfl); (case hg => rfl); (case hr => first | (go_simp; done) | (go_simp; rfl)); intro gb167 hg w8 hbox hb; have n0_ := Aside0.mk (Kd.R_below (by (with_reducible repeat (first | apply Kd.R_alloc | apply Kd.R_drewN | apply Kd.R_drew)); exact HO165.out) hb); have n1_ := Aside0.mk (zah (by repeat (first | (with_reducible first | exact HB.out | apply zaa | apply zac | apply zae) | exact HB.out)) hb); have n2_ := Aside0.mk (hbox); have n3_ := Aside0.mk ((by rw [hg]; exact (zan (by repeat (first | (with_reducible first | exact HB.out | apply zaa | apply zac | apply zae) | exact HB.out))) : w.heap.size ≤ gb167)); have n4_ := Aside0.mk ((by rw [hg]; exact (zan (by repeat (first | (with_reducible first | exact HB.out | apply zaa | apply zac | apply zae) | exact HB.out))) : w.heap.size ≤ gb167)); clear HO165; clear HB; have HO165 := n0_; have HB := n1_; have BK167 := n2_; have GW167 := n3_; have GE167 := n4_; clear n0_ n1_ n2_ n3_ n4_; clear hb hbox hg; have hcz9_0 : w8.cell? ⟨gb167, 0, none⟩ = some (.string (⟨#[]⟩ : ByteArray)) := (zad BK167.out 0).trans rfl; have hcz9_1 : w8.cell? ⟨gb167, 1, none⟩ = some (.int .i64 0) := (zad BK167.out 1).trans rfl; have hcz9_2 : w8.cell? ⟨gb167, 2, none⟩ = some (.slice none 0 0) := (zad BK167.out 2).trans rfl; have hfz9_0 := zab BK167.out 0; have hfz9_1 := zab BK167.out 1; have hfz9_2 := zab BK167.out 2; obtain ⟨Ao10, co10, eo10⟩ := Kd.R_slice HO165.out; subst eo10))
   go_ret
   exact ⟨by first | rfl | (simp [zap, zao] <;> rfl) | (simp [*, zap, zao] <;> rfl), by repeat (first | (with_reducible first | exact HB.out | apply zaa | apply zac | apply zae | refine zaf ?_ GE167.out) | exact HB.out)⟩
  ·rw [if_neg c6] at H
   have c6b0 : ((l2.length : Int) == 0) = false := beq_eq_false_iff_ne.mpr c6
   have c6b1 : ((l2.length : Int) != 0) = true := bne_iff_ne.mpr c6
   have c6b2 : ¬ (l2 = []) := fun h_ => c6 (by rw [h_]; rfl)
   replace H := Option.bind_eq_some_iff.mp H
   obtain ⟨⟨t168, t169⟩, A110, H⟩ := H
   replace H : (if t169 = 0 then (if t168 = 1 then (some t169) else (some 5)) else (some t169)) = some r := H
   have A11 := Aside0.mk A110
   clear A110
   by_cases c12 : t169 = 0
   ·rw [if_pos c12] at H
    have c12b0 : (t169 == 0) = true := beq_iff_eq.mpr c12
    have c12b1 : (t169 != 0) = false := bne_eq_false_iff_eq.mpr c12
    clear c12
    by_cases c13 : t168 = 1
    ·rw [if_pos c13] at H
     have c13b0 : (t168 == 1) = true := beq_iff_eq.mpr c13
     have c13b1 : (t168 != 1) = false := bne_eq_false_iff_eq.mpr c13
     clear c13
     obtain rfl := Option.some.inj H
     go_enter Try.func30, Try.ntmps30
     go_wp2_with (first | ((with_reducible refine zaq (f := 31) rfl ?_); refine zav (some 14) rfl rfl Try.func31 (by kernel_rfl) rfl #[.slice A0 l0.length c0, .string a1] rfl (by (try simp only [List.map_toArray, List.map_cons, List.map_nil]); first | done | rfl | (simp only [List.length_drop, List.length_take]; rfl)) ?_; (with_reducible refine (registry_Find.calls _ _ l0 a1 t161 t162 t163 true _ ?side1 ?side2 A4.out).mono ?_); (case side1 => repeat (first | exact HR0.out | (with_reducible refine Kd.C_alloc ?_ _) | (with_reducible refine Kd.C_drewN ?_ _) | (with_reducible refine Kd.C_drew ?_))); (case side2 => exact HC0.out); rintro e w14 ⟨v164, rfl, ho0, hb⟩; refine ⟨_, rfl, ?_⟩; have n0_ := Aside0.mk (Kd.R_lower ho0 (zan (by repeat (first | (with_reducible first | exact HB.out | apply zaa | apply zac | apply zae) | exact HB.out)))); have n1_ := Aside0.mk (zah (by repeat (first | (with_reducible first | exact HB.out | apply zaa | apply zac | apply zae) | exact HB.out)) hb); clear HB; have HO165 := n0_; have HB := n1_; clear n0_ n1_; (try clear hb); (try clear hb2); (try clear hk); (try clear hi); (try clear ho0)) | ((with_reducible refine zat (N := 7) rfl ?_); refine zar ?hg (N := 7) ?hd (cs := #[.string (⟨#[]⟩ : ByteArray), .int .i64 0, .slice none 0 0]) (t := 43) ?hr ?_; (case hd => rfl); (case hg => rfl); (case hr => first | (go_simp; done) | (go_simp; rfl)); intro gb167 hg w15 hbox hb; have n0_ := Aside0.mk (Kd.R_below (by (with_reducible repeat (first | apply Kd.R_alloc | apply Kd.R_drewN | apply Kd.R_drew)); exact HO165.out) hb); have n1_ := Aside0.mk (zah (by repeat (first | (with_reducible first | exact HB.out | apply zaa | apply zac | apply zae) | exact HB.out)) hb); have n2_ := Aside0.mk (hbox); have n3_ := Aside0.mk ((by rw [hg]; exact (zan (by repeat (first | (with_reducible first | exact HB.out | apply zaa | apply zac | apply zae) | exact HB.out))) : w.heap.size ≤ gb167)); have n4_ := Aside0.mk ((by rw [hg]; exact (zan (by repeat (first | (with_reducible first | exact HB.out | apply zaa | apply zac | apply zae) | exact HB.out))) : w.heap.size ≤ gb167)); clear HO165; clear HB; have HO165 := n0_; have HB := n1_; have BK167 := n2_; have GW167 := n3_; have GE167 := n4_; clear n0_ n1_ n2_ n3_ n4_; clear hb hbox hg; have hcz16_0 : w15.cell? ⟨gb167, 0, none⟩ = some (.string (⟨#[]⟩ : ByteArray)) := (zad BK167.out 0).trans rfl; have hcz16_1 : w15.cell? ⟨gb167, 1, none⟩ = some (.int .i64 0) := (zad BK167.out 1).trans rfl; have hcz16_2 : w15.cell? ⟨gb167, 2, none⟩ = some (.slice none 0 0) := (zad BK167.out 2).trans rfl; have hfz16_0 := zab BK167.out 0; have hfz16_1 := zab BK167.out 1; have hfz16_2 := zab BK167.out 2; obtain ⟨Ao17, co17, eo17⟩ := Kd.R_slice HO165.out; subst eo17) | ((with_reducible refine zaq (f := 47) rfl ?_); refine zav (some 25) rfl rfl Try.func47 (by kernel_rfl) rfl #[.agg #[.string t161, .int .i64 t162, .slice Ao17 t163.length co17], .slice A2 l2.length c2] rfl (by (try simp only [List.map_toArray, List.map_cons, List.map_nil]); first | done | rfl | (simp only [List.length_drop, List.length_take]; rfl)) ?_; (with_reducible refine (expr_Kind.calls t161 t162 _ _ t163 _ _ l2 t168 t169 _ ?side1 ?side2 ?side3 ?side4 A11.out).mono ?_); (case side1 => refine (Kd.R_reads' (e := 67) (base := w.heap.size) (ok := fun k_ => True) (n := t163.length) (c := co17) ?_).2.2; exact (by (with_reducible repeat (first | apply Kd.R_alloc | apply Kd.R_drewN | apply Kd.R_drew)); exact (Kd.R_mono (Kd.R_far (p := ⟨gb167, 2, none⟩) (Kd.R_far (p := ⟨gb167, 1, none⟩) (Kd.R_far (p := ⟨gb167, 0, none⟩) (Kd.R_types HO165.out BK167.out (by decide)) (fun _ hk => hk.2) (.string t161)) (fun _ hk => hk.2) (.int .i64 t162)) (fun _ hk => hk.2) (.slice Ao17 t163.length co17)) (fun _ h_ => h_.1)))); (case side2 => exact (Kd.R_reads' HO165.out).2.1); (case side3 => exact Kd.C_below HR2.out (by repeat (first | (with_reducible first | exact HB.out | apply zaa | apply zac | apply zae | refine zaf ?_ GE167.out) | exact HB.out))); (case side4 => exact HC2.out); rintro e w18 ⟨rfl, hb⟩; refine ⟨_, rfl, ?_⟩; have n0_ := Aside0.mk (Kd.R_below (by (with_reducible repeat (first | apply Kd.R_alloc | apply Kd.R_drewN | apply Kd.R_drew)); exact (Kd.R_mono (Kd.R_far (p := ⟨gb167, 2, none⟩) (Kd.R_far (p := ⟨gb167, 1, none⟩) (Kd.R_far (p := ⟨gb167, 0, none⟩) (Kd.R_types HO165.out BK167.out (by decide)) (fun _ hk => hk.2) (.string t161)) (fun _ hk => hk.2) (.int .i64 t162)) (fun _ hk => hk.2) (.slice Ao17 t163.length co17)) (fun _ h_ => h_.1))) hb); have n1_ := Aside0.mk (zak (g := gb167) (o := .cells #[.string t161, .int .i64 t162, .slice Ao17 t163.length co17] 43 (0, 0)) (by (with_reducible repeat (first | refine zai ?_ _ | refine zaj ?_ | refine zag ?_ _)); refine zas (cs := #[.string t161, .int .i64 t162, .slice none 0 0]) ?_ 2 _ rfl; (with_reducible repeat (first | refine zai ?_ _ | refine zaj ?_ | refine zag ?_ _)); refine zas (cs := #[.string t161, .int .i64 0, .slice none 0 0]) ?_ 1 _ rfl; (with_reducible repeat (first | refine zai ?_ _ | refine zaj ?_ | refine zag ?_ _)); refine zas (cs := #[.string (⟨#[]⟩ : ByteArray), .int .i64 0, .slice none 0 0]) ?_ 0 _ rfl; (with_reducible repeat (first | refine zai ?_ _ | refine zaj ?_ | refine zag ?_ _)); exact BK167.out) hb); have n2_ := Aside0.mk (zah (by repeat (first | (with_reducible first | exact HB.out | apply zaa | apply zac | apply zae | refine zaf ?_ GE167.out) | exact HB.out)) hb); clear HO165; clear BK167; clear HB; have HO165 := n0_; have BK167 := n1_; have HB := n2_; clear n0_ n1_ n2_; (try clear hb); (try clear hb2); (try clear hk); (try clear hi)))
     go_ret
     exact ⟨by first | rfl | (simp [zap, zao] <;> rfl) | (simp [*, zap, zao] <;> rfl), by repeat (first | (with_reducible first | exact HB.out | apply zaa | apply zac | apply zae | refine zaf ?_ GE167.out) | exact HB.out)⟩
    ·rw [if_neg c13] at H
     have c13b0 : (t168 == 1) = false := beq_eq_false_iff_ne.mpr c13
     have c13b1 : (t168 != 1) = true := bne_iff_ne.mpr c13
     obtain rfl := Option.some.inj H
     go_enter Try.func30, Try.ntmps30
     go_wp2_with (first | ((with_reducible refine zaq (f := 31) rfl ?_); refine zav (some 14) rfl rfl Try.func31 (by kernel_rfl) rfl #[.slice A0 l0.length c0, .string a1] rfl (by (try simp only [List.map_toArray, List.map_cons, List.map_nil]); first | done | rfl | (simp only [List.length_drop, List.length_take]; rfl)) ?_; (with_reducible refine (registry_Find.calls _ _ l0 a1 t161 t162 t163 true _ ?side1 ?side2 A4.out).mono ?_); (case side1 => repeat (first | exact HR0.out | (with_reducible refine Kd.C_alloc ?_ _) | (with_reducible refine Kd.C_drewN ?_ _) | (with_reducible refine Kd.C_drew ?_))); (case side2 => exact HC0.out); rintro e w19 ⟨v164, rfl, ho0, hb⟩; refine ⟨_, rfl, ?_⟩; have n0_ := Aside0.mk (Kd.R_lower ho0 (zan (by repeat (first | (with_reducible first | exact HB.out | apply zaa | apply zac | apply zae) | exact HB.out)))); have n1_ := Aside0.mk (zah (by repeat (first | (with_reducible first | exact HB.out | apply zaa | apply zac | apply zae) | exact HB.out)) hb); clear HB; have HO165 := n0_; have HB := n1_; clear n0_ n1_; (try clear hb); (try clear hb2); (try clear hk); (try clear hi); (try clear ho0)) | ((with_reducible refine zat (N := 7) rfl ?_); refine zar ?hg (N := 7) ?hd (cs := #[.string (⟨#[]⟩ : ByteArray), .int .i64 0, .slice none 0 0]) (t := 43) ?hr ?_; (case hd => rfl); (case hg => rfl); (case hr => first | (go_simp; done) | (go_simp; rfl)); intro gb167 hg w20 hbox hb; have n0_ := Aside0.mk (Kd.R_below (by (with_reducible repeat (first | apply Kd.R_alloc | apply Kd.R_drewN | apply Kd.R_drew)); exact HO165.out) hb); have n1_ := Aside0.mk (zah (by repeat (first | (with_reducible first | exact HB.out | apply zaa | apply zac | apply zae) | exact HB.out)) hb); have n2_ := Aside0.mk (hbox); have n3_ := Aside0.mk ((by rw [hg]; exact (zan (by repeat (first | (with_reducible first | exact HB.out | apply zaa | apply zac | apply zae) | exact HB.out))) : w.heap.size ≤ gb167)); have n4_ := Aside0.mk ((by rw [hg]; exact (zan (by repeat (first | (with_reducible first | exact HB.out | apply zaa | apply zac | apply zae) | exact HB.out))) : w.heap.size ≤ gb167)); clear HO165; clear HB; have HO165 := n0_; have HB := n1_; have BK167 := n2_; have GW167 := n3_; have GE167 := n4_; clear n0_ n1_ n2_ n3_ n4_; clear hb hbox hg; have hcz21_0 : w20.cell? ⟨gb167, 0, none⟩ = some (.string (⟨#[]⟩ : ByteArray)) := (zad BK167.out 0).trans rfl; have hcz21_1 : w20.cell? ⟨gb167, 1, none⟩ = some (.int .i64 0) := (zad BK167.out 1).trans rfl; have hcz21_2 : w20.cell? ⟨gb167, 2, none⟩ = some (.slice none 0 0) := (zad BK167.out 2).trans rfl; have hfz21_0 := zab BK167.out 0; have hfz21_1 := zab BK167.out 1; have hfz21_2 := zab BK167.out 2; obtain ⟨Ao22, co22, eo22⟩ := Kd.R_slice HO165.out; subst eo22) | ((with_reducible refine zaq (f := 47) rfl ?_); refine zav (some 25) rfl rfl Try.func47 (by kernel_rfl) rfl #[.agg #[.string t161, .int .i64 t162, .slice Ao22 t163.length co22], .slice A2 l2.length c2] rfl (by (try simp only [List.map_toArray, List.map_cons, List.map_nil]); first | done | rfl | (simp only [List.length_drop, List.length_take]; rfl)) ?_; (with_reducible refine (expr_Kind.calls t161 t162 _ _ t163 _ _ l2 t168 t169 _ ?side1 ?side2 ?side3 ?side4 A11.out).mono ?_); (case side1 => refine (Kd.R_reads' (e := 67) (base := w.heap.size) (ok := fun k_ => True) (n := t163.length) (c := co22) ?_).2.2; exact (by (with_reducible repeat (first | apply Kd.R_alloc | apply Kd.R_drewN | apply Kd.R_drew)); exact (Kd.R_mono (Kd.R_far (p := ⟨gb167, 2, none⟩) (Kd.R_far (p := ⟨gb167, 1, none⟩) (Kd.R_far (p := ⟨gb167, 0, none⟩) (Kd.R_types HO165.out BK167.out (by decide)) (fun _ hk => hk.2) (.string t161)) (fun _ hk => hk.2) (.int .i64 t162)) (fun _ hk => hk.2) (.slice Ao22 t163.length co22)) (fun _ h_ => h_.1)))); (case side2 => exact (Kd.R_reads' HO165.out).2.1); (case side3 => exact Kd.C_below HR2.out (by repeat (first | (with_reducible first | exact HB.out | apply zaa | apply zac | apply zae | refine zaf ?_ GE167.out) | exact HB.out))); (case side4 => exact HC2.out); rintro e w23 ⟨rfl, hb⟩; refine ⟨_, rfl, ?_⟩; have n0_ := Aside0.mk (Kd.R_below (by (with_reducible repeat (first | apply Kd.R_alloc | apply Kd.R_drewN | apply Kd.R_drew)); exact (Kd.R_mono (Kd.R_far (p := ⟨gb167, 2, none⟩) (Kd.R_far (p := ⟨gb167, 1, none⟩) (Kd.R_far (p := ⟨gb167, 0, none⟩) (Kd.R_types HO165.out BK167.out (by decide)) (fun _ hk => hk.2) (.string t161)) (fun _ hk => hk.2) (.int .i64 t162)) (fun _ hk => hk.2) (.slice Ao22 t163.length co22)) (fun _ h_ => h_.1))) hb); have n1_ := Aside0.mk (zak (g := gb167) (o := .cells #[.string t161, .int .i64 t162, .slice Ao22 t163.length co22] 43 (0, 0)) (by (with_reducible repeat (first | refine zai ?_ _ | refine zaj ?_ | refine zag ?_ _)); refine zas (cs := #[.string t161, .int .i64 t162, .slice none 0 0]) ?_ 2 _ rfl; (with_reducible repeat (first | refine zai ?_ _ | refine zaj ?_ | refine zag ?_ _)); refine zas (cs := #[.string t161, .int .i64 0, .slice none 0 0]) ?_ 1 _ rfl; (with_reducible repeat (first | refine zai ?_ _ | refine zaj ?_ | refine zag ?_ _)); refine zas (cs := #[.string (⟨#[]⟩ : ByteArray), .int .i64 0, .slice none 0 0]) ?_ 0 _ rfl; (with_reducible repeat (first | refine zai ?_ _ | refine zaj ?_ | refine zag ?_ _)); exact BK167.out) hb); have n2_ := Aside0.mk (zah (by repeat (first | (with_reducible first | exact HB.out | apply zaa | apply zac | apply zae | refine zaf ?_ GE167.out) | exact HB.out)) hb); clear HO165; clear BK167; clear HB; have HO165 := n0_; have BK167 := n1_; have HB := n2_; clear n0_ n1_ n2_; (try clear hb); (try clear hb2); (try clear hk); (try clear hi)))
     go_ret
     exact ⟨by first | rfl | (simp [zap, zao] <;> rfl) | (simp [*, zap, zao] <;> rfl), by repeat (first | (with_reducible first | exact HB.out | apply zaa | apply zac | apply zae | refine zaf ?_ GE167.out) | exact HB.out)⟩
   ·rw [if_neg c12] at H
    have c12b0 : (t169 == 0) = false := beq_eq_false_iff_ne.mpr c12
    have c12b1 : (t169 != 0) = true := bne_iff_ne.mpr c12
    obtain rfl := Option.some.inj H
    go_enter Try.func30, Try.ntmps30
    go_wp2_with (first | ((with_reducible refine zaq (f := 31) rfl ?_); refine zav (some 14) rfl rfl Try.func31 (by kernel_rfl) rfl #[.slice A0 l0.length c0, .string a1] rfl (by (try simp only [List.map_toArray, List.map_cons, List.map_nil]); first | done | rfl | (simp only [List.length_drop, List.length_take]; rfl)) ?_; (with_reducible refine (registry_Find.calls _ _ l0 a1 t161 t162 t163 true _ ?side1 ?side2 A4.out).mono ?_); (case side1 => repeat (first | exact HR0.out | (with_reducible refine Kd.C_alloc ?_ _) | (with_reducible refine Kd.C_drewN ?_ _) | (with_reducible refine Kd.C_drew ?_))); (case side2 => exact HC0.out); rintro e w24 ⟨v164, rfl, ho0, hb⟩; refine ⟨_, rfl, ?_⟩; have n0_ := Aside0.mk (Kd.R_lower ho0 (zan (by repeat (first | (with_reducible first | exact HB.out | apply zaa | apply zac | apply zae) | exact HB.out)))); have n1_ := Aside0.mk (zah (by repeat (first | (with_reducible first | exact HB.out | apply zaa | apply zac | apply zae) | exact HB.out)) hb); clear HB; have HO165 := n0_; have HB := n1_; clear n0_ n1_; (try clear hb); (try clear hb2); (try clear hk); (try clear hi); (try clear ho0)) | ((with_reducible refine zat (N := 7) rfl ?_); refine zar ?hg (N := 7) ?hd (cs := #[.string (⟨#[]⟩ : ByteArray), .int .i64 0, .slice none 0 0]) (t := 43) ?hr ?_; (case hd => rfl); (case hg => rfl); (case hr => first | (go_simp; done) | (go_simp; rfl)); intro gb167 hg w25 hbox hb; have n0_ := Aside0.mk (Kd.R_below (by (with_reducible repeat (first | apply Kd.R_alloc | apply Kd.R_drewN | apply Kd.R_drew)); exact HO165.out) hb); have n1_ := Aside0.mk (zah (by repeat (first | (with_reducible first | exact HB.out | apply zaa | apply zac | apply zae) | exact HB.out)) hb); have n2_ := Aside0.mk (hbox); have n3_ := Aside0.mk ((by rw [hg]; exact (zan (by repeat (first | (with_reducible first | exact HB.out | apply zaa | apply zac | apply zae) | exact HB.out))) : w.heap.size ≤ gb167)); have n4_ := Aside0.mk ((by rw [hg]; exact (zan (by repeat (first | (with_reducible first | exact HB.out | apply zaa | apply zac | apply zae) | exact HB.out))) : w.heap.size ≤ gb167)); clear HO165; clear HB; have HO165 := n0_; have HB := n1_; have BK167 := n2_; have GW167 := n3_; have GE167 := n4_; clear n0_ n1_ n2_ n3_ n4_; clear hb hbox hg; have hcz26_0 : w25.cell? ⟨gb167, 0, none⟩ = some (.string (⟨#[]⟩ : ByteArray)) := (zad BK167.out 0).trans rfl; have hcz26_1 : w25.cell? ⟨gb167, 1, none⟩ = some (.int .i64 0) := (zad BK167.out 1).trans rfl; have hcz26_2 : w25.cell? ⟨gb167, 2, none⟩ = some (.slice none 0 0) := (zad BK167.out 2).trans rfl; have hfz26_0 := zab BK167.out 0; have hfz26_1 := zab BK167.out 1; have hfz26_2 := zab BK167.out 2; obtain ⟨Ao27, co27, eo27⟩ := Kd.R_slice HO165.out; subst eo27) | ((with_reducible refine zaq (f := 47) rfl ?_); refine zav (some 25) rfl rfl Try.func47 (by kernel_rfl) rfl #[.agg #[.string t161, .int .i64 t162, .slice Ao27 t163.length co27], .slice A2 l2.length c2] rfl (by (try simp only [List.map_toArray, List.map_cons, List.map_nil]); first | done | rfl | (simp only [List.length_drop, List.length_take]; rfl)) ?_; (with_reducible refine (expr_Kind.calls t161 t162 _ _ t163 _ _ l2 t168 t169 _ ?side1 ?side2 ?side3 ?side4 A11.out).mono ?_); (case side1 => refine (Kd.R_reads' (e := 67) (base := w.heap.size) (ok := fun k_ => True) (n := t163.length) (c := co27) ?_).2.2; exact (by (with_reducible repeat (first | apply Kd.R_alloc | apply Kd.R_drewN | apply Kd.R_drew)); exact (Kd.R_mono (Kd.R_far (p := ⟨gb167, 2, none⟩) (Kd.R_far (p := ⟨gb167, 1, none⟩) (Kd.R_far (p := ⟨gb167, 0, none⟩) (Kd.R_types HO165.out BK167.out (by decide)) (fun _ hk => hk.2) (.string t161)) (fun _ hk => hk.2) (.int .i64 t162)) (fun _ hk => hk.2) (.slice Ao27 t163.length co27)) (fun _ h_ => h_.1)))); (case side2 => exact (Kd.R_reads' HO165.out).2.1); (case side3 => exact Kd.C_below HR2.out (by repeat (first | (with_reducible first | exact HB.out | apply zaa | apply zac | apply zae | refine zaf ?_ GE167.out) | exact HB.out))); (case side4 => exact HC2.out); rintro e w28 ⟨rfl, hb⟩; refine ⟨_, rfl, ?_⟩; have n0_ := Aside0.mk (Kd.R_below (by (with_reducible repeat (first | apply Kd.R_alloc | apply Kd.R_drewN | apply Kd.R_drew)); exact (Kd.R_mono (Kd.R_far (p := ⟨gb167, 2, none⟩) (Kd.R_far (p := ⟨gb167, 1, none⟩) (Kd.R_far (p := ⟨gb167, 0, none⟩) (Kd.R_types HO165.out BK167.out (by decide)) (fun _ hk => hk.2) (.string t161)) (fun _ hk => hk.2) (.int .i64 t162)) (fun _ hk => hk.2) (.slice Ao27 t163.length co27)) (fun _ h_ => h_.1))) hb); have n1_ := Aside0.mk (zak (g := gb167) (o := .cells #[.string t161, .int .i64 t162, .slice Ao27 t163.length co27] 43 (0, 0)) (by (with_reducible repeat (first | refine zai ?_ _ | refine zaj ?_ | refine zag ?_ _)); refine zas (cs := #[.string t161, .int .i64 t162, .slice none 0 0]) ?_ 2 _ rfl; (with_reducible repeat (first | refine zai ?_ _ | refine zaj ?_ | refine zag ?_ _)); refine zas (cs := #[.string t161, .int .i64 0, .slice none 0 0]) ?_ 1 _ rfl; (with_reducible repeat (first | refine zai ?_ _ | refine zaj ?_ | refine zag ?_ _)); refine zas (cs := #[.string (⟨#[]⟩ : ByteArray), .int .i64 0, .slice none 0 0]) ?_ 0 _ rfl; (with_reducible repeat (first | refine zai ?_ _ | refine zaj ?_ | refine zag ?_ _)); exact BK167.out) hb); have n2_ := Aside0.mk (zah (by repeat (first | (with_reducible first | exact HB.out | apply zaa | apply zac | apply zae | refine zaf ?_ GE167.out) | exact HB.out)) hb); clear HO165; clear BK167; clear HB; have HO165 := n0_; have BK167 := n1_; have HB := n2_; clear n0_ n1_ n2_; (try clear hb); (try clear hb2); (try clear hk); (try clear hi)))
    go_ret
    exact ⟨by first | rfl | (simp [zap, zao] <;> rfl) | (simp [*, zap, zao] <;> rfl), by repeat (first | (with_reducible first | exact HB.out | apply zaa | apply zac | apply zae | refine zaf ?_ GE167.out) | exact HB.out)⟩
 ·replace c5 := Bool.eq_false_iff.mpr c5
  subst c5
  have H1 : (some 3) = some r := by rw [if_neg (show ¬ (false = true) by decide)] at H; exact H
  clear H
  have H := H1
  clear H1
  obtain rfl := Option.some.inj H
  go_enter Try.func30, Try.ntmps30
  go_wp2_with (first | ((with_reducible refine zaq (f := 31) rfl ?_); refine zav (some 14) rfl rfl Try.func31 (by kernel_rfl) rfl #[.slice A0 l0.length c0, .string a1] rfl (by (try simp only [List.map_toArray, List.map_cons, List.map_nil]); first | done | rfl | (simp only [List.length_drop, List.length_take]; rfl)) ?_; (with_reducible refine (registry_Find.calls _ _ l0 a1 t161 t162 t163 false _ ?side1 ?side2 A4.out).mono ?_); (case side1 => repeat (first | exact HR0.out | (with_reducible refine Kd.C_alloc ?_ _) | (with_reducible refine Kd.C_drewN ?_ _) | (with_reducible refine Kd.C_drew ?_))); (case side2 => exact HC0.out); rintro e w29 ⟨v164, rfl, ho0, hb⟩; refine ⟨_, rfl, ?_⟩; have n0_ := Aside0.mk (Kd.R_lower ho0 (zan (by repeat (first | (with_reducible first | exact HB.out | apply zaa | apply zac | apply zae) | exact HB.out)))); have n1_ := Aside0.mk (zah (by repeat (first | (with_reducible first | exact HB.out | apply zaa | apply zac | apply zae) | exact HB.out)) hb); clear HB; have HO165 := n0_; have HB := n1_; clear n0_ n1_; (try clear hb); (try clear hb2); (try clear hk); (try clear hi); (try clear ho0)) | ((with_reducible refine zat (N := 7) rfl ?_); refine zar ?hg (N := 7) ?hd (cs := #[.string (⟨#[]⟩ : ByteArray), .int .i64 0, .slice none 0 0]) (t := 43) ?hr ?_; (case hd => rfl); (case hg => rfl); (case hr => first | (go_simp; done) | (go_simp; rfl)); intro gb167 hg w30 hbox hb; have n0_ := Aside0.mk (Kd.R_below (by (with_reducible repeat (first | apply Kd.R_alloc | apply Kd.R_drewN | apply Kd.R_drew)); exact HO165.out) hb); have n1_ := Aside0.mk (zah (by repeat (first | (with_reducible first | exact HB.out | apply zaa | apply zac | apply zae) | exact HB.out)) hb); have n2_ := Aside0.mk (hbox); have n3_ := Aside0.mk ((by rw [hg]; exact (zan (by repeat (first | (with_reducible first | exact HB.out | apply zaa | apply zac | apply zae) | exact HB.out))) : w.heap.size ≤ gb167)); have n4_ := Aside0.mk ((by rw [hg]; exact (zan (by repeat (first | (with_reducible first | exact HB.out | apply zaa | apply zac | apply zae) | exact HB.out))) : w.heap.size ≤ gb167)); clear HO165; clear HB; have HO165 := n0_; have HB := n1_; have BK167 := n2_; have GW167 := n3_; have GE167 := n4_; clear n0_ n1_ n2_ n3_ n4_; clear hb hbox hg; have hcz31_0 : w30.cell? ⟨gb167, 0, none⟩ = some (.string (⟨#[]⟩ : ByteArray)) := (zad BK167.out 0).trans rfl; have hcz31_1 : w30.cell? ⟨gb167, 1, none⟩ = some (.int .i64 0) := (zad BK167.out 1).trans rfl; have hcz31_2 : w30.cell? ⟨gb167, 2, none⟩ = some (.slice none 0 0) := (zad BK167.out 2).trans rfl; have hfz31_0 := zab BK167.out 0; have hfz31_1 := zab BK167.out 1; have hfz31_2 := zab BK167.out 2; obtain ⟨Ao32, co32, eo32⟩ := Kd.R_slice HO165.out; subst eo32))
  go_ret
  exact ⟨by first | rfl | (simp [zap, zao] <;> rfl) | (simp [*, zap, zao] <;> rfl), by repeat (first | (with_reducible first | exact HB.out | apply zaa | apply zac | apply zae | refine zaf ?_ GE167.out) | exact HB.out)⟩
mutual
def query_Check.j0 : Nat → List (SSchema) → Bool → List (SStep) → Int → Int → Int → Int → Option (Int)
 | 0, _, _, _, _, _, _, _ => none
 | k + 1, x0, x17, x171000, x171001, x171002, x171003, x171004 => if x17 = true then (some 1) else (query_Check.l0 k x0 x171000 (x171000.length : Int) 0 x171000 x171001 x171002 x171003 x171004)
def query_Check.l0 : Nat → List (SSchema) → List (SStep) → Int → Int → List (SStep) → Int → Int → Int → Int → Option (Int)
 | 0, _, _, _, _, _, _, _, _, _ => none
 | k + 1, x0, x19, x20, x21, x171000, x171001, x171002, x171003, x171004 => if x21 < x20 then (if 0 ≤ x21 then (if x21 < (x19.length : Int) then ((query_asks.f x0 ((zam x19 x21).f0) ((zam x19 x21).f1)).bind fun t184 => (if t184 = 0 then (query_Check.j2 k x0 t184 x19 x20 x21 ((zam x19 x21).f4) x171000 x171001 x171002 x171003 x171004 ((zam x19 x21).f0) ((zam x19 x21).f1) ((zam x19 x21).f2) ((zam x19 x21).f3) ((zam x19 x21).f4) ((zam x19 x21).f5) ((zam x19 x21).f6)) else (query_Check.j2 k x0 t184 x19 x20 x21 false x171000 x171001 x171002 x171003 x171004 ((zam x19 x21).f0) ((zam x19 x21).f1) ((zam x19 x21).f2) ((zam x19 x21).f3) ((zam x19 x21).f4) ((zam x19 x21).f5) ((zam x19 x21).f6)))) else (none)) else (none)) else (if 0 ≤ x171003 then (if x171003 < (x171000.length : Int) then ((registry_Find.f x0 ((zam x171000 x171003).f0)).bind fun bt174 => (if x171002 = 0 then (some 0) else (if x171004 < (bt174.2.2.1.length : Int) then (if 0 ≤ x171004 then (if ((zaz bt174.2.2.1 x171004).f1) = 0 then (some 0) else (some 5)) else (none)) else (some 5)))) else (none)) else (none))
def query_Check.j2 : Nat → List (SSchema) → Int → List (SStep) → Int → Int → Bool → List (SStep) → Int → Int → Int → Int → ByteArray → List (SOp) → Int → Int → Bool → ByteArray → List (SOp) → Option (Int)
 | 0, _, _, _, _, _, _, _, _, _, _, _, _, _, _, _, _, _, _ => none
 | k + 1, x0, x7, x19, x20, x21, x36, x171000, x171001, x171002, x171003, x171004, x184000, x184001, x184002, x184003, x184004, x184005, x184006 => if x36 = true then ((query_asks.f x0 x184005 x184006).bind fun t185 => (if t185 = 0 then (query_Check.l0 k x0 x19 x20 (wrap64 (x21 + 1)) x171000 x171001 x171002 x171003 x171004) else (some t185))) else (if x7 = 0 then (query_Check.l0 k x0 x19 x20 (wrap64 (x21 + 1)) x171000 x171001 x171002 x171003 x171004) else (some x7))
end
def query_Check.f (k : Nat) (l0 : List (SSchema)) (l1_0 : List (SStep)) (a1_1 : Int) (a1_2 : Int) (a1_3 : Int) (a1_4 : Int) : Option (Int) := (registry_May.f k l0).bind fun t171 => (if t171 = true then ((query_may.f k l1_0 a1_1 a1_2 a1_3 a1_4).bind fun t172 => (query_Check.j0 k l0 (!t172) l1_0 a1_1 a1_2 a1_3 a1_4)) else (query_Check.j0 k l0 true l1_0 a1_1 a1_2 a1_3 a1_4))
set_option maxHeartbeats 8000000 in
set_option maxRecDepth 100000 in
theorem query_Check.calls (k : Nat) (A0 : Option Addr) (c0 : Nat) (l0 : List (SSchema)) (A1_0 : Option Addr) (c1_0 : Nat) (l1_0 : List (SStep)) (a1_1 : Int) (a1_2 : Int) (a1_3 : Int) (a1_4 : Int) (r : Int) (w : World) (hr0 : Kd.C kSchema w A0 l0.length l0) (hc0 : l0.length ≤ c0) (hr1_0 : Kd.C kStep w A1_0 l1_0.length l1_0) (hc1_0 : l1_0.length ≤ c1_0) (h : query_Check.f k l0 l1_0 a1_1 a1_2 a1_3 a1_4 = some r) :
  Calls Try.prog 15 #[.slice A0 l0.length c0, .agg #[.slice A1_0 l1_0.length c1_0, .int .i64 a1_1, .int .i64 a1_2, .int .i64 a1_3, .int .i64 a1_4]] w fun e w' => e = .returned (.int .i64 r) ∧ Below w.heap.size w w' := by
 have hu24 := Try.underlying24
 have hu40 := Try.underlying40
 have hu43 := Try.underlying43
 have HR0 := Aside0.mk hr0
 have HC0 := Aside0.mk hc0
 clear hr0 hc0
 have HR1_0 := Aside0.mk hr1_0
 have HC1_0 := Aside0.mk hc1_0
 clear hr1_0 hc1_0
 have HB := Aside0.mk (Below.refl w.heap.size w)
 have H : ((registry_May.f k l0).bind fun t171 => (if t171 = true then ((query_may.f k l1_0 a1_1 a1_2 a1_3 a1_4).bind fun t172 => (query_Check.j0 k l0 (!t172) l1_0 a1_1 a1_2 a1_3 a1_4)) else (query_Check.j0 k l0 true l1_0 a1_1 a1_2 a1_3 a1_4))) = some r := h
 clear h
 have HC3 := Aside0.mk H
 clear H
 go_enter Try.func15, Try.ntmps15
 go_upto_region 1 with (first | ((with_reducible refine zat (N := 3) rfl ?_); (try (refine zaC (by rfl) ?_; dsimp only)); refine zar ?hg (N := 3) ?hd (cs := #[.slice A1_0 l1_0.length c1_0, .int .i64 a1_1, .int .i64 a1_2, .int .i64 a1_3, .int .i64 a1_4]) (t := 24) ?hr ?_; (case hd => rfl); (case hg => rfl); (case hr => first | (go_simp; done) | (go_simp; rfl)); intro gb170 hg w4 hbox hb; have n0_ := Aside0.mk (zah (by repeat (first | (with_reducible first | exact HB.out | apply zaa | apply zac | apply zae) | exact HB.out)) hb); have n1_ := Aside0.mk (hbox); have n2_ := Aside0.mk ((by rw [hg]; exact (zan (by repeat (first | (with_reducible first | exact HB.out | apply zaa | apply zac | apply zae) | exact HB.out))) : w.heap.size ≤ gb170)); have n3_ := Aside0.mk ((by rw [hg]; exact (zan (by repeat (first | (with_reducible first | exact HB.out | apply zaa | apply zac | apply zae) | exact HB.out))) : w.heap.size ≤ gb170)); clear HB; have HB := n0_; have BK170 := n1_; have GW170 := n2_; have GE170 := n3_; clear n0_ n1_ n2_ n3_; clear hb hbox hg))
 (try simp only [Act.put, List.setIfInBounds_toArray, List.set_cons_zero, List.set_cons_succ])
 go_cut [17] (fun v17 wc => ∃ (kq : Nat) (x17_2 : Bool), v17 = .bool x17_2 ∧ Aside0 (query_Check.j0 kq l0 x17_2 l1_0 a1_1 a1_2 a1_3 a1_4 = some r) ∧ Aside0 (kq ≤ k) ∧ Aside0 (wc.heap[gb170]? = some (.cells #[(.slice A1_0 l1_0.length c1_0), .int .i64 a1_1, .int .i64 a1_2, .int .i64 a1_3, .int .i64 a1_4] 24 (0, 0))) ∧ Aside0 (Below w.heap.size w wc))
 case first =>
  have H := HC3.out
  clear HC3
  replace H := Option.bind_eq_some_iff.mp H
  obtain ⟨t171, A50, H⟩ := H
  replace H : (if t171 = true then ((query_may.f k l1_0 a1_1 a1_2 a1_3 a1_4).bind fun t172 => (query_Check.j0 k l0 (!t172) l1_0 a1_1 a1_2 a1_3 a1_4)) else (query_Check.j0 k l0 true l1_0 a1_1 a1_2 a1_3 a1_4)) = some r := H
  have A5 := Aside0.mk A50
  clear A50
  by_cases c6 : t171 = true
  ·subst c6
   have H1 : ((query_may.f k l1_0 a1_1 a1_2 a1_3 a1_4).bind fun t172 => (query_Check.j0 k l0 (!t172) l1_0 a1_1 a1_2 a1_3 a1_4)) = some r := by rw [if_pos rfl] at H; exact H
   clear H
   have H := H1
   clear H1
   replace H := Option.bind_eq_some_iff.mp H
   obtain ⟨t172, A70, H⟩ := H
   replace H : (query_Check.j0 k l0 (!t172) l1_0 a1_1 a1_2 a1_3 a1_4) = some r := H
   have A7 := Aside0.mk A70
   clear A70
   have H' := Aside0.mk H
   clear H
   go_wp2_with (first | ((with_reducible refine zaq (f := 29) rfl ?_); refine zav (some 11) rfl rfl Try.func29 (by kernel_rfl) rfl #[.slice A0 l0.length c0] rfl (by (try simp only [List.map_toArray, List.map_cons, List.map_nil]); first | done | rfl | (simp only [List.length_drop, List.length_take]; rfl)) ?_; (with_reducible refine (registry_May.calls k _ _ l0 true _ ?side1 ?side2 A5.out).mono ?_); (case side1 => repeat (first | exact (Kd.C_below HR0.out HB.out) | (with_reducible refine Kd.C_alloc ?_ _) | (with_reducible refine Kd.C_drewN ?_ _) | (with_reducible refine Kd.C_drew ?_))); (case side2 => exact HC0.out); rintro e w8 ⟨rfl, hb⟩; refine ⟨_, rfl, ?_⟩; have n0_ := Aside0.mk (zak (g := gb170) (o := .cells #[.slice A1_0 l1_0.length c1_0, .int .i64 a1_1, .int .i64 a1_2, .int .i64 a1_3, .int .i64 a1_4] 24 (0, 0)) (by (with_reducible repeat (first | refine zai ?_ _ | refine zaj ?_ | refine zag ?_ _)); exact BK170.out) hb); have n1_ := Aside0.mk (zah (by repeat (first | (with_reducible first | exact HB.out | apply zaa | apply zac | apply zae | refine zaf ?_ GE170.out) | exact HB.out)) hb); clear BK170; clear HB; have BK170 := n0_; have HB := n1_; clear n0_ n1_; (try clear hb); (try clear hb2); (try clear hk); (try clear hi); have hcz9_0 : w8.cell? ⟨gb170, 0, none⟩ = some (.slice A1_0 l1_0.length c1_0) := (zad BK170.out 0).trans rfl; have hcz9_1 : w8.cell? ⟨gb170, 1, none⟩ = some (.int .i64 a1_1) := (zad BK170.out 1).trans rfl; have hcz9_2 : w8.cell? ⟨gb170, 2, none⟩ = some (.int .i64 a1_2) := (zad BK170.out 2).trans rfl; have hcz9_3 : w8.cell? ⟨gb170, 3, none⟩ = some (.int .i64 a1_3) := (zad BK170.out 3).trans rfl; have hcz9_4 : w8.cell? ⟨gb170, 4, none⟩ = some (.int .i64 a1_4) := (zad BK170.out 4).trans rfl; have hfz9_0 := zab BK170.out 0; have hfz9_1 := zab BK170.out 1; have hfz9_2 := zab BK170.out 2; have hfz9_3 := zab BK170.out 3; have hfz9_4 := zab BK170.out 4) | (go_at_call 21; (with_reducible refine (query_may.calls k _ _ l1_0 a1_1 a1_2 a1_3 a1_4 t172 _ ?side1 ?side2 A7.out).mono ?_); (case side1 => repeat (first | exact (Kd.C_below HR1_0.out HB.out) | (with_reducible refine Kd.C_alloc ?_ _) | (with_reducible refine Kd.C_drewN ?_ _) | (with_reducible refine Kd.C_drew ?_))); (case side2 => exact HC1_0.out); rintro e w10 ⟨rfl, hb⟩; have n0_ := Aside0.mk (zak (g := gb170) (o := .cells #[.slice A1_0 l1_0.length c1_0, .int .i64 a1_1, .int .i64 a1_2, .int .i64 a1_3, .int .i64 a1_4] 24 (0, 0)) (by (with_reducible repeat (first | refine zai ?_ _ | refine zaj ?_ | refine zag ?_ _)); exact BK170.out) hb); have n1_ := Aside0.mk (zah (by repeat (first | (with_reducible first | exact HB.out | apply zaa | apply zac | apply zae | refine zaf ?_ GE170.out) | exact HB.out)) hb); clear BK170; clear HB; have BK170 := n0_; have HB := n1_; clear n0_ n1_; (try clear hb); (try clear hb2); (try clear hk); (try clear hi)))
   go_meet
   case rel => exact ⟨_, (!t172), (by first | rfl | (simp; done) | (simp [*]; done)), H', ⟨by first | omega | exact Nat.le_refl _⟩, ⟨by (with_reducible repeat (first | refine zai ?_ _ | refine zaj ?_ | refine zag ?_ _)); exact BK170.out⟩, ⟨by repeat (first | (with_reducible first | exact HB.out | apply zaa | apply zac | apply zae | refine zaf ?_ GE170.out) | exact HB.out)⟩⟩
  ·replace c6 := Bool.eq_false_iff.mpr c6
   subst c6
   have H1 : (query_Check.j0 k l0 true l1_0 a1_1 a1_2 a1_3 a1_4) = some r := by rw [if_neg (show ¬ (false = true) by decide)] at H; exact H
   clear H
   have H := H1
   clear H1
   have H' := Aside0.mk H
   clear H
   go_wp2_with (first | ((with_reducible refine zaq (f := 29) rfl ?_); refine zav (some 11) rfl rfl Try.func29 (by kernel_rfl) rfl #[.slice A0 l0.length c0] rfl (by (try simp only [List.map_toArray, List.map_cons, List.map_nil]); first | done | rfl | (simp only [List.length_drop, List.length_take]; rfl)) ?_; (with_reducible refine (registry_May.calls k _ _ l0 false _ ?side1 ?side2 A5.out).mono ?_); (case side1 => repeat (first | exact (Kd.C_below HR0.out HB.out) | (with_reducible refine Kd.C_alloc ?_ _) | (with_reducible refine Kd.C_drewN ?_ _) | (with_reducible refine Kd.C_drew ?_))); (case side2 => exact HC0.out); rintro e w11 ⟨rfl, hb⟩; refine ⟨_, rfl, ?_⟩; have n0_ := Aside0.mk (zak (g := gb170) (o := .cells #[.slice A1_0 l1_0.length c1_0, .int .i64 a1_1, .int .i64 a1_2, .int .i64 a1_3, .int .i64 a1_4] 24 (0, 0)) (by (with_reducible repeat (first | refine zai ?_ _ | refine zaj ?_ | refine zag ?_ _)); exact BK170.out) hb); have n1_ := Aside0.mk (zah (by repeat (first | (with_reducible first | exact HB.out | apply zaa | apply zac | apply zae | refine zaf ?_ GE170.out) | exact HB.out)) hb); clear BK170; clear HB; have BK170 := n0_; have HB := n1_; clear n0_ n1_; (try clear hb); (try clear hb2); (try clear hk); (try clear hi)))
   go_meet
   case rel => exact ⟨_, (true), (by first | rfl | (simp; done) | (simp [*]; done)), H', ⟨by first | omega | exact Nat.le_refl _⟩, ⟨by (with_reducible repeat (first | refine zai ?_ _ | refine zaj ?_ | refine zag ?_ _)); exact BK170.out⟩, ⟨by repeat (first | (with_reducible first | exact HB.out | apply zaa | apply zac | apply zae | refine zaf ?_ GE170.out) | exact HB.out)⟩⟩
 case rest =>
  clear HC3
  try clear c1
  try clear c2
  try clear p2
  try clear c6
  try clear hcz9_0
  try clear hcz9_1
  try clear hcz9_2
  try clear hcz9_3
  try clear hcz9_4
  try clear hfz9_0
  try clear hfz9_1
  try clear hfz9_2
  try clear hfz9_3
  try clear hfz9_4
  obtain ⟨kq, x17_2, rfl, HA, HJ2, BK170, HB⟩ := hcut
  cases kq with
  | zero => exact absurd HA.out (by simp [query_Check.j0])
  | succ kj2 =>
   have H := HA.out
   clear HA
   simp only [query_Check.j0] at H
   by_cases c12 : x17_2 = true
   ·subst c12
    have H1 : (some 1) = some r := by rw [if_pos rfl] at H; exact H
    clear H
    have H := H1
    clear H1
    obtain rfl := Option.some.inj H
    go_wp2
    go_ret
    exact ⟨by first | rfl | (simp [zap, zao] <;> rfl) | (simp [*, zap, zao] <;> rfl), by repeat (first | (with_reducible first | exact HB.out | apply zaa | apply zac | apply zae | refine zaf ?_ GE170.out) | exact HB.out)⟩
   ·replace c12 := Bool.eq_false_iff.mpr c12
    subst c12
    have H1 : (query_Check.l0 kj2 l0 l1_0 (l1_0.length : Int) 0 l1_0 a1_1 a1_2 a1_3 a1_4) = some r := by rw [if_neg (show ¬ (false = true) by decide)] at H; exact H
    clear H
    have H := H1
    clear H1
    have H' := Aside0.mk H
    clear H
    have hcz13_0 : wc.cell? ⟨gb170, 0, none⟩ = some (.slice A1_0 l1_0.length c1_0) := (zad BK170.out 0).trans rfl
    have hcz13_1 : wc.cell? ⟨gb170, 1, none⟩ = some (.int .i64 a1_1) := (zad BK170.out 1).trans rfl
    have hcz13_2 : wc.cell? ⟨gb170, 2, none⟩ = some (.int .i64 a1_2) := (zad BK170.out 2).trans rfl
    have hcz13_3 : wc.cell? ⟨gb170, 3, none⟩ = some (.int .i64 a1_3) := (zad BK170.out 3).trans rfl
    have hcz13_4 : wc.cell? ⟨gb170, 4, none⟩ = some (.int .i64 a1_4) := (zad BK170.out 4).trans rfl
    have hfz13_0 := zab BK170.out 0
    have hfz13_1 := zab BK170.out 1
    have hfz13_2 := zab BK170.out 2
    have hfz13_3 := zab BK170.out 3
    have hfz13_4 := zab BK170.out 4
    go_wp2
    go_loopg [21] kj2 (fun kq v21 w' => ∃ (x21_2 : Int), v21 = .int .i64 x21_2 ∧ Aside0 (query_Check.l0 kq l0 l1_0 (l1_0.length : Int) x21_2 l1_0 a1_1 a1_2 a1_3 a1_4 = some r) ∧ Aside0 (kq ≤ kj2) ∧ Aside0 (w'.heap[gb170]? = some (.cells #[(.slice A1_0 l1_0.length c1_0), .int .i64 a1_1, .int .i64 a1_2, .int .i64 a1_3, .int .i64 a1_4] 24 (0, 0))) ∧ Aside0 (Below w.heap.size w w'))
    case atStart => exact ⟨(0), (by first | rfl | (simp; done) | (simp [*]; done)), H', ⟨Nat.le_refl _⟩, ⟨by (with_reducible repeat (first | refine zai ?_ _ | refine zaj ?_ | refine zag ?_ _)); exact BK170.out⟩, ⟨by repeat (first | (with_reducible first | exact HB.out | apply zaa | apply zac | apply zae | refine zaf ?_ GE170.out) | exact HB.out)⟩⟩
    case round =>
     clear H'
     try clear c1
     try clear c2
     try clear p2
     try clear c6
     try clear c12
     try clear hcz13_0
     try clear hcz13_1
     try clear hcz13_2
     try clear hcz13_3
     try clear hcz13_4
     try clear hcz9_0
     try clear hcz9_1
     try clear hcz9_2
     try clear hcz9_3
     try clear hcz9_4
     try clear hfz13_0
     try clear hfz13_1
     try clear hfz13_2
     try clear hfz13_3
     try clear hfz13_4
     try clear hfz9_0
     try clear hfz9_1
     try clear hfz9_2
     try clear hfz9_3
     try clear hfz9_4
     try clear p2
     obtain ⟨x21_2, rfl, HA, HK2, BK170, HB⟩ := hrel
     cases gk with
     | zero => exact absurd HA.out (by simp [query_Check.l0])
     | succ k2 =>
      have H := HA.out
      clear HA
      simp only [query_Check.l0] at H
      by_cases c14 : x21_2 < (l1_0.length : Int)
      ·rw [if_pos c14] at H
       have c14b0 : decide (x21_2 < (l1_0.length : Int)) = true := decide_eq_true c14
       clear c14
       by_cases c15 : 0 ≤ x21_2
       ·rw [if_pos c15] at H
        have c15b0 : decide (0 ≤ x21_2) = true := decide_eq_true c15
        clear c15
        by_cases c16 : x21_2 < (l1_0.length : Int)
        ·rw [if_pos c16] at H
         have c16b0 : decide (x21_2 < (l1_0.length : Int)) = true := decide_eq_true c16
         clear c16
         replace H := Option.bind_eq_some_iff.mp H
         obtain ⟨t184, A170, H⟩ := H
         replace H : (if t184 = 0 then (query_Check.j2 k2 l0 t184 l1_0 (l1_0.length : Int) x21_2 ((zam l1_0 x21_2).f4) l1_0 a1_1 a1_2 a1_3 a1_4 ((zam l1_0 x21_2).f0) ((zam l1_0 x21_2).f1) ((zam l1_0 x21_2).f2) ((zam l1_0 x21_2).f3) ((zam l1_0 x21_2).f4) ((zam l1_0 x21_2).f5) ((zam l1_0 x21_2).f6)) else (query_Check.j2 k2 l0 t184 l1_0 (l1_0.length : Int) x21_2 false l1_0 a1_1 a1_2 a1_3 a1_4 ((zam l1_0 x21_2).f0) ((zam l1_0 x21_2).f1) ((zam l1_0 x21_2).f2) ((zam l1_0 x21_2).f3) ((zam l1_0 x21_2).f4) ((zam l1_0 x21_2).f5) ((zam l1_0 x21_2).f6))) = some r := H
         have A17 := Aside0.mk A170
         clear A170
         have HC18 := Aside0.mk H
         clear H
         have p182 : 0 ≤ (x21_2 : Int) := of_decide_eq_true (by first | (with_reducible assumption) | assumption)
         have q182 : x21_2 < (l1_0.length : Int) := of_decide_eq_true (by first | (with_reducible assumption) | assumption)
         obtain ⟨ad182, A182_1, c182_1, A182_6, c182_6, e182, hx182_0, hx182_1, hx182_2, hx182_3, hx182_4, hx182_5, hx182_6, hl182_1, hi182_1, hl182_6, hi182_6⟩ := zbr HR1_0.out x21_2 p182 q182
         cases e182
         replace hx182_0 := (HB.out.cell (World.block_lt_of_cell? w _ hx182_0)).trans hx182_0
         replace hx182_1 := (HB.out.cell (World.block_lt_of_cell? w _ hx182_1)).trans hx182_1
         replace hx182_2 := (HB.out.cell (World.block_lt_of_cell? w _ hx182_2)).trans hx182_2
         replace hx182_3 := (HB.out.cell (World.block_lt_of_cell? w _ hx182_3)).trans hx182_3
         replace hx182_4 := (HB.out.cell (World.block_lt_of_cell? w _ hx182_4)).trans hx182_4
         replace hx182_5 := (HB.out.cell (World.block_lt_of_cell? w _ hx182_5)).trans hx182_5
         replace hx182_6 := (HB.out.cell (World.block_lt_of_cell? w _ hx182_6)).trans hx182_6
         have HR182_1 := Aside0.mk hi182_1
         have HC182_1 := Aside0.mk hl182_1
         clear hi182_1 hl182_1
         have HR182_6 := Aside0.mk hi182_6
         have HC182_6 := Aside0.mk hl182_6
         clear hi182_6 hl182_6
         replace p182 := eq_true p182
         replace q182 := eq_true q182
         go_upto_region 7 with (first | ((with_reducible refine zat (N := 6) rfl ?_); (try (refine zaC (by rfl) ?_; dsimp only)); refine zar ?hg (N := 6) ?hd (cs := #[.string (⟨#[]⟩ : ByteArray), .slice none 0 0, .int .i64 0, .int .i64 0, .bool false, .string (⟨#[]⟩ : ByteArray), .slice none 0 0]) (t := 40) ?hr ?_; (case hd => rfl); (case hg => rfl); (case hr => first | (go_simp; done) | (go_simp; rfl)); intro gb183 hg w19 hbox hb; have n0_ := Aside0.mk (zak (g := gb170) (o := .cells #[.slice (some ad182) l1_0.length c1_0, .int .i64 a1_1, .int .i64 a1_2, .int .i64 a1_3, .int .i64 a1_4] 24 (0, 0)) (by (with_reducible repeat (first | refine zai ?_ _ | refine zaj ?_ | refine zag ?_ _)); exact BK170.out) hb); have n1_ := Aside0.mk (zah (by repeat (first | (with_reducible first | exact HB.out | apply zaa | apply zac | apply zae | refine zaf ?_ GE170.out) | exact HB.out)) hb); have n2_ := Aside0.mk (hbox); have n3_ := Aside0.mk ((by rw [hg]; exact (zan (by repeat (first | (with_reducible first | exact HB.out | apply zaa | apply zac | apply zae | refine zaf ?_ GE170.out) | exact HB.out))) : w.heap.size ≤ gb183)); have n4_ := Aside0.mk ((by rw [hg]; exact (zan (by repeat (first | (with_reducible first | exact HB.out | apply zaa | apply zac | apply zae | refine zaf ?_ GE170.out) | exact HB.out))) : w.heap.size ≤ gb183)); have n5_ := Aside0.mk ((by rw [hg]; exact Nat.ne_of_lt (zay (g := gb170) (o := .cells #[.slice (some ad182) l1_0.length c1_0, .int .i64 a1_1, .int .i64 a1_2, .int .i64 a1_3, .int .i64 a1_4] 24 (0, 0)) (by (with_reducible repeat (first | refine zai ?_ _ | refine zaj ?_ | refine zag ?_ _)); exact BK170.out)) : gb170 ≠ gb183)); have n6_ := Aside0.mk ((by rw [hg]; exact Nat.ne_of_gt (zay (g := gb170) (o := .cells #[.slice (some ad182) l1_0.length c1_0, .int .i64 a1_1, .int .i64 a1_2, .int .i64 a1_3, .int .i64 a1_4] 24 (0, 0)) (by (with_reducible repeat (first | refine zai ?_ _ | refine zaj ?_ | refine zag ?_ _)); exact BK170.out)) : gb183 ≠ gb170)); clear BK170; clear HB; have BK170 := n0_; have HB := n1_; have BK183 := n2_; have GW183 := n3_; have GE183 := n4_; have NB170_183 := n5_; have NB183_170 := n6_; clear n0_ n1_ n2_ n3_ n4_ n5_ n6_; clear hb hbox hg; have hnb20 := NB183_170.out; have hnc20 := NB170_183.out; have hcz21_0 : w19.cell? ⟨gb183, 0, none⟩ = some (.string (⟨#[]⟩ : ByteArray)) := (zad BK183.out 0).trans rfl; have hcz21_1 : w19.cell? ⟨gb183, 1, none⟩ = some (.slice none 0 0) := (zad BK183.out 1).trans rfl; have hcz21_2 : w19.cell? ⟨gb183, 2, none⟩ = some (.int .i64 0) := (zad BK183.out 2).trans rfl; have hcz21_3 : w19.cell? ⟨gb183, 3, none⟩ = some (.int .i64 0) := (zad BK183.out 3).trans rfl; have hcz21_4 : w19.cell? ⟨gb183, 4, none⟩ = some (.bool false) := (zad BK183.out 4).trans rfl; have hcz21_5 : w19.cell? ⟨gb183, 5, none⟩ = some (.string (⟨#[]⟩ : ByteArray)) := (zad BK183.out 5).trans rfl; have hcz21_6 : w19.cell? ⟨gb183, 6, none⟩ = some (.slice none 0 0) := (zad BK183.out 6).trans rfl; have hfz21_0 := zab BK183.out 0; have hfz21_1 := zab BK183.out 1; have hfz21_2 := zab BK183.out 2; have hfz21_3 := zab BK183.out 3; have hfz21_4 := zab BK183.out 4; have hfz21_5 := zab BK183.out 5; have hfz21_6 := zab BK183.out 6) | ((with_reducible refine zaq (f := 30) rfl ?_); refine zav (some 30) rfl rfl Try.func30 (by kernel_rfl) rfl #[.slice A0 l0.length c0, .string ((zam l1_0 x21_2).f0), .slice A182_1 ((zam l1_0 x21_2).f1).length c182_1] rfl (by (try simp only [List.map_toArray, List.map_cons, List.map_nil]); first | done | rfl | (simp only [List.length_drop, List.length_take]; rfl)) ?_; (with_reducible refine (query_asks.calls _ _ l0 ((zam l1_0 x21_2).f0) _ _ ((zam l1_0 x21_2).f1) t184 _ ?side1 ?side2 ?side3 ?side4 A17.out).mono ?_); (case side1 => exact Kd.C_below HR0.out (by repeat (first | (with_reducible first | exact HB.out | apply zaa | apply zac | apply zae | refine zaf ?_ GE170.out | refine zaf ?_ GE183.out) | exact HB.out))); (case side2 => exact HC0.out); (case side3 => exact Kd.C_below HR182_1.out (by repeat (first | (with_reducible first | exact HB.out | apply zaa | apply zac | apply zae | refine zaf ?_ GE170.out | refine zaf ?_ GE183.out) | exact HB.out))); (case side4 => exact HC182_1.out); rintro e w22 ⟨rfl, hb⟩; refine ⟨_, rfl, ?_⟩; have n0_ := Aside0.mk (zak (g := gb170) (o := .cells #[.slice (some ad182) l1_0.length c1_0, .int .i64 a1_1, .int .i64 a1_2, .int .i64 a1_3, .int .i64 a1_4] 24 (0, 0)) (by (with_reducible repeat (first | refine zai ?_ _ | refine zaj ?_ | refine zag ?_ _)); refine zaM ?_ NB170_183.out _; (with_reducible repeat (first | refine zai ?_ _ | refine zaj ?_ | refine zag ?_ _)); refine zaM ?_ NB170_183.out _; (with_reducible repeat (first | refine zai ?_ _ | refine zaj ?_ | refine zag ?_ _)); refine zaM ?_ NB170_183.out _; (with_reducible repeat (first | refine zai ?_ _ | refine zaj ?_ | refine zag ?_ _)); refine zaM ?_ NB170_183.out _; (with_reducible repeat (first | refine zai ?_ _ | refine zaj ?_ | refine zag ?_ _)); refine zaM ?_ NB170_183.out _; (with_reducible repeat (first | refine zai ?_ _ | refine zaj ?_ | refine zag ?_ _)); refine zaM ?_ NB170_183.out _; (with_reducible repeat (first | refine zai ?_ _ | refine zaj ?_ | refine zag ?_ _)); refine zaM ?_ NB170_183.out _; (with_reducible repeat (first | refine zai ?_ _ | refine zaj ?_ | refine zag ?_ _)); exact BK170.out) hb); have n1_ := Aside0.mk (zak (g := gb183) (o := .cells #[.string ((zam l1_0 x21_2).f0), .slice A182_1 ((zam l1_0 x21_2).f1).length c182_1, .int .i64 ((zam l1_0 x21_2).f2), .int .i64 ((zam l1_0 x21_2).f3), .bool ((zam l1_0 x21_2).f4), .string ((zam l1_0 x21_2).f5), .slice A182_6 ((zam l1_0 x21_2).f6).length c182_6] 40 (0, 0)) (by (with_reducible repeat (first | refine zai ?_ _ | refine zaj ?_ | refine zag ?_ _)); refine zas (cs := #[.string ((zam l1_0 x21_2).f0), .slice A182_1 ((zam l1_0 x21_2).f1).length c182_1, .int .i64 ((zam l1_0 x21_2).f2), .int .i64 ((zam l1_0 x21_2).f3), .bool ((zam l1_0 x21_2).f4), .string ((zam l1_0 x21_2).f5), .slice none 0 0]) ?_ 6 _ rfl; (with_reducible repeat (first | refine zai ?_ _ | refine zaj ?_ | refine zag ?_ _)); refine zas (cs := #[.string ((zam l1_0 x21_2).f0), .slice A182_1 ((zam l1_0 x21_2).f1).length c182_1, .int .i64 ((zam l1_0 x21_2).f2), .int .i64 ((zam l1_0 x21_2).f3), .bool ((zam l1_0 x21_2).f4), .string (⟨#[]⟩ : ByteArray), .slice none 0 0]) ?_ 5 _ rfl; (with_reducible repeat (first | refine zai ?_ _ | refine zaj ?_ | refine zag ?_ _)); refine zas (cs := #[.string ((zam l1_0 x21_2).f0), .slice A182_1 ((zam l1_0 x21_2).f1).length c182_1, .int .i64 ((zam l1_0 x21_2).f2), .int .i64 ((zam l1_0 x21_2).f3), .bool false, .string (⟨#[]⟩ : ByteArray), .slice none 0 0]) ?_ 4 _ rfl; (with_reducible repeat (first | refine zai ?_ _ | refine zaj ?_ | refine zag ?_ _)); refine zas (cs := #[.string ((zam l1_0 x21_2).f0), .slice A182_1 ((zam l1_0 x21_2).f1).length c182_1, .int .i64 ((zam l1_0 x21_2).f2), .int .i64 0, .bool false, .string (⟨#[]⟩ : ByteArray), .slice none 0 0]) ?_ 3 _ rfl; (with_reducible repeat (first | refine zai ?_ _ | refine zaj ?_ | refine zag ?_ _)); refine zas (cs := #[.string ((zam l1_0 x21_2).f0), .slice A182_1 ((zam l1_0 x21_2).f1).length c182_1, .int .i64 0, .int .i64 0, .bool false, .string (⟨#[]⟩ : ByteArray), .slice none 0 0]) ?_ 2 _ rfl; (with_reducible repeat (first | refine zai ?_ _ | refine zaj ?_ | refine zag ?_ _)); refine zas (cs := #[.string ((zam l1_0 x21_2).f0), .slice none 0 0, .int .i64 0, .int .i64 0, .bool false, .string (⟨#[]⟩ : ByteArray), .slice none 0 0]) ?_ 1 _ rfl; (with_reducible repeat (first | refine zai ?_ _ | refine zaj ?_ | refine zag ?_ _)); refine zas (cs := #[.string (⟨#[]⟩ : ByteArray), .slice none 0 0, .int .i64 0, .int .i64 0, .bool false, .string (⟨#[]⟩ : ByteArray), .slice none 0 0]) ?_ 0 _ rfl; (with_reducible repeat (first | refine zai ?_ _ | refine zaj ?_ | refine zag ?_ _)); exact BK183.out) hb); have n2_ := Aside0.mk (zah (by repeat (first | (with_reducible first | exact HB.out | apply zaa | apply zac | apply zae | refine zaf ?_ GE170.out | refine zaf ?_ GE183.out) | exact HB.out)) hb); clear BK170; clear BK183; clear HB; have BK170 := n0_; have BK183 := n1_; have HB := n2_; clear n0_ n1_ n2_; (try clear hb); (try clear hb2); (try clear hk); (try clear hi)))
         (try simp only [Act.put, List.setIfInBounds_toArray, List.set_cons_zero, List.set_cons_succ])
         go_cut [36] (fun v36 wc => ∃ (kq : Nat) (x36_17 : Bool), v36 = .bool x36_17 ∧ Aside0 (query_Check.j2 kq l0 t184 l1_0 (l1_0.length : Int) x21_2 x36_17 l1_0 a1_1 a1_2 a1_3 a1_4 ((zam l1_0 x21_2).f0) ((zam l1_0 x21_2).f1) ((zam l1_0 x21_2).f2) ((zam l1_0 x21_2).f3) ((zam l1_0 x21_2).f4) ((zam l1_0 x21_2).f5) ((zam l1_0 x21_2).f6) = some r) ∧ Aside0 (kq ≤ k2) ∧ Aside0 (wc.heap[gb170]? = some (.cells #[(.slice (some ad182) l1_0.length c1_0), .int .i64 a1_1, .int .i64 a1_2, .int .i64 a1_3, .int .i64 a1_4] 24 (0, 0))) ∧ Aside0 (wc.heap[gb183]? = some (.cells #[.string ((zam l1_0 x21_2).f0), (.slice A182_1 ((zam l1_0 x21_2).f1).length c182_1), .int .i64 ((zam l1_0 x21_2).f2), .int .i64 ((zam l1_0 x21_2).f3), .bool ((zam l1_0 x21_2).f4), .string ((zam l1_0 x21_2).f5), (.slice A182_6 ((zam l1_0 x21_2).f6).length c182_6)] 40 (0, 0))) ∧ Aside0 (Below w.heap.size w wc))
         case first =>
          have H := HC18.out
          clear HC18
          by_cases c23 : t184 = 0
          ·rw [if_pos c23] at H
           have c23b0 : (t184 == 0) = true := beq_iff_eq.mpr c23
           have c23b1 : (t184 != 0) = false := bne_eq_false_iff_eq.mpr c23
           clear c23
           (first | rw [c23b0] | (simp only [zaE, zaF]; rw [c23b0]) | skip)
           have H' := Aside0.mk H
           clear H
           have hnb24 := NB183_170.out
           have hnc24 := NB170_183.out
           have hcz25_0 : w22.cell? ⟨gb183, 0, none⟩ = some (.string ((zam l1_0 x21_2).f0)) := (zad BK183.out 0).trans rfl
           have hcz25_1 : w22.cell? ⟨gb183, 1, none⟩ = some (.slice A182_1 ((zam l1_0 x21_2).f1).length c182_1) := (zad BK183.out 1).trans rfl
           have hcz25_2 : w22.cell? ⟨gb183, 2, none⟩ = some (.int .i64 ((zam l1_0 x21_2).f2)) := (zad BK183.out 2).trans rfl
           have hcz25_3 : w22.cell? ⟨gb183, 3, none⟩ = some (.int .i64 ((zam l1_0 x21_2).f3)) := (zad BK183.out 3).trans rfl
           have hcz25_4 : w22.cell? ⟨gb183, 4, none⟩ = some (.bool ((zam l1_0 x21_2).f4)) := (zad BK183.out 4).trans rfl
           have hcz25_5 : w22.cell? ⟨gb183, 5, none⟩ = some (.string ((zam l1_0 x21_2).f5)) := (zad BK183.out 5).trans rfl
           have hcz25_6 : w22.cell? ⟨gb183, 6, none⟩ = some (.slice A182_6 ((zam l1_0 x21_2).f6).length c182_6) := (zad BK183.out 6).trans rfl
           have hfz25_0 := zab BK183.out 0
           have hfz25_1 := zab BK183.out 1
           have hfz25_2 := zab BK183.out 2
           have hfz25_3 := zab BK183.out 3
           have hfz25_4 := zab BK183.out 4
           have hfz25_5 := zab BK183.out 5
           have hfz25_6 := zab BK183.out 6
           go_wp2
           go_meet
           case rel => exact ⟨_, ((zam l1_0 x21_2).f4), (by first | rfl | (simp; done) | (simp [*]; done)), H', ⟨by have := HJ2.out; have := HK2.out; first | omega | exact Nat.le_refl _⟩, ⟨by (with_reducible repeat (first | refine zai ?_ _ | refine zaj ?_ | refine zag ?_ _)); exact BK170.out⟩, ⟨by (with_reducible repeat (first | refine zai ?_ _ | refine zaj ?_ | refine zag ?_ _)); exact BK183.out⟩, ⟨by repeat (first | (with_reducible first | exact HB.out | apply zaa | apply zac | apply zae | refine zaf ?_ GE170.out | refine zaf ?_ GE183.out) | exact HB.out)⟩⟩
          ·rw [if_neg c23] at H
           have c23b0 : (t184 == 0) = false := beq_eq_false_iff_ne.mpr c23
           have c23b1 : (t184 != 0) = true := bne_iff_ne.mpr c23
           (first | rw [c23b0] | (simp only [zaE, zaF]; rw [c23b0]) | skip)
           have H' := Aside0.mk H
           clear H
           go_wp2
           go_meet
           case rel => exact ⟨_, (false), (by first | rfl | (simp; done) | (simp [*]; done)), H', ⟨by have := HJ2.out; have := HK2.out; first | omega | exact Nat.le_refl _⟩, ⟨by (with_reducible repeat (first | refine zai ?_ _ | refine zaj ?_ | refine zag ?_ _)); exact BK170.out⟩, ⟨by (with_reducible repeat (first | refine zai ?_ _ | refine zaj ?_ | refine zag ?_ _)); exact BK183.out⟩, ⟨by repeat (first | (with_reducible first | exact HB.out | apply zaa | apply zac | apply zae | refine zaf ?_ GE170.out | refine zaf ?_ GE183.out) | exact HB.out)⟩⟩
         case rest =>
          clear HC18
          try clear c1
          try clear p1
          try clear q1
          try clear hx1
          try clear c2
          try clear p2
          try clear c3
          try clear c6
          try clear c12
          try clear c14
          try clear c14b0
          try clear c15
          try clear c15b0
          try clear c16
          try clear c16b0
          try clear c18
          try clear p18
          try clear q18
          try clear hx18
          try clear c20
          try clear c23
          try clear c23b0
          try clear c23b1
          try clear c24
          try clear hcz13_0
          try clear hcz13_1
          try clear hcz13_2
          try clear hcz13_3
          try clear hcz13_4
          try clear hcz21_0
          try clear hcz21_1
          try clear hcz21_2
          try clear hcz21_3
          try clear hcz21_4
          try clear hcz21_5
          try clear hcz21_6
          try clear hcz25_0
          try clear hcz25_1
          try clear hcz25_2
          try clear hcz25_3
          try clear hcz25_4
          try clear hcz25_5
          try clear hcz25_6
          try clear hcz9_0
          try clear hcz9_1
          try clear hcz9_2
          try clear hcz9_3
          try clear hcz9_4
          try clear hfz13_0
          try clear hfz13_1
          try clear hfz13_2
          try clear hfz13_3
          try clear hfz13_4
          try clear hfz21_0
          try clear hfz21_1
          try clear hfz21_2
          try clear hfz21_3
          try clear hfz21_4
          try clear hfz21_5
          try clear hfz21_6
          try clear hfz25_0
          try clear hfz25_1
          try clear hfz25_2
          try clear hfz25_3
          try clear hfz25_4
          try clear hfz25_5
          try clear hfz25_6
          try clear hfz9_0
          try clear hfz9_1
          try clear hfz9_2
          try clear hfz9_3
          try clear hfz9_4
          try clear hx182_0
          try clear hx182_1
          try clear hx182_2
          try clear hx182_3
          try clear hx182_4
          try clear hx182_5
          try clear hx182_6
          try clear p182
          try clear p2
          try clear q182
          obtain ⟨kq, x36_17, rfl, HA, HJ17, BK170, BK183, HB⟩ := hcut
          cases kq with
          | zero => exact absurd HA.out (by simp [query_Check.j2])
          | succ kj17 =>
           have H := HA.out
           clear HA
           simp only [query_Check.j2] at H
           by_cases c26 : x36_17 = true
           ·subst c26
            have H1 : ((query_asks.f l0 ((zam l1_0 x21_2).f5) ((zam l1_0 x21_2).f6)).bind fun t185 => (if t185 = 0 then (query_Check.l0 kj17 l0 l1_0 (l1_0.length : Int) (wrap64 (x21_2 + 1)) l1_0 a1_1 a1_2 a1_3 a1_4) else (some t185))) = some r := by rw [if_pos rfl] at H; exact H
            clear H
            have H := H1
            clear H1
            replace H := Option.bind_eq_some_iff.mp H
            obtain ⟨t185, A270, H⟩ := H
            replace H : (if t185 = 0 then (query_Check.l0 kj17 l0 l1_0 (l1_0.length : Int) (wrap64 (x21_2 + 1)) l1_0 a1_1 a1_2 a1_3 a1_4) else (some t185)) = some r := H
            have A27 := Aside0.mk A270
            clear A270
            by_cases c28 : t185 = 0
            ·rw [if_pos c28] at H
             have c28b0 : (t185 == 0) = true := beq_iff_eq.mpr c28
             have c28b1 : (t185 != 0) = false := bne_eq_false_iff_eq.mpr c28
             clear c28
             have H' := Aside0.mk H
             clear H
             have hnb29 := NB183_170.out
             have hnc29 := NB170_183.out
             have hcz30_0 : wc.cell? ⟨gb183, 0, none⟩ = some (.string ((zam l1_0 x21_2).f0)) := (zad BK183.out 0).trans rfl
             have hcz30_1 : wc.cell? ⟨gb183, 1, none⟩ = some (.slice A182_1 ((zam l1_0 x21_2).f1).length c182_1) := (zad BK183.out 1).trans rfl
             have hcz30_2 : wc.cell? ⟨gb183, 2, none⟩ = some (.int .i64 ((zam l1_0 x21_2).f2)) := (zad BK183.out 2).trans rfl
             have hcz30_3 : wc.cell? ⟨gb183, 3, none⟩ = some (.int .i64 ((zam l1_0 x21_2).f3)) := (zad BK183.out 3).trans rfl
             have hcz30_4 : wc.cell? ⟨gb183, 4, none⟩ = some (.bool ((zam l1_0 x21_2).f4)) := (zad BK183.out 4).trans rfl
             have hcz30_5 : wc.cell? ⟨gb183, 5, none⟩ = some (.string ((zam l1_0 x21_2).f5)) := (zad BK183.out 5).trans rfl
             have hcz30_6 : wc.cell? ⟨gb183, 6, none⟩ = some (.slice A182_6 ((zam l1_0 x21_2).f6).length c182_6) := (zad BK183.out 6).trans rfl
             have hfz30_0 := zab BK183.out 0
             have hfz30_1 := zab BK183.out 1
             have hfz30_2 := zab BK183.out 2
             have hfz30_3 := zab BK183.out 3
             have hfz30_4 := zab BK183.out 4
             have hfz30_5 := zab BK183.out 5
             have hfz30_6 := zab BK183.out 6
             go_wp2_with (first | ((with_reducible refine zaq (f := 30) rfl ?_); refine zav (some 42) rfl rfl Try.func30 (by kernel_rfl) rfl #[.slice A0 l0.length c0, .string ((zam l1_0 x21_2).f5), .slice A182_6 ((zam l1_0 x21_2).f6).length c182_6] rfl (by (try simp only [List.map_toArray, List.map_cons, List.map_nil]); first | done | rfl | (simp only [List.length_drop, List.length_take]; rfl)) ?_; (with_reducible refine (query_asks.calls _ _ l0 ((zam l1_0 x21_2).f5) _ _ ((zam l1_0 x21_2).f6) t185 _ ?side1 ?side2 ?side3 ?side4 A27.out).mono ?_); (case side1 => repeat (first | exact (Kd.C_below HR0.out HB.out) | (with_reducible refine Kd.C_alloc ?_ _) | (with_reducible refine Kd.C_drewN ?_ _) | (with_reducible refine Kd.C_drew ?_))); (case side2 => exact HC0.out); (case side3 => repeat (first | exact (Kd.C_below HR182_6.out HB.out) | (with_reducible refine Kd.C_alloc ?_ _) | (with_reducible refine Kd.C_drewN ?_ _) | (with_reducible refine Kd.C_drew ?_))); (case side4 => exact HC182_6.out); rintro e w31 ⟨rfl, hb⟩; refine ⟨_, rfl, ?_⟩; have n0_ := Aside0.mk (zak (g := gb170) (o := .cells #[.slice (some ad182) l1_0.length c1_0, .int .i64 a1_1, .int .i64 a1_2, .int .i64 a1_3, .int .i64 a1_4] 24 (0, 0)) (by (with_reducible repeat (first | refine zai ?_ _ | refine zaj ?_ | refine zag ?_ _)); exact BK170.out) hb); have n1_ := Aside0.mk (zak (g := gb183) (o := .cells #[.string ((zam l1_0 x21_2).f0), .slice A182_1 ((zam l1_0 x21_2).f1).length c182_1, .int .i64 ((zam l1_0 x21_2).f2), .int .i64 ((zam l1_0 x21_2).f3), .bool ((zam l1_0 x21_2).f4), .string ((zam l1_0 x21_2).f5), .slice A182_6 ((zam l1_0 x21_2).f6).length c182_6] 40 (0, 0)) (by (with_reducible repeat (first | refine zai ?_ _ | refine zaj ?_ | refine zag ?_ _)); exact BK183.out) hb); have n2_ := Aside0.mk (zah (by repeat (first | (with_reducible first | exact HB.out | apply zaa | apply zac | apply zae | refine zaf ?_ GE170.out | refine zaf ?_ GE183.out) | exact HB.out)) hb); clear BK170; clear BK183; clear HB; have BK170 := n0_; have BK183 := n1_; have HB := n2_; clear n0_ n1_ n2_; (try clear hb); (try clear hb2); (try clear hk); (try clear hi)))
             go_roundg kj17
             case measure => have := HJ2.out; have := HK2.out; have := HJ17.out; omega
             case rel => exact ⟨(wrap64 (x21_2 + 1)), (by first | rfl | (simp; done) | (simp [*]; done)), H', ⟨by have := HJ2.out; have := HK2.out; have := HJ17.out; omega⟩, ⟨by (with_reducible repeat (first | refine zai ?_ _ | refine zaj ?_ | refine zag ?_ _)); exact BK170.out⟩, ⟨by repeat (first | (with_reducible first | exact HB.out | apply zaa | apply zac | apply zae | refine zaf ?_ GE170.out | refine zaf ?_ GE183.out) | exact HB.out)⟩⟩
            ·rw [if_neg c28] at H
             have c28b0 : (t185 == 0) = false := beq_eq_false_iff_ne.mpr c28
             have c28b1 : (t185 != 0) = true := bne_iff_ne.mpr c28
             obtain rfl := Option.some.inj H
             have hnb32 := NB183_170.out
             have hnc32 := NB170_183.out
             have hcz33_0 : wc.cell? ⟨gb183, 0, none⟩ = some (.string ((zam l1_0 x21_2).f0)) := (zad BK183.out 0).trans rfl
             have hcz33_1 : wc.cell? ⟨gb183, 1, none⟩ = some (.slice A182_1 ((zam l1_0 x21_2).f1).length c182_1) := (zad BK183.out 1).trans rfl
             have hcz33_2 : wc.cell? ⟨gb183, 2, none⟩ = some (.int .i64 ((zam l1_0 x21_2).f2)) := (zad BK183.out 2).trans rfl
             have hcz33_3 : wc.cell? ⟨gb183, 3, none⟩ = some (.int .i64 ((zam l1_0 x21_2).f3)) := (zad BK183.out 3).trans rfl
             have hcz33_4 : wc.cell? ⟨gb183, 4, none⟩ = some (.bool ((zam l1_0 x21_2).f4)) := (zad BK183.out 4).trans rfl
             have hcz33_5 : wc.cell? ⟨gb183, 5, none⟩ = some (.string ((zam l1_0 x21_2).f5)) := (zad BK183.out 5).trans rfl
             have hcz33_6 : wc.cell? ⟨gb183, 6, none⟩ = some (.slice A182_6 ((zam l1_0 x21_2).f6).length c182_6) := (zad BK183.out 6).trans rfl
             have hfz33_0 := zab BK183.out 0
             have hfz33_1 := zab BK183.out 1
             have hfz33_2 := zab BK183.out 2
             have hfz33_3 := zab BK183.out 3
             have hfz33_4 := zab BK183.out 4
             have hfz33_5 := zab BK183.out 5
             have hfz33_6 := zab BK183.out 6
             go_wp2_with (first | ((with_reducible refine zaq (f := 30) rfl ?_); refine zav (some 42) rfl rfl Try.func30 (by kernel_rfl) rfl #[.slice A0 l0.length c0, .string ((zam l1_0 x21_2).f5), .slice A182_6 ((zam l1_0 x21_2).f6).length c182_6] rfl (by (try simp only [List.map_toArray, List.map_cons, List.map_nil]); first | done | rfl | (simp only [List.length_drop, List.length_take]; rfl)) ?_; (with_reducible refine (query_asks.calls _ _ l0 ((zam l1_0 x21_2).f5) _ _ ((zam l1_0 x21_2).f6) t185 _ ?side1 ?side2 ?side3 ?side4 A27.out).mono ?_); (case side1 => repeat (first | exact (Kd.C_below HR0.out HB.out) | (with_reducible refine Kd.C_alloc ?_ _) | (with_reducible refine Kd.C_drewN ?_ _) | (with_reducible refine Kd.C_drew ?_))); (case side2 => exact HC0.out); (case side3 => repeat (first | exact (Kd.C_below HR182_6.out HB.out) | (with_reducible refine Kd.C_alloc ?_ _) | (with_reducible refine Kd.C_drewN ?_ _) | (with_reducible refine Kd.C_drew ?_))); (case side4 => exact HC182_6.out); rintro e w34 ⟨rfl, hb⟩; refine ⟨_, rfl, ?_⟩; have n0_ := Aside0.mk (zak (g := gb170) (o := .cells #[.slice (some ad182) l1_0.length c1_0, .int .i64 a1_1, .int .i64 a1_2, .int .i64 a1_3, .int .i64 a1_4] 24 (0, 0)) (by (with_reducible repeat (first | refine zai ?_ _ | refine zaj ?_ | refine zag ?_ _)); exact BK170.out) hb); have n1_ := Aside0.mk (zak (g := gb183) (o := .cells #[.string ((zam l1_0 x21_2).f0), .slice A182_1 ((zam l1_0 x21_2).f1).length c182_1, .int .i64 ((zam l1_0 x21_2).f2), .int .i64 ((zam l1_0 x21_2).f3), .bool ((zam l1_0 x21_2).f4), .string ((zam l1_0 x21_2).f5), .slice A182_6 ((zam l1_0 x21_2).f6).length c182_6] 40 (0, 0)) (by (with_reducible repeat (first | refine zai ?_ _ | refine zaj ?_ | refine zag ?_ _)); exact BK183.out) hb); have n2_ := Aside0.mk (zah (by repeat (first | (with_reducible first | exact HB.out | apply zaa | apply zac | apply zae | refine zaf ?_ GE170.out | refine zaf ?_ GE183.out) | exact HB.out)) hb); clear BK170; clear BK183; clear HB; have BK170 := n0_; have BK183 := n1_; have HB := n2_; clear n0_ n1_ n2_; (try clear hb); (try clear hb2); (try clear hk); (try clear hi)))
             go_ret
             exact ⟨by first | rfl | (simp [zap, zao] <;> rfl) | (simp [*, zap, zao] <;> rfl), by repeat (first | (with_reducible first | exact HB.out | apply zaa | apply zac | apply zae | refine zaf ?_ GE170.out | refine zaf ?_ GE183.out) | exact HB.out)⟩
           ·replace c26 := Bool.eq_false_iff.mpr c26
            subst c26
            have H1 : (if t184 = 0 then (query_Check.l0 kj17 l0 l1_0 (l1_0.length : Int) (wrap64 (x21_2 + 1)) l1_0 a1_1 a1_2 a1_3 a1_4) else (some t184)) = some r := by rw [if_neg (show ¬ (false = true) by decide)] at H; exact H
            clear H
            have H := H1
            clear H1
            by_cases c35 : t184 = 0
            ·rw [if_pos c35] at H
             have c35b0 : (t184 == 0) = true := beq_iff_eq.mpr c35
             have c35b1 : (t184 != 0) = false := bne_eq_false_iff_eq.mpr c35
             clear c35
             have H' := Aside0.mk H
             clear H
             go_wp2
             go_roundg kj17
             case measure => have := HJ2.out; have := HK2.out; have := HJ17.out; omega
             case rel => exact ⟨(wrap64 (x21_2 + 1)), (by first | rfl | (simp; done) | (simp [*]; done)), H', ⟨by have := HJ2.out; have := HK2.out; have := HJ17.out; omega⟩, ⟨by (with_reducible repeat (first | refine zai ?_ _ | refine zaj ?_ | refine zag ?_ _)); exact BK170.out⟩, ⟨by repeat (first | (with_reducible first | exact HB.out | apply zaa | apply zac | apply zae | refine zaf ?_ GE170.out | refine zaf ?_ GE183.out) | exact HB.out)⟩⟩
            ·rw [if_neg c35] at H
             have c35b0 : (t184 == 0) = false := beq_eq_false_iff_ne.mpr c35
             have c35b1 : (t184 != 0) = true := bne_iff_ne.mpr c35
             obtain rfl := Option.some.inj H
             go_wp2
             go_ret
             exact ⟨by first | rfl | (simp [zap, zao] <;> rfl) | (simp [*, zap, zao] <;> rfl), by repeat (first | (with_reducible first | exact HB.out | apply zaa | apply zac | apply zae | refine zaf ?_ GE170.out | refine zaf ?_ GE183.out) | exact HB.out)⟩
        ·rw [if_neg c16] at H
         exact absurd H (by simp)
       ·rw [if_neg c15] at H
        exact absurd H (by simp)
      ·rw [if_neg c14] at H
       have c14b0 : decide (x21_2 < (l1_0.length : Int)) = false := decide_eq_false c14
       clear c14
       by_cases c36 : 0 ≤ a1_3
       ·rw [if_pos c36] at H
        have c36b0 : decide (0 ≤ a1_3) = true := decide_eq_true c36
        clear c36
        by_cases c37 : a1_3 < (l1_0.length : Int)
        ·rw [if_pos c37] at H
         have c37b0 : decide (a1_3 < (l1_0.length : Int)) = true := decide_eq_true c37
         clear c37
         replace H := Option.bind_eq_some_iff.mp H
         obtain ⟨⟨t174, t175, t176, t179⟩, A380, H⟩ := H
         replace H : (if a1_2 = 0 then (some 0) else (if a1_4 < (t176.length : Int) then (if 0 ≤ a1_4 then (if ((zaz t176 a1_4).f1) = 0 then (some 0) else (some 5)) else (none)) else (some 5))) = some r := H
         have A38 := Aside0.mk A380
         clear A380
         by_cases c39 : a1_2 = 0
         ·rw [if_pos c39] at H
          have c39b0 : (a1_2 == 0) = true := beq_iff_eq.mpr c39
          have c39b1 : (a1_2 != 0) = false := bne_eq_false_iff_eq.mpr c39
          clear c39
          obtain rfl := Option.some.inj H
          have hcz40_0 : wr.cell? ⟨gb170, 0, none⟩ = some (.slice A1_0 l1_0.length c1_0) := (zad BK170.out 0).trans rfl
          have hcz40_1 : wr.cell? ⟨gb170, 1, none⟩ = some (.int .i64 a1_1) := (zad BK170.out 1).trans rfl
          have hcz40_2 : wr.cell? ⟨gb170, 2, none⟩ = some (.int .i64 a1_2) := (zad BK170.out 2).trans rfl
          have hcz40_3 : wr.cell? ⟨gb170, 3, none⟩ = some (.int .i64 a1_3) := (zad BK170.out 3).trans rfl
          have hcz40_4 : wr.cell? ⟨gb170, 4, none⟩ = some (.int .i64 a1_4) := (zad BK170.out 4).trans rfl
          have hfz40_0 := zab BK170.out 0
          have hfz40_1 := zab BK170.out 1
          have hfz40_2 := zab BK170.out 2
          have hfz40_3 := zab BK170.out 3
          have hfz40_4 := zab BK170.out 4
          have p173 : 0 ≤ (a1_3 : Int) := of_decide_eq_true (by first | (with_reducible assumption) | assumption)
          have q173 : a1_3 < (l1_0.length : Int) := of_decide_eq_true (by first | (with_reducible assumption) | assumption)
          obtain ⟨ad173, A173_1, c173_1, A173_6, c173_6, e173, hx173_0, hx173_1, hx173_2, hx173_3, hx173_4, hx173_5, hx173_6, hl173_1, hi173_1, hl173_6, hi173_6⟩ := zbr HR1_0.out a1_3 p173 q173
          cases e173
          replace hx173_0 := (HB.out.cell (World.block_lt_of_cell? w _ hx173_0)).trans hx173_0
          replace hx173_1 := (HB.out.cell (World.block_lt_of_cell? w _ hx173_1)).trans hx173_1
          replace hx173_2 := (HB.out.cell (World.block_lt_of_cell? w _ hx173_2)).trans hx173_2
          replace hx173_3 := (HB.out.cell (World.block_lt_of_cell? w _ hx173_3)).trans hx173_3
          replace hx173_4 := (HB.out.cell (World.block_lt_of_cell? w _ hx173_4)).trans hx173_4
          replace hx173_5 := (HB.out.cell (World.block_lt_of_cell? w _ hx173_5)).trans hx173_5
          replace hx173_6 := (HB.out.cell (World.block_lt_of_cell? w _ hx173_6)).trans hx173_6
          have HR173_1 := Aside0.mk hi173_1
          have HC173_1 := Aside0.mk hl173_1
          clear hi173_1 hl173_1
          have HR173_6 := Aside0.mk hi173_6
          have HC173_6 := Aside0.mk hl173_6
          clear hi173_6 hl173_6
          replace p173 := eq_true p173
          replace q173 := eq_true q173
          go_wp2_with (first | ((with_reducible refine zaq (f := 31) rfl ?_); refine zav (some 56) rfl rfl Try.func31 (by kernel_rfl) rfl #[.slice A0 l0.length c0, .string ((zam l1_0 a1_3).f0)] rfl (by (try simp only [List.map_toArray, List.map_cons, List.map_nil]); first | done | rfl | (simp only [List.length_drop, List.length_take]; rfl)) ?_; (with_reducible refine (registry_Find.calls _ _ l0 ((zam l1_0 a1_3).f0) t174 t175 t176 t179 _ ?side1 ?side2 A38.out).mono ?_); (case side1 => repeat (first | exact (Kd.C_below HR0.out HB.out) | (with_reducible refine Kd.C_alloc ?_ _) | (with_reducible refine Kd.C_drewN ?_ _) | (with_reducible refine Kd.C_drew ?_))); (case side2 => exact HC0.out); rintro e w41 ⟨v177, rfl, ho0, hb⟩; refine ⟨_, rfl, ?_⟩; have n0_ := Aside0.mk (Kd.R_lower ho0 (zan (by repeat (first | (with_reducible first | exact HB.out | apply zaa | apply zac | apply zae | refine zaf ?_ GE170.out) | exact HB.out)))); have n1_ := Aside0.mk (zak (g := gb170) (o := .cells #[.slice (some ad173) l1_0.length c1_0, .int .i64 a1_1, .int .i64 a1_2, .int .i64 a1_3, .int .i64 a1_4] 24 (0, 0)) (by (with_reducible repeat (first | refine zai ?_ _ | refine zaj ?_ | refine zag ?_ _)); exact BK170.out) hb); have n2_ := Aside0.mk (zah (by repeat (first | (with_reducible first | exact HB.out | apply zaa | apply zac | apply zae | refine zaf ?_ GE170.out) | exact HB.out)) hb); clear BK170; clear HB; have HO178 := n0_; have BK170 := n1_; have HB := n2_; clear n0_ n1_ n2_; (try clear hb); (try clear hb2); (try clear hk); (try clear hi); (try clear ho0)) | ((with_reducible refine zat (N := 8) rfl ?_); (try (refine zaC (by rfl) ?_; dsimp only)); refine zar ?hg (N := 8) ?hd (cs := #[.string (⟨#[]⟩ : ByteArray), .int .i64 0, .slice none 0 0]) (t := 43) ?hr ?_; (case hd => rfl); (case hg => rfl); (case hr => first | (go_simp; done) | (go_simp; rfl)); intro gb180 hg w42 hbox hb; have n0_ := Aside0.mk (Kd.R_below (by (with_reducible repeat (first | apply Kd.R_alloc | apply Kd.R_drewN | apply Kd.R_drew)); exact HO178.out) hb); have n1_ := Aside0.mk (zak (g := gb170) (o := .cells #[.slice (some ad173) l1_0.length c1_0, .int .i64 a1_1, .int .i64 a1_2, .int .i64 a1_3, .int .i64 a1_4] 24 (0, 0)) (by (with_reducible repeat (first | refine zai ?_ _ | refine zaj ?_ | refine zag ?_ _)); exact BK170.out) hb); have n2_ := Aside0.mk (zah (by repeat (first | (with_reducible first | exact HB.out | apply zaa | apply zac | apply zae | refine zaf ?_ GE170.out) | exact HB.out)) hb); have n3_ := Aside0.mk (hbox); have n4_ := Aside0.mk ((by rw [hg]; exact (zan (by repeat (first | (with_reducible first | exact HB.out | apply zaa | apply zac | apply zae | refine zaf ?_ GE170.out) | exact HB.out))) : w.heap.size ≤ gb180)); have n5_ := Aside0.mk ((by rw [hg]; exact (zan (by repeat (first | (with_reducible first | exact HB.out | apply zaa | apply zac | apply zae | refine zaf ?_ GE170.out) | exact HB.out))) : w.heap.size ≤ gb180)); have n6_ := Aside0.mk ((by rw [hg]; exact Nat.ne_of_lt (zay (g := gb170) (o := .cells #[.slice (some ad173) l1_0.length c1_0, .int .i64 a1_1, .int .i64 a1_2, .int .i64 a1_3, .int .i64 a1_4] 24 (0, 0)) (by (with_reducible repeat (first | refine zai ?_ _ | refine zaj ?_ | refine zag ?_ _)); exact BK170.out)) : gb170 ≠ gb180)); have n7_ := Aside0.mk ((by rw [hg]; exact Nat.ne_of_gt (zay (g := gb170) (o := .cells #[.slice (some ad173) l1_0.length c1_0, .int .i64 a1_1, .int .i64 a1_2, .int .i64 a1_3, .int .i64 a1_4] 24 (0, 0)) (by (with_reducible repeat (first | refine zai ?_ _ | refine zaj ?_ | refine zag ?_ _)); exact BK170.out)) : gb180 ≠ gb170)); clear HO178; clear BK170; clear HB; have HO178 := n0_; have BK170 := n1_; have HB := n2_; have BK180 := n3_; have GW180 := n4_; have GE180 := n5_; have NB170_180 := n6_; have NB180_170 := n7_; clear n0_ n1_ n2_ n3_ n4_ n5_ n6_ n7_; clear hb hbox hg; have hnb43 := NB180_170.out; have hnc43 := NB170_180.out; have hcz44_0 : w42.cell? ⟨gb180, 0, none⟩ = some (.string (⟨#[]⟩ : ByteArray)) := (zad BK180.out 0).trans rfl; have hcz44_1 : w42.cell? ⟨gb180, 1, none⟩ = some (.int .i64 0) := (zad BK180.out 1).trans rfl; have hcz44_2 : w42.cell? ⟨gb180, 2, none⟩ = some (.slice none 0 0) := (zad BK180.out 2).trans rfl; have hfz44_0 := zab BK180.out 0; have hfz44_1 := zab BK180.out 1; have hfz44_2 := zab BK180.out 2; obtain ⟨Ao45, co45, eo45⟩ := Kd.R_slice HO178.out; subst eo45; have hcz46_0 : w42.cell? ⟨gb170, 0, none⟩ = some (.slice (some ad173) l1_0.length c1_0) := (zad BK170.out 0).trans rfl; have hcz46_1 : w42.cell? ⟨gb170, 1, none⟩ = some (.int .i64 a1_1) := (zad BK170.out 1).trans rfl; have hcz46_2 : w42.cell? ⟨gb170, 2, none⟩ = some (.int .i64 a1_2) := (zad BK170.out 2).trans rfl; have hcz46_3 : w42.cell? ⟨gb170, 3, none⟩ = some (.int .i64 a1_3) := (zad BK170.out 3).trans rfl; have hcz46_4 : w42.cell? ⟨gb170, 4, none⟩ = some (.int .i64 a1_4) := (zad BK170.out 4).trans rfl; have hfz46_0 := zab BK170.out 0; have hfz46_1 := zab BK170.out 1; have hfz46_2 := zab BK170.out 2; have hfz46_3 := zab BK170.out 3; have hfz46_4 := zab BK170.out 4))
          go_ret
          exact ⟨by first | rfl | (simp [zap, zao] <;> rfl) | (simp [*, zap, zao] <;> rfl), by repeat (first | (with_reducible first | exact HB.out | apply zaa | apply zac | apply zae | refine zaf ?_ GE170.out | refine zaf ?_ GE180.out) | exact HB.out)⟩
         ·rw [if_neg c39] at H
          have c39b0 : (a1_2 == 0) = false := beq_eq_false_iff_ne.mpr c39
          have c39b1 : (a1_2 != 0) = true := bne_iff_ne.mpr c39
          by_cases c47 : a1_4 < (t176.length : Int)
          ·rw [if_pos c47] at H
           have c47b0 : decide (a1_4 < (t176.length : Int)) = true := decide_eq_true c47
           clear c47
           by_cases c48 : 0 ≤ a1_4
           ·rw [if_pos c48] at H
            have c48b0 : decide (0 ≤ a1_4) = true := decide_eq_true c48
            clear c48
            by_cases c49 : ((zaz t176 a1_4).f1) = 0
            ·rw [if_pos c49] at H
             have c49b0 : (((zaz t176 a1_4).f1) == 0) = true := beq_iff_eq.mpr c49
             have c49b1 : (((zaz t176 a1_4).f1) != 0) = false := bne_eq_false_iff_eq.mpr c49
             clear c49
             obtain rfl := Option.some.inj H
             have hcz50_0 : wr.cell? ⟨gb170, 0, none⟩ = some (.slice A1_0 l1_0.length c1_0) := (zad BK170.out 0).trans rfl
             have hcz50_1 : wr.cell? ⟨gb170, 1, none⟩ = some (.int .i64 a1_1) := (zad BK170.out 1).trans rfl
             have hcz50_2 : wr.cell? ⟨gb170, 2, none⟩ = some (.int .i64 a1_2) := (zad BK170.out 2).trans rfl
             have hcz50_3 : wr.cell? ⟨gb170, 3, none⟩ = some (.int .i64 a1_3) := (zad BK170.out 3).trans rfl
             have hcz50_4 : wr.cell? ⟨gb170, 4, none⟩ = some (.int .i64 a1_4) := (zad BK170.out 4).trans rfl
             have hfz50_0 := zab BK170.out 0
             have hfz50_1 := zab BK170.out 1
             have hfz50_2 := zab BK170.out 2
             have hfz50_3 := zab BK170.out 3
             have hfz50_4 := zab BK170.out 4
             have p173 : 0 ≤ (a1_3 : Int) := of_decide_eq_true (by first | (with_reducible assumption) | assumption)
             have q173 : a1_3 < (l1_0.length : Int) := of_decide_eq_true (by first | (with_reducible assumption) | assumption)
             obtain ⟨ad173, A173_1, c173_1, A173_6, c173_6, e173, hx173_0, hx173_1, hx173_2, hx173_3, hx173_4, hx173_5, hx173_6, hl173_1, hi173_1, hl173_6, hi173_6⟩ := zbr HR1_0.out a1_3 p173 q173
             cases e173
             replace hx173_0 := (HB.out.cell (World.block_lt_of_cell? w _ hx173_0)).trans hx173_0
             replace hx173_1 := (HB.out.cell (World.block_lt_of_cell? w _ hx173_1)).trans hx173_1
             replace hx173_2 := (HB.out.cell (World.block_lt_of_cell? w _ hx173_2)).trans hx173_2
             replace hx173_3 := (HB.out.cell (World.block_lt_of_cell? w _ hx173_3)).trans hx173_3
             replace hx173_4 := (HB.out.cell (World.block_lt_of_cell? w _ hx173_4)).trans hx173_4
             replace hx173_5 := (HB.out.cell (World.block_lt_of_cell? w _ hx173_5)).trans hx173_5
             replace hx173_6 := (HB.out.cell (World.block_lt_of_cell? w _ hx173_6)).trans hx173_6
             have HR173_1 := Aside0.mk hi173_1
             have HC173_1 := Aside0.mk hl173_1
             clear hi173_1 hl173_1
             have HR173_6 := Aside0.mk hi173_6
             have HC173_6 := Aside0.mk hl173_6
             clear hi173_6 hl173_6
             replace p173 := eq_true p173
             replace q173 := eq_true q173
             go_wp2_with (first | ((with_reducible refine zaq (f := 31) rfl ?_); refine zav (some 56) rfl rfl Try.func31 (by kernel_rfl) rfl #[.slice A0 l0.length c0, .string ((zam l1_0 a1_3).f0)] rfl (by (try simp only [List.map_toArray, List.map_cons, List.map_nil]); first | done | rfl | (simp only [List.length_drop, List.length_take]; rfl)) ?_; (with_reducible refine (registry_Find.calls _ _ l0 ((zam l1_0 a1_3).f0) t174 t175 t176 t179 _ ?side1 ?side2 A38.out).mono ?_); (case side1 => repeat (first | exact (Kd.C_below HR0.out HB.out) | (with_reducible refine Kd.C_alloc ?_ _) | (with_reducible refine Kd.C_drewN ?_ _) | (with_reducible refine Kd.C_drew ?_))); (case side2 => exact HC0.out); rintro e w51 ⟨v177, rfl, ho0, hb⟩; refine ⟨_, rfl, ?_⟩; obtain ⟨Az_, cz_, hz_⟩ := Kd.R_slice ho0; subst hz_; obtain ⟨zk1_, zk2_, zk3_, zk4_⟩ := know (zaw w51 (.cells #[.string t174, .int .i64 t175, .slice Az_ t176.length cz_] 43)); have zp_ : 0 ≤ (a1_4 : Int) := of_decide_eq_true (by assumption); have zq_ : a1_4 < (t176.length : Int) := of_decide_eq_true (by assumption); obtain ⟨adz_, ez_, hz0_, hz1_⟩ := zbk (Kd.R_reads' ho0).2.2 a1_4 zp_ zq_; replace zp_ := eq_true zp_; replace zq_ := eq_true zq_; cases ez_; have hz0o_ := fun (o : Obj) => zax o hz0_; have hz1o_ := fun (o : Obj) => zax o hz1_; have n0_ := Aside0.mk (Kd.R_lower ho0 (zan (by repeat (first | (with_reducible first | exact HB.out | apply zaa | apply zac | apply zae | refine zaf ?_ GE170.out) | exact HB.out)))); have n1_ := Aside0.mk (zak (g := gb170) (o := .cells #[.slice (some ad173) l1_0.length c1_0, .int .i64 a1_1, .int .i64 a1_2, .int .i64 a1_3, .int .i64 a1_4] 24 (0, 0)) (by (with_reducible repeat (first | refine zai ?_ _ | refine zaj ?_ | refine zag ?_ _)); exact BK170.out) hb); have n2_ := Aside0.mk (zah (by repeat (first | (with_reducible first | exact HB.out | apply zaa | apply zac | apply zae | refine zaf ?_ GE170.out) | exact HB.out)) hb); clear BK170; clear HB; have HO178 := n0_; have BK170 := n1_; have HB := n2_; clear n0_ n1_ n2_; obtain ⟨zb1_, zb2_, zb3_, zb4_⟩ := know BK170.out; (try clear hb); (try clear hb2); (try clear hk); (try clear hi); (try clear ho0)) | ((with_reducible refine zat (N := 8) rfl ?_); (try (refine zaC (by rfl) ?_; dsimp only)); refine zar ?hg (N := 8) ?hd (cs := #[.string (⟨#[]⟩ : ByteArray), .int .i64 0, .slice none 0 0]) (t := 43) ?hr ?_; (case hd => rfl); (case hg => rfl); (case hr => first | (go_simp; done) | (go_simp; rfl)); intro gb180 hg w52 hbox hb; have n0_ := Aside0.mk (Kd.R_below (by (with_reducible repeat (first | apply Kd.R_alloc | apply Kd.R_drewN | apply Kd.R_drew)); exact HO178.out) hb); have n1_ := Aside0.mk (zak (g := gb170) (o := .cells #[.slice (some ad173) l1_0.length c1_0, .int .i64 a1_1, .int .i64 a1_2, .int .i64 a1_3, .int .i64 a1_4] 24 (0, 0)) (by (with_reducible repeat (first | refine zai ?_ _ | refine zaj ?_ | refine zag ?_ _)); exact BK170.out) hb); have n2_ := Aside0.mk (zah (by repeat (first | (with_reducible first | exact HB.out | apply zaa | apply zac | apply zae | refine zaf ?_ GE170.out) | exact HB.out)) hb); have n3_ := Aside0.mk (hbox); have n4_ := Aside0.mk ((by rw [hg]; exact (zan (by repeat (first | (with_reducible first | exact HB.out | apply zaa | apply zac | apply zae | refine zaf ?_ GE170.out) | exact HB.out))) : w.heap.size ≤ gb180)); have n5_ := Aside0.mk ((by rw [hg]; exact (zan (by repeat (first | (with_reducible first | exact HB.out | apply zaa | apply zac | apply zae | refine zaf ?_ GE170.out) | exact HB.out))) : w.heap.size ≤ gb180)); have n6_ := Aside0.mk ((by rw [hg]; exact Nat.ne_of_lt (zay (g := gb170) (o := .cells #[.slice (some ad173) l1_0.length c1_0, .int .i64 a1_1, .int .i64 a1_2, .int .i64 a1_3, .int .i64 a1_4] 24 (0, 0)) (by (with_reducible repeat (first | refine zai ?_ _ | refine zaj ?_ | refine zag ?_ _)); exact BK170.out)) : gb170 ≠ gb180)); have n7_ := Aside0.mk ((by rw [hg]; exact Nat.ne_of_gt (zay (g := gb170) (o := .cells #[.slice (some ad173) l1_0.length c1_0, .int .i64 a1_1, .int .i64 a1_2, .int .i64 a1_3, .int .i64 a1_4] 24 (0, 0)) (by (with_reducible repeat (first | refine zai ?_ _ | refine zaj ?_ | refine zag ?_ _)); exact BK170.out)) : gb180 ≠ gb170)); clear HO178; clear BK170; clear HB; have HO178 := n0_; have BK170 := n1_; have HB := n2_; have BK180 := n3_; have GW180 := n4_; have GE180 := n5_; have NB170_180 := n6_; have NB180_170 := n7_; clear n0_ n1_ n2_ n3_ n4_ n5_ n6_ n7_; clear hb hbox hg; have hnb53 := NB180_170.out; have hnc53 := NB170_180.out; have hcz54_0 : w52.cell? ⟨gb180, 0, none⟩ = some (.string (⟨#[]⟩ : ByteArray)) := (zad BK180.out 0).trans rfl; have hcz54_1 : w52.cell? ⟨gb180, 1, none⟩ = some (.int .i64 0) := (zad BK180.out 1).trans rfl; have hcz54_2 : w52.cell? ⟨gb180, 2, none⟩ = some (.slice none 0 0) := (zad BK180.out 2).trans rfl; have hfz54_0 := zab BK180.out 0; have hfz54_1 := zab BK180.out 1; have hfz54_2 := zab BK180.out 2; obtain ⟨Ao55, co55, eo55⟩ := Kd.R_slice HO178.out; subst eo55; have hcz56_0 : w52.cell? ⟨gb170, 0, none⟩ = some (.slice (some ad173) l1_0.length c1_0) := (zad BK170.out 0).trans rfl; have hcz56_1 : w52.cell? ⟨gb170, 1, none⟩ = some (.int .i64 a1_1) := (zad BK170.out 1).trans rfl; have hcz56_2 : w52.cell? ⟨gb170, 2, none⟩ = some (.int .i64 a1_2) := (zad BK170.out 2).trans rfl; have hcz56_3 : w52.cell? ⟨gb170, 3, none⟩ = some (.int .i64 a1_3) := (zad BK170.out 3).trans rfl; have hcz56_4 : w52.cell? ⟨gb170, 4, none⟩ = some (.int .i64 a1_4) := (zad BK170.out 4).trans rfl; have hfz56_0 := zab BK170.out 0; have hfz56_1 := zab BK170.out 1; have hfz56_2 := zab BK170.out 2; have hfz56_3 := zab BK170.out 3; have hfz56_4 := zab BK170.out 4; have p181 : 0 ≤ (a1_4 : Int) := of_decide_eq_true (by first | (with_reducible assumption) | assumption); have q181 : a1_4 < (t176.length : Int) := of_decide_eq_true (by first | (with_reducible assumption) | assumption); obtain ⟨ad181, e181, hx181_0, hx181_1⟩ := zbk (Kd.R_reads' HO178.out).2.2 a1_4 p181 q181; cases e181; have hn181_0 : ad181.block ≠ gb180 := Kd.own_blk (Kd.R_ne HO178.out BK180.out (by decide)); have hn181_1 : ad181.block ≠ gb180 := Kd.own_blk (Kd.R_ne HO178.out BK180.out (by decide)); have hn181_2 : ad181.block ≠ gb180 := Kd.own_blk (Kd.R_ne HO178.out BK180.out (by decide)); replace hx181_0 := (zbq (p := ⟨gb180, 0, none⟩) (by first | (rw [zaL]; exact hn181_0) | (show (Addr.add _ _).block ≠ _; rw [zaL]; exact hn181_0) | exact hn181_0) (.string t174)).trans hx181_0; replace hx181_1 := (zbq (p := ⟨gb180, 0, none⟩) (by first | (rw [zaL]; exact hn181_0) | (show (Addr.add _ _).block ≠ _; rw [zaL]; exact hn181_0) | exact hn181_0) (.string t174)).trans hx181_1; replace hx181_0 := (zbq (p := ⟨gb180, 1, none⟩) (by first | (rw [zaL]; exact hn181_1) | (show (Addr.add _ _).block ≠ _; rw [zaL]; exact hn181_1) | exact hn181_1) (.int .i64 t175)).trans hx181_0; replace hx181_1 := (zbq (p := ⟨gb180, 1, none⟩) (by first | (rw [zaL]; exact hn181_1) | (show (Addr.add _ _).block ≠ _; rw [zaL]; exact hn181_1) | exact hn181_1) (.int .i64 t175)).trans hx181_1; replace hx181_0 := (zbq (p := ⟨gb180, 2, none⟩) (by first | (rw [zaL]; exact hn181_2) | (show (Addr.add _ _).block ≠ _; rw [zaL]; exact hn181_2) | exact hn181_2) (.slice (some ad181) t176.length co55)).trans hx181_0; replace hx181_1 := (zbq (p := ⟨gb180, 2, none⟩) (by first | (rw [zaL]; exact hn181_2) | (show (Addr.add _ _).block ≠ _; rw [zaL]; exact hn181_2) | exact hn181_2) (.slice (some ad181) t176.length co55)).trans hx181_1; clear hn181_0; clear hn181_1; clear hn181_2; replace p181 := eq_true p181; replace q181 := eq_true q181))
             go_ret
             exact ⟨by first | rfl | (simp [zap, zao] <;> rfl) | (simp [*, zap, zao] <;> rfl), by repeat (first | (with_reducible first | exact HB.out | apply zaa | apply zac | apply zae | refine zaf ?_ GE170.out | refine zaf ?_ GE180.out) | exact HB.out)⟩
            ·rw [if_neg c49] at H
             have c49b0 : (((zaz t176 a1_4).f1) == 0) = false := beq_eq_false_iff_ne.mpr c49
             have c49b1 : (((zaz t176 a1_4).f1) != 0) = true := bne_iff_ne.mpr c49
             obtain rfl := Option.some.inj H
             have hcz57_0 : wr.cell? ⟨gb170, 0, none⟩ = some (.slice A1_0 l1_0.length c1_0) := (zad BK170.out 0).trans rfl
             have hcz57_1 : wr.cell? ⟨gb170, 1, none⟩ = some (.int .i64 a1_1) := (zad BK170.out 1).trans rfl
             have hcz57_2 : wr.cell? ⟨gb170, 2, none⟩ = some (.int .i64 a1_2) := (zad BK170.out 2).trans rfl
             have hcz57_3 : wr.cell? ⟨gb170, 3, none⟩ = some (.int .i64 a1_3) := (zad BK170.out 3).trans rfl
             have hcz57_4 : wr.cell? ⟨gb170, 4, none⟩ = some (.int .i64 a1_4) := (zad BK170.out 4).trans rfl
             have hfz57_0 := zab BK170.out 0
             have hfz57_1 := zab BK170.out 1
             have hfz57_2 := zab BK170.out 2
             have hfz57_3 := zab BK170.out 3
             have hfz57_4 := zab BK170.out 4
             have p173 : 0 ≤ (a1_3 : Int) := of_decide_eq_true (by first | (with_reducible assumption) | assumption)
             have q173 : a1_3 < (l1_0.length : Int) := of_decide_eq_true (by first | (with_reducible assumption) | assumption)
             obtain ⟨ad173, A173_1, c173_1, A173_6, c173_6, e173, hx173_0, hx173_1, hx173_2, hx173_3, hx173_4, hx173_5, hx173_6, hl173_1, hi173_1, hl173_6, hi173_6⟩ := zbr HR1_0.out a1_3 p173 q173
             cases e173
             replace hx173_0 := (HB.out.cell (World.block_lt_of_cell? w _ hx173_0)).trans hx173_0
             replace hx173_1 := (HB.out.cell (World.block_lt_of_cell? w _ hx173_1)).trans hx173_1
             replace hx173_2 := (HB.out.cell (World.block_lt_of_cell? w _ hx173_2)).trans hx173_2
             replace hx173_3 := (HB.out.cell (World.block_lt_of_cell? w _ hx173_3)).trans hx173_3
             replace hx173_4 := (HB.out.cell (World.block_lt_of_cell? w _ hx173_4)).trans hx173_4
             replace hx173_5 := (HB.out.cell (World.block_lt_of_cell? w _ hx173_5)).trans hx173_5
             replace hx173_6 := (HB.out.cell (World.block_lt_of_cell? w _ hx173_6)).trans hx173_6
             have HR173_1 := Aside0.mk hi173_1
             have HC173_1 := Aside0.mk hl173_1
             clear hi173_1 hl173_1
             have HR173_6 := Aside0.mk hi173_6
             have HC173_6 := Aside0.mk hl173_6
             clear hi173_6 hl173_6
             replace p173 := eq_true p173
             replace q173 := eq_true q173
             go_wp2_with (first | ((with_reducible refine zaq (f := 31) rfl ?_); refine zav (some 56) rfl rfl Try.func31 (by kernel_rfl) rfl #[.slice A0 l0.length c0, .string ((zam l1_0 a1_3).f0)] rfl (by (try simp only [List.map_toArray, List.map_cons, List.map_nil]); first | done | rfl | (simp only [List.length_drop, List.length_take]; rfl)) ?_; (with_reducible refine (registry_Find.calls _ _ l0 ((zam l1_0 a1_3).f0) t174 t175 t176 t179 _ ?side1 ?side2 A38.out).mono ?_); (case side1 => repeat (first | exact (Kd.C_below HR0.out HB.out) | (with_reducible refine Kd.C_alloc ?_ _) | (with_reducible refine Kd.C_drewN ?_ _) | (with_reducible refine Kd.C_drew ?_))); (case side2 => exact HC0.out); rintro e w58 ⟨v177, rfl, ho0, hb⟩; refine ⟨_, rfl, ?_⟩; obtain ⟨Az_, cz_, hz_⟩ := Kd.R_slice ho0; subst hz_; obtain ⟨zk1_, zk2_, zk3_, zk4_⟩ := know (zaw w58 (.cells #[.string t174, .int .i64 t175, .slice Az_ t176.length cz_] 43)); have zp_ : 0 ≤ (a1_4 : Int) := of_decide_eq_true (by assumption); have zq_ : a1_4 < (t176.length : Int) := of_decide_eq_true (by assumption); obtain ⟨adz_, ez_, hz0_, hz1_⟩ := zbk (Kd.R_reads' ho0).2.2 a1_4 zp_ zq_; replace zp_ := eq_true zp_; replace zq_ := eq_true zq_; cases ez_; have hz0o_ := fun (o : Obj) => zax o hz0_; have hz1o_ := fun (o : Obj) => zax o hz1_; have n0_ := Aside0.mk (Kd.R_lower ho0 (zan (by repeat (first | (with_reducible first | exact HB.out | apply zaa | apply zac | apply zae | refine zaf ?_ GE170.out) | exact HB.out)))); have n1_ := Aside0.mk (zak (g := gb170) (o := .cells #[.slice (some ad173) l1_0.length c1_0, .int .i64 a1_1, .int .i64 a1_2, .int .i64 a1_3, .int .i64 a1_4] 24 (0, 0)) (by (with_reducible repeat (first | refine zai ?_ _ | refine zaj ?_ | refine zag ?_ _)); exact BK170.out) hb); have n2_ := Aside0.mk (zah (by repeat (first | (with_reducible first | exact HB.out | apply zaa | apply zac | apply zae | refine zaf ?_ GE170.out) | exact HB.out)) hb); clear BK170; clear HB; have HO178 := n0_; have BK170 := n1_; have HB := n2_; clear n0_ n1_ n2_; obtain ⟨zb1_, zb2_, zb3_, zb4_⟩ := know BK170.out; (try clear hb); (try clear hb2); (try clear hk); (try clear hi); (try clear ho0)) | ((with_reducible refine zat (N := 8) rfl ?_); (try (refine zaC (by rfl) ?_; dsimp only)); refine zar ?hg (N := 8) ?hd (cs := #[.string (⟨#[]⟩ : ByteArray), .int .i64 0, .slice none 0 0]) (t := 43) ?hr ?_; (case hd => rfl); (case hg => rfl); (case hr => first | (go_simp; done) | (go_simp; rfl)); intro gb180 hg w59 hbox hb; have n0_ := Aside0.mk (Kd.R_below (by (with_reducible repeat (first | apply Kd.R_alloc | apply Kd.R_drewN | apply Kd.R_drew)); exact HO178.out) hb); have n1_ := Aside0.mk (zak (g := gb170) (o := .cells #[.slice (some ad173) l1_0.length c1_0, .int .i64 a1_1, .int .i64 a1_2, .int .i64 a1_3, .int .i64 a1_4] 24 (0, 0)) (by (with_reducible repeat (first | refine zai ?_ _ | refine zaj ?_ | refine zag ?_ _)); exact BK170.out) hb); have n2_ := Aside0.mk (zah (by repeat (first | (with_reducible first | exact HB.out | apply zaa | apply zac | apply zae | refine zaf ?_ GE170.out) | exact HB.out)) hb); have n3_ := Aside0.mk (hbox); have n4_ := Aside0.mk ((by rw [hg]; exact (zan (by repeat (first | (with_reducible first | exact HB.out | apply zaa | apply zac | apply zae | refine zaf ?_ GE170.out) | exact HB.out))) : w.heap.size ≤ gb180)); have n5_ := Aside0.mk ((by rw [hg]; exact (zan (by repeat (first | (with_reducible first | exact HB.out | apply zaa | apply zac | apply zae | refine zaf ?_ GE170.out) | exact HB.out))) : w.heap.size ≤ gb180)); have n6_ := Aside0.mk ((by rw [hg]; exact Nat.ne_of_lt (zay (g := gb170) (o := .cells #[.slice (some ad173) l1_0.length c1_0, .int .i64 a1_1, .int .i64 a1_2, .int .i64 a1_3, .int .i64 a1_4] 24 (0, 0)) (by (with_reducible repeat (first | refine zai ?_ _ | refine zaj ?_ | refine zag ?_ _)); exact BK170.out)) : gb170 ≠ gb180)); have n7_ := Aside0.mk ((by rw [hg]; exact Nat.ne_of_gt (zay (g := gb170) (o := .cells #[.slice (some ad173) l1_0.length c1_0, .int .i64 a1_1, .int .i64 a1_2, .int .i64 a1_3, .int .i64 a1_4] 24 (0, 0)) (by (with_reducible repeat (first | refine zai ?_ _ | refine zaj ?_ | refine zag ?_ _)); exact BK170.out)) : gb180 ≠ gb170)); clear HO178; clear BK170; clear HB; have HO178 := n0_; have BK170 := n1_; have HB := n2_; have BK180 := n3_; have GW180 := n4_; have GE180 := n5_; have NB170_180 := n6_; have NB180_170 := n7_; clear n0_ n1_ n2_ n3_ n4_ n5_ n6_ n7_; clear hb hbox hg; have hnb60 := NB180_170.out; have hnc60 := NB170_180.out; have hcz61_0 : w59.cell? ⟨gb180, 0, none⟩ = some (.string (⟨#[]⟩ : ByteArray)) := (zad BK180.out 0).trans rfl; have hcz61_1 : w59.cell? ⟨gb180, 1, none⟩ = some (.int .i64 0) := (zad BK180.out 1).trans rfl; have hcz61_2 : w59.cell? ⟨gb180, 2, none⟩ = some (.slice none 0 0) := (zad BK180.out 2).trans rfl; have hfz61_0 := zab BK180.out 0; have hfz61_1 := zab BK180.out 1; have hfz61_2 := zab BK180.out 2; obtain ⟨Ao62, co62, eo62⟩ := Kd.R_slice HO178.out; subst eo62; have hcz63_0 : w59.cell? ⟨gb170, 0, none⟩ = some (.slice (some ad173) l1_0.length c1_0) := (zad BK170.out 0).trans rfl; have hcz63_1 : w59.cell? ⟨gb170, 1, none⟩ = some (.int .i64 a1_1) := (zad BK170.out 1).trans rfl; have hcz63_2 : w59.cell? ⟨gb170, 2, none⟩ = some (.int .i64 a1_2) := (zad BK170.out 2).trans rfl; have hcz63_3 : w59.cell? ⟨gb170, 3, none⟩ = some (.int .i64 a1_3) := (zad BK170.out 3).trans rfl; have hcz63_4 : w59.cell? ⟨gb170, 4, none⟩ = some (.int .i64 a1_4) := (zad BK170.out 4).trans rfl; have hfz63_0 := zab BK170.out 0; have hfz63_1 := zab BK170.out 1; have hfz63_2 := zab BK170.out 2; have hfz63_3 := zab BK170.out 3; have hfz63_4 := zab BK170.out 4; have p181 : 0 ≤ (a1_4 : Int) := of_decide_eq_true (by first | (with_reducible assumption) | assumption); have q181 : a1_4 < (t176.length : Int) := of_decide_eq_true (by first | (with_reducible assumption) | assumption); obtain ⟨ad181, e181, hx181_0, hx181_1⟩ := zbk (Kd.R_reads' HO178.out).2.2 a1_4 p181 q181; cases e181; have hn181_0 : ad181.block ≠ gb180 := Kd.own_blk (Kd.R_ne HO178.out BK180.out (by decide)); have hn181_1 : ad181.block ≠ gb180 := Kd.own_blk (Kd.R_ne HO178.out BK180.out (by decide)); have hn181_2 : ad181.block ≠ gb180 := Kd.own_blk (Kd.R_ne HO178.out BK180.out (by decide)); replace hx181_0 := (zbq (p := ⟨gb180, 0, none⟩) (by first | (rw [zaL]; exact hn181_0) | (show (Addr.add _ _).block ≠ _; rw [zaL]; exact hn181_0) | exact hn181_0) (.string t174)).trans hx181_0; replace hx181_1 := (zbq (p := ⟨gb180, 0, none⟩) (by first | (rw [zaL]; exact hn181_0) | (show (Addr.add _ _).block ≠ _; rw [zaL]; exact hn181_0) | exact hn181_0) (.string t174)).trans hx181_1; replace hx181_0 := (zbq (p := ⟨gb180, 1, none⟩) (by first | (rw [zaL]; exact hn181_1) | (show (Addr.add _ _).block ≠ _; rw [zaL]; exact hn181_1) | exact hn181_1) (.int .i64 t175)).trans hx181_0; replace hx181_1 := (zbq (p := ⟨gb180, 1, none⟩) (by first | (rw [zaL]; exact hn181_1) | (show (Addr.add _ _).block ≠ _; rw [zaL]; exact hn181_1) | exact hn181_1) (.int .i64 t175)).trans hx181_1; replace hx181_0 := (zbq (p := ⟨gb180, 2, none⟩) (by first | (rw [zaL]; exact hn181_2) | (show (Addr.add _ _).block ≠ _; rw [zaL]; exact hn181_2) | exact hn181_2) (.slice (some ad181) t176.length co62)).trans hx181_0; replace hx181_1 := (zbq (p := ⟨gb180, 2, none⟩) (by first | (rw [zaL]; exact hn181_2) | (show (Addr.add _ _).block ≠ _; rw [zaL]; exact hn181_2) | exact hn181_2) (.slice (some ad181) t176.length co62)).trans hx181_1; clear hn181_0; clear hn181_1; clear hn181_2; replace p181 := eq_true p181; replace q181 := eq_true q181))
             go_ret
             exact ⟨by first | rfl | (simp [zap, zao] <;> rfl) | (simp [*, zap, zao] <;> rfl), by repeat (first | (with_reducible first | exact HB.out | apply zaa | apply zac | apply zae | refine zaf ?_ GE170.out | refine zaf ?_ GE180.out) | exact HB.out)⟩
           ·rw [if_neg c48] at H
            exact absurd H (by simp)
          ·rw [if_neg c47] at H
           have c47b0 : decide (a1_4 < (t176.length : Int)) = false := decide_eq_false c47
           clear c47
           obtain rfl := Option.some.inj H
           have hcz64_0 : wr.cell? ⟨gb170, 0, none⟩ = some (.slice A1_0 l1_0.length c1_0) := (zad BK170.out 0).trans rfl
           have hcz64_1 : wr.cell? ⟨gb170, 1, none⟩ = some (.int .i64 a1_1) := (zad BK170.out 1).trans rfl
           have hcz64_2 : wr.cell? ⟨gb170, 2, none⟩ = some (.int .i64 a1_2) := (zad BK170.out 2).trans rfl
           have hcz64_3 : wr.cell? ⟨gb170, 3, none⟩ = some (.int .i64 a1_3) := (zad BK170.out 3).trans rfl
           have hcz64_4 : wr.cell? ⟨gb170, 4, none⟩ = some (.int .i64 a1_4) := (zad BK170.out 4).trans rfl
           have hfz64_0 := zab BK170.out 0
           have hfz64_1 := zab BK170.out 1
           have hfz64_2 := zab BK170.out 2
           have hfz64_3 := zab BK170.out 3
           have hfz64_4 := zab BK170.out 4
           have p173 : 0 ≤ (a1_3 : Int) := of_decide_eq_true (by first | (with_reducible assumption) | assumption)
           have q173 : a1_3 < (l1_0.length : Int) := of_decide_eq_true (by first | (with_reducible assumption) | assumption)
           obtain ⟨ad173, A173_1, c173_1, A173_6, c173_6, e173, hx173_0, hx173_1, hx173_2, hx173_3, hx173_4, hx173_5, hx173_6, hl173_1, hi173_1, hl173_6, hi173_6⟩ := zbr HR1_0.out a1_3 p173 q173
           cases e173
           replace hx173_0 := (HB.out.cell (World.block_lt_of_cell? w _ hx173_0)).trans hx173_0
           replace hx173_1 := (HB.out.cell (World.block_lt_of_cell? w _ hx173_1)).trans hx173_1
           replace hx173_2 := (HB.out.cell (World.block_lt_of_cell? w _ hx173_2)).trans hx173_2
           replace hx173_3 := (HB.out.cell (World.block_lt_of_cell? w _ hx173_3)).trans hx173_3
           replace hx173_4 := (HB.out.cell (World.block_lt_of_cell? w _ hx173_4)).trans hx173_4
           replace hx173_5 := (HB.out.cell (World.block_lt_of_cell? w _ hx173_5)).trans hx173_5
           replace hx173_6 := (HB.out.cell (World.block_lt_of_cell? w _ hx173_6)).trans hx173_6
           have HR173_1 := Aside0.mk hi173_1
           have HC173_1 := Aside0.mk hl173_1
           clear hi173_1 hl173_1
           have HR173_6 := Aside0.mk hi173_6
           have HC173_6 := Aside0.mk hl173_6
           clear hi173_6 hl173_6
           replace p173 := eq_true p173
           replace q173 := eq_true q173
           go_wp2_with (first | ((with_reducible refine zaq (f := 31) rfl ?_); refine zav (some 56) rfl rfl Try.func31 (by kernel_rfl) rfl #[.slice A0 l0.length c0, .string ((zam l1_0 a1_3).f0)] rfl (by (try simp only [List.map_toArray, List.map_cons, List.map_nil]); first | done | rfl | (simp only [List.length_drop, List.length_take]; rfl)) ?_; (with_reducible refine (registry_Find.calls _ _ l0 ((zam l1_0 a1_3).f0) t174 t175 t176 t179 _ ?side1 ?side2 A38.out).mono ?_); (case side1 => repeat (first | exact (Kd.C_below HR0.out HB.out) | (with_reducible refine Kd.C_alloc ?_ _) | (with_reducible refine Kd.C_drewN ?_ _) | (with_reducible refine Kd.C_drew ?_))); (case side2 => exact HC0.out); rintro e w65 ⟨v177, rfl, ho0, hb⟩; refine ⟨_, rfl, ?_⟩; have n0_ := Aside0.mk (Kd.R_lower ho0 (zan (by repeat (first | (with_reducible first | exact HB.out | apply zaa | apply zac | apply zae | refine zaf ?_ GE170.out) | exact HB.out)))); have n1_ := Aside0.mk (zak (g := gb170) (o := .cells #[.slice (some ad173) l1_0.length c1_0, .int .i64 a1_1, .int .i64 a1_2, .int .i64 a1_3, .int .i64 a1_4] 24 (0, 0)) (by (with_reducible repeat (first | refine zai ?_ _ | refine zaj ?_ | refine zag ?_ _)); exact BK170.out) hb); have n2_ := Aside0.mk (zah (by repeat (first | (with_reducible first | exact HB.out | apply zaa | apply zac | apply zae | refine zaf ?_ GE170.out) | exact HB.out)) hb); clear BK170; clear HB; have HO178 := n0_; have BK170 := n1_; have HB := n2_; clear n0_ n1_ n2_; (try clear hb); (try clear hb2); (try clear hk); (try clear hi); (try clear ho0)) | ((with_reducible refine zat (N := 8) rfl ?_); (try (refine zaC (by rfl) ?_; dsimp only)); refine zar ?hg (N := 8) ?hd (cs := #[.string (⟨#[]⟩ : ByteArray), .int .i64 0, .slice none 0 0]) (t := 43) ?hr ?_; (case hd => rfl); (case hg => rfl); (case hr => first | (go_simp; done) | (go_simp; rfl)); intro gb180 hg w66 hbox hb; have n0_ := Aside0.mk (Kd.R_below (by (with_reducible repeat (first | apply Kd.R_alloc | apply Kd.R_drewN | apply Kd.R_drew)); exact HO178.out) hb); have n1_ := Aside0.mk (zak (g := gb170) (o := .cells #[.slice (some ad173) l1_0.length c1_0, .int .i64 a1_1, .int .i64 a1_2, .int .i64 a1_3, .int .i64 a1_4] 24 (0, 0)) (by (with_reducible repeat (first | refine zai ?_ _ | refine zaj ?_ | refine zag ?_ _)); exact BK170.out) hb); have n2_ := Aside0.mk (zah (by repeat (first | (with_reducible first | exact HB.out | apply zaa | apply zac | apply zae | refine zaf ?_ GE170.out) | exact HB.out)) hb); have n3_ := Aside0.mk (hbox); have n4_ := Aside0.mk ((by rw [hg]; exact (zan (by repeat (first | (with_reducible first | exact HB.out | apply zaa | apply zac | apply zae | refine zaf ?_ GE170.out) | exact HB.out))) : w.heap.size ≤ gb180)); have n5_ := Aside0.mk ((by rw [hg]; exact (zan (by repeat (first | (with_reducible first | exact HB.out | apply zaa | apply zac | apply zae | refine zaf ?_ GE170.out) | exact HB.out))) : w.heap.size ≤ gb180)); have n6_ := Aside0.mk ((by rw [hg]; exact Nat.ne_of_lt (zay (g := gb170) (o := .cells #[.slice (some ad173) l1_0.length c1_0, .int .i64 a1_1, .int .i64 a1_2, .int .i64 a1_3, .int .i64 a1_4] 24 (0, 0)) (by (with_reducible repeat (first | refine zai ?_ _ | refine zaj ?_ | refine zag ?_ _)); exact BK170.out)) : gb170 ≠ gb180)); have n7_ := Aside0.mk ((by rw [hg]; exact Nat.ne_of_gt (zay (g := gb170) (o := .cells #[.slice (some ad173) l1_0.length c1_0, .int .i64 a1_1, .int .i64 a1_2, .int .i64 a1_3, .int .i64 a1_4] 24 (0, 0)) (by (with_reducible repeat (first | refine zai ?_ _ | refine zaj ?_ | refine zag ?_ _)); exact BK170.out)) : gb180 ≠ gb170)); clear HO178; clear BK170; clear HB; have HO178 := n0_; have BK170 := n1_; have HB := n2_; have BK180 := n3_; have GW180 := n4_; have GE180 := n5_; have NB170_180 := n6_; have NB180_170 := n7_; clear n0_ n1_ n2_ n3_ n4_ n5_ n6_ n7_; clear hb hbox hg; have hnb67 := NB180_170.out; have hnc67 := NB170_180.out; have hcz68_0 : w66.cell? ⟨gb180, 0, none⟩ = some (.string (⟨#[]⟩ : ByteArray)) := (zad BK180.out 0).trans rfl; have hcz68_1 : w66.cell? ⟨gb180, 1, none⟩ = some (.int .i64 0) := (zad BK180.out 1).trans rfl; have hcz68_2 : w66.cell? ⟨gb180, 2, none⟩ = some (.slice none 0 0) := (zad BK180.out 2).trans rfl; have hfz68_0 := zab BK180.out 0; have hfz68_1 := zab BK180.out 1; have hfz68_2 := zab BK180.out 2; obtain ⟨Ao69, co69, eo69⟩ := Kd.R_slice HO178.out; subst eo69; have hcz70_0 : w66.cell? ⟨gb170, 0, none⟩ = some (.slice (some ad173) l1_0.length c1_0) := (zad BK170.out 0).trans rfl; have hcz70_1 : w66.cell? ⟨gb170, 1, none⟩ = some (.int .i64 a1_1) := (zad BK170.out 1).trans rfl; have hcz70_2 : w66.cell? ⟨gb170, 2, none⟩ = some (.int .i64 a1_2) := (zad BK170.out 2).trans rfl; have hcz70_3 : w66.cell? ⟨gb170, 3, none⟩ = some (.int .i64 a1_3) := (zad BK170.out 3).trans rfl; have hcz70_4 : w66.cell? ⟨gb170, 4, none⟩ = some (.int .i64 a1_4) := (zad BK170.out 4).trans rfl; have hfz70_0 := zab BK170.out 0; have hfz70_1 := zab BK170.out 1; have hfz70_2 := zab BK170.out 2; have hfz70_3 := zab BK170.out 3; have hfz70_4 := zab BK170.out 4))
           go_ret
           exact ⟨by first | rfl | (simp [zap, zao] <;> rfl) | (simp [*, zap, zao] <;> rfl), by repeat (first | (with_reducible first | exact HB.out | apply zaa | apply zac | apply zae | refine zaf ?_ GE170.out | refine zaf ?_ GE180.out) | exact HB.out)⟩
        ·rw [if_neg c37] at H
         exact absurd H (by simp)
       ·rw [if_neg c36] at H
        exact absurd H (by simp)
end Go.Proofs.Ytooemobolfoefaa.P


namespace Go.Proofs.Ytooemobolfoefaa.P
open Go.RowKit Go.Proofs.YtooemobolfoefaaW.PrintWords Go.Proofs.YtooemobolfoefaaW.PrintLast Go.Proofs.YtooemobolfoefaaW.PrintMore
set_option linter.unusedVariables false
def asksQ (L : List SSchema) (nm : ByteArray) (ops : List SOp) : Int := if (zbc L nm).2 = true then (if ops.length = 0 then 0 else (if (kindV (zbc L nm).1 ops).2 = 0 then (if (kindV (zbc L nm).1 ops).1 = 1 then 0 else 5) else (kindV (zbc L nm).1 ops).2)) else 3
def errsQ (L : List SSchema) (x : SStep) : Int := if asksQ L x.f0 x.f1 = 0 then (if x.f4 = true then asksQ L x.f5 x.f6 else 0) else asksQ L x.f0 x.f1
def firstQ (L : List SSchema) : List SStep → Int
 | [] => 0
 | x :: l => if errsQ L x = 0 then firstQ L l else errsQ L x
def endQ (L : List SSchema) (q : SQuery) : Int := if q.f2 = 0 then 0 else if q.f4 < ((zbc L (q.f0.getD q.f3.toNat zbm).f0).1.f2.length : Int) then (if ((zbc L (q.f0.getD q.f3.toNat zbm).f0).1.f2.getD q.f4.toNat zaO).f1 = 0 then 0 else 5) else 5
def checkQ (L : List SSchema) (q : SQuery) : Int := if mayAll L = true ∧ mayQ q = true then (if firstQ L q.f0 = 0 then endQ L q else firstQ L q.f0) else 1
theorem query_asks_is (L : List SSchema) (nm : ByteArray) (ops : List SOp) (hw : ∀ y ∈ L, zaR y) (hi : i64B ops = true) : query_asks.f L nm ops = some (asksQ L nm ops) := by
 unfold query_asks.f asksQ expr_Kind.f
 rw [find_is L nm hw, Option.bind_some, if_pos hi]
 obtain ⟨s, b⟩ := zbc L nm
 obtain ⟨f0, f1, f2⟩ := s
 cases b with
 | false => rfl
 | true =>
  simp only [if_true]
  by_cases h0 : ops.length = 0
  ·rw [if_pos (by omega), if_pos h0]
  ·rw [if_neg (by omega), if_neg h0, Option.bind_some]
   by_cases h1 : (kindV ⟨f0, f1, f2⟩ ops).2 = 0
   ·rw [if_pos h1, if_pos h1]
    by_cases h2 : (kindV ⟨f0, f1, f2⟩ ops).1 = 1
    ·rw [if_pos h2, if_pos h2, h1]
    ·rw [if_neg h2, if_neg h2]
   ·rw [if_neg h1, if_neg h1]
theorem query_Check_end (L : List SSchema) (q : SQuery) (hw : ∀ y ∈ L, zaR y) (hm : mayQ q = true) : (if 0 ≤ q.f3 then (if q.f3 < (q.f0.length : Int) then ((registry_Find.f L ((zam q.f0 q.f3).f0)).bind fun bt174 => (if q.f2 = 0 then (some 0) else (if q.f4 < (bt174.2.2.1.length : Int) then (if 0 ≤ q.f4 then (if ((zaz bt174.2.2.1 q.f4).f1) = 0 then (some 0) else (some 5)) else (none)) else (some 5)))) else (none)) else (none)) = some (endQ L q) := by
 obtain ⟨_, _, _, h3, h4, h5, _⟩ := mayQ_iff.1 hm
 unfold endQ
 rw [if_pos h3, if_pos (by omega), find_is L _ hw, Option.bind_some]
 rw [show zam q.f0 q.f3 = q.f0.getD q.f3.toNat zbm from rfl]
 generalize zbc L (q.f0.getD q.f3.toNat zbm).f0 = F
 obtain ⟨⟨s0, s1, s2⟩, sb⟩ := F
 show (if q.f2 = 0 then some 0 else (if q.f4 < (s2.length : Int) then (if 0 ≤ q.f4 then (if (s2.getD q.f4.toNat zaO).f1 = 0 then some 0 else some 5) else none) else some 5)) = some (if q.f2 = 0 then 0 else (if q.f4 < (s2.length : Int) then (if (s2.getD q.f4.toNat zaO).f1 = 0 then 0 else 5) else 5))
 by_cases h0 : q.f2 = 0
 ·rw [if_pos h0, if_pos h0]
 ·rw [if_neg h0, if_neg h0]
  by_cases h6 : q.f4 < (s2.length : Int)
  ·rw [if_pos h6, if_pos h6, if_pos h5]
   by_cases h7 : (s2.getD q.f4.toNat zaO).f1 = 0
   ·rw [if_pos h7, if_pos h7]
   ·rw [if_neg h7, if_neg h7]
  ·rw [if_neg h6, if_neg h6]
theorem query_Check_loop (L : List SSchema) (q : SQuery) (hw : ∀ y ∈ L, zaR y) (hq : okQ q) (hm : mayQ q = true) : ∀ (d i k : Nat), i + d = q.f0.length → 2 * d < k →
  query_Check.l0 k L q.f0 q.f0.length i q.f0 q.f1 q.f2 q.f3 q.f4 = some (if firstQ L (q.f0.drop i) = 0 then endQ L q else firstQ L (q.f0.drop i)) := by
 have hn : q.f0.length ≤ 4 := by have := mayQ_iff.1 hm; omega
 intro d
 induction d with
 | zero =>
  intro i k h hk
  obtain ⟨k, rfl⟩ := zaP (show 0 < k by omega)
  simp only [query_Check.l0]
  rw [if_neg (by omega), query_Check_end L q hw hm, List.drop_eq_nil_of_le (by omega)]
  rfl
 | succ d ih =>
  intro i k h hk
  obtain ⟨k, rfl⟩ := zaP (show 0 < k by omega)
  obtain ⟨k, rfl⟩ := zaP (show 0 < k by omega)
  have hi : i < q.f0.length := by omega
  have ho := hq _ (getD_in zbm hi)
  have ih := ih (i + 1) k (by omega) (by omega)
  rw [drop_cons zbm q.f0 hi]
  simp only [query_Check.l0, query_Check.j2]
  rw [if_pos (by omega), if_pos (by omega), if_pos (by omega)]
  rw [show zam q.f0 (i : Int) = q.f0.getD i zbm from rfl, zbs (by omega), ih]
  generalize q.f0.getD i zbm = x at *
  rw [query_asks_is L x.f0 x.f1 hw ho.1, query_asks_is L x.f5 x.f6 hw ho.2]
  simp only [Option.bind_some, firstQ, errsQ]
  by_cases h1 : asksQ L x.f0 x.f1 = 0
  ·simp only [h1, if_true]
   cases x.f4 with
   | true =>
    simp only [if_true]
    by_cases h2 : asksQ L x.f5 x.f6 = 0
    ·simp only [h2, if_true]
    ·simp only [h2, if_false]
   | false => simp
  ·simp [h1]
theorem query_Check_is (L : List SSchema) (q : SQuery) (hw : ∀ y ∈ L, zaR y) (hl : L.length < 4611686018427387904) (hq : okQ q) (hn : q.f0.length < 4611686018427387904) : query_Check.f (L.length + q.f0.length + 20) L q.f0 q.f1 q.f2 q.f3 q.f4 = some (checkQ L q) := by
 obtain ⟨k, hk⟩ : ∃ k, L.length + q.f0.length + 20 = k + 1 := ⟨L.length + q.f0.length + 19, rfl⟩
 have hmy : query_may.f (L.length + q.f0.length + 20) q.f0 q.f1 q.f2 q.f3 q.f4 = some (mayQ q) := by
  unfold query_may.f mayQ
  have h := query_may_loop q hq hn q.f0.length 0 (L.length + q.f0.length + 20) (by omega) (by omega)
  simp only [Nat.zero_add] at h
  exact h
 have hj : query_Check.j0 (k + 1) L true q.f0 q.f1 q.f2 q.f3 q.f4 = some 1 := by simp [query_Check.j0]
 unfold query_Check.f checkQ
 rw [may_is L hl (k := L.length + q.f0.length + 20) (by omega), Option.bind_some, hmy, Option.bind_some, hk]
 cases ha : mayAll L with
 | false => simp [hj]
 | true =>
  cases hm : mayQ q with
  | false => simp [hj]
  | true =>
   have h4 : q.f0.length ≤ 4 := by have := mayQ_iff.1 hm; omega
   have h := query_Check_loop L q hw hq hm q.f0.length 0 k (by omega) (by omega)
   rw [List.drop_zero] at h
   simp only [if_true, Bool.not_true, query_Check.j0, Bool.false_eq_true, if_false, and_self]
   exact h
theorem checkQ_told (L : List SSchema) (q : SQuery) (A : Option Addr) (c : Nat) (A1 : Option Addr) (c1 : Nat) (w : World) (hr : Kd.C kSchema w A L.length L) (hc : L.length ≤ c) (hr1 : Kd.C kStep w A1 q.f0.length q.f0) (hc1 : q.f0.length ≤ c1) (hw : ∀ y ∈ L, zaR y) (hl : L.length < 4611686018427387904) (hq : okQ q) (hn : q.f0.length < 4611686018427387904) {e : Int} (h : checkQ L q = e) :
  Calls Try.prog 15 #[.slice A L.length c, .agg #[.slice A1 q.f0.length c1, .int .i64 q.f1, .int .i64 q.f2, .int .i64 q.f3, .int .i64 q.f4]] w fun en w' => en = .returned (.int .i64 e) ∧ Below w.heap.size w w' :=
 query_Check.calls (L.length + q.f0.length + 20) A c L A1 c1 q.f0 q.f1 q.f2 q.f3 q.f4 e w hr hc hr1 hc1 (by rw [query_Check_is L q hw hl hq hn, h])
theorem firstQ_zero {L : List SSchema} : ∀ {l : List SStep}, firstQ L l = 0 → ∀ x ∈ l, errsQ L x = 0
 | [], _, _, h => by cases h
 | y :: l, h, x, hx => by
  unfold firstQ at h
  by_cases h1 : errsQ L y = 0
  ·rw [if_pos h1] at h
   rcases List.mem_cons.1 hx with rfl | hx
   ·exact h1
   ·exact firstQ_zero h x hx
  ·rw [if_neg h1] at h; exact absurd h h1
theorem asksQ_zero {L : List SSchema} {nm : ByteArray} {ops : List SOp} (h : asksQ L nm ops = 0) : (zbc L nm).2 = true := by
 unfold asksQ at h
 by_cases h1 : (zbc L nm).2 = true
 ·exact h1
 ·rw [if_neg h1] at h; cases h
theorem checkQ_zero {L : List SSchema} {q : SQuery} (h : checkQ L q = 0) : mayAll L = true ∧ mayQ q = true ∧ (∀ x ∈ q.f0, errsQ L x = 0) ∧ endQ L q = 0 := by
 unfold checkQ at h
 by_cases h1 : mayAll L = true ∧ mayQ q = true
 ·rw [if_pos h1] at h
  by_cases h2 : firstQ L q.f0 = 0
  ·rw [if_pos h2] at h
   exact ⟨h1.1, h1.2, firstQ_zero h2, h⟩
  ·rw [if_neg h2] at h; exact absurd h h2
 ·rw [if_neg h1] at h; cases h
theorem errsQ_zero {L : List SSchema} {x : SStep} (h : errsQ L x = 0) : (zbc L x.f0).2 = true ∧ (x.f4 = true → (zbc L x.f5).2 = true) := by
 unfold errsQ at h
 by_cases h1 : asksQ L x.f0 x.f1 = 0
 ·rw [if_pos h1] at h
  refine ⟨asksQ_zero h1, fun h4 => ?_⟩
  rw [if_pos h4] at h
  exact asksQ_zero h
 ·rw [if_neg h1] at h; exact absurd h h1
theorem few7_told (l : List SSchema) : ∃ b, (b = true → l.length ≤ 12) ∧ ∀ (A : Option Addr) (c : Nat) (w : World), Kd.C kSchema w A l.length l → l.length ≤ c → Calls Try.prog 14 #[.slice A l.length c] w (za2 b w) := by
 obtain ⟨b, h1, h2⟩ := few7_some l (k := 100) (by decide)
 exact ⟨b, h2, fun A c w hr hc => (towncrierlaw07_Few.calls 100 A c l b w hr hc h1).mono fun e w' h => by first | exact h | exact ⟨h.1, h.2.below⟩⟩
theorem adds_all9 {l : List SSchema} {s : SSchema} (h : (zbC l s).2 = 0) : mayAll (zbC l s).1 = true ∧ l.length ≤ (zbC l s).1.length ∧ (zbC l s).1.length ≤ l.length + 1 ∧ (∃ i : Nat, atOf (zbC l s).1 s.f0 = (i : Int) ∧ i < (zbC l s).1.length ∧ (zbC l s).1.getD i zau = s) ∧ ∀ i, i < l.length → (((zbC l s).1.getD i zau).f0.toList = (l.getD i zau).f0.toList ∧ ((l.getD i zau).f0.toList ≠ s.f0.toList → (zbC l s).1.getD i zau = l.getD i zau)) := by
 obtain ⟨hm, hs, ⟨h1, h2, h3, h4⟩ | ⟨i, h1, h2, h3, h5, h4⟩⟩ := addOf_ok h
 ·rw [h4]
  have hall := (mayAll_iff.1 hm).2
  have hno := atOf_none h1
  have hL : ∀ n, n < l.length → (l ++ [s]).getD n zau = l.getD n zau := fun n hn => getD_left _ _ _ hn
  have hE : (l ++ [s]).getD l.length zau = s := getD_snoc _ _ _
  have hat : atOf (l ++ [s]) s.f0 = (l.length : Int) := atOf_is (by simp) (by rw [hE]) (fun j hj => by rw [hL j hj]; exact hno j hj)
  refine ⟨mayAll_iff.2 ⟨by simp; omega, fun i hi => ?_⟩, by simp, by simp, ⟨l.length, hat, by simp, hE⟩, fun i hi => ⟨by rw [hL i hi], fun _ => hL i hi⟩⟩
  simp only [List.length_append, List.length_singleton] at hi
  by_cases hi2 : i < l.length
  ·rw [hL i hi2]
   exact ⟨(hall i hi2).1, (atOf_snoc (hall i hi2).2).1⟩
  ·obtain rfl : i = l.length := by omega
   rw [hE]
   exact ⟨hs, hat⟩
 ·rw [h4]
  have hall := (mayAll_iff.1 hm).2
  have hG : ∀ n, (l.set i s).getD n zau = if n = i then s else l.getD n zau := fun n => getD_set _ _ _ _ _ h2
  have hat : ∀ nm, atOf (l.set i s) nm = atOf l nm := fun nm => atOf_set h2 h3
  refine ⟨mayAll_iff.2 ⟨by rw [List.length_set]; exact (mayAll_iff.1 hm).1, fun n hn => ?_⟩, by simp, by simp, ⟨i, by rw [hat]; exact h1, by simpa using h2, by rw [hG, if_pos rfl]⟩, fun n hn => ⟨?_, fun hne => ?_⟩⟩
  ·rw [List.length_set] at hn
   rw [hat, hG]
   by_cases e : n = i
   ·rw [if_pos e, e]
    exact ⟨hs, h1⟩
   ·rw [if_neg e]
    exact hall n hn
  ·rw [hG]
   by_cases e : n = i
   ·rw [if_pos e, e, h3]
   ·rw [if_neg e]
  ·rw [hG, if_neg]
   rintro rfl
   exact hne h3
def moreS (o n : SSchema) : Prop := o.f2.length ≤ n.f2.length ∧ ∀ i, i < o.f2.length → (n.f2.getD i zaO).f1 = (o.f2.getD i zaO).f1
theorem find_grows {l : List SSchema} {s : SSchema} {nm : ByteArray} (h : (zbC l s).2 = 0) (hf : (zbc l nm).2 = true) : (zbc (zbC l s).1 nm).2 = true ∧ moreS (zbc l nm).1 (zbc (zbC l s).1 nm).1 ∧ mayS (zbc (zbC l s).1 nm).1 = true := by
 have hfa : ∀ (L : List SSchema), ¬ atOf L nm < 0 → zbc L nm = (L.getD (atOf L nm).toNat zau, true) := fun L hL => by unfold zbc; rw [if_neg hL]
 have h0 : ¬ atOf l nm < 0 := by
  intro hh
  unfold zbc at hf
  rw [if_pos hh] at hf
  cases hf
 obtain ⟨j, e, hj, hn, _⟩ := atOf_some (l := l) (nm := nm) (by omega)
 have hall := (mayAll_iff.1 (adds_all9 h).1).2
 obtain ⟨hm, hs, ⟨h1, h2, h3, h4⟩ | ⟨i, h1, h2, h3, h5, h4⟩⟩ := addOf_ok h
 ·rw [h4] at hall ⊢
  obtain ⟨a1, a2⟩ := atOf_snoc (s := s) e
  rw [hfa l h0, hfa (l ++ [s]) (by rw [a1]; omega), e, a1]
  simp only [Int.toNat_natCast]
  refine ⟨trivial, ?_, ?_⟩
  ·rw [a2]; exact ⟨Nat.le_refl _, fun _ _ => rfl⟩
  ·exact (hall j (by simp; omega)).1
 ·rw [h4] at hall ⊢
  have a1 := atOf_set (nm := nm) h2 h3
  rw [hfa l h0, hfa (l.set i s) (by rw [a1]; exact h0), a1, e]
  simp only [Int.toNat_natCast]
  refine ⟨trivial, ?_, (hall j (by simpa using hj)).1⟩
  rw [getD_set _ _ _ _ _ h2]
  by_cases hij : j = i
  ·rw [if_pos hij, hij]
   obtain ⟨_, _, f1, _, _, f2⟩ := fitsB_iff.1 h5
   exact ⟨f1, fun n hn => (eqField_iff.1 (f2 n hn)).2.symm⟩
  ·rw [if_neg hij]; exact ⟨Nat.le_refl _, fun _ _ => rfl⟩
theorem stepV_more {v v' : List SValue} {k : Bool} {x : SOp} {p q : List SValue} (hl : v.length ≤ v'.length) (hv : ∀ i, i < v.length → v'.getD i zaN = v.getD i zaN) (h : stepV v k x p = .ok q) : stepV v' k x p = .ok q := by
 unfold stepV at h ⊢
 by_cases c0 : x.f0 = 0
 ·rw [if_pos c0] at h ⊢; exact h
 rw [if_neg c0] at h ⊢
 by_cases c1 : x.f0 = 1
 ·rw [if_pos c1] at h ⊢
  by_cases hi : x.f1.toNat < v.length
  ·rw [if_pos hi] at h
   rw [if_pos (by omega), hv _ hi]
   exact h
  ·rw [if_neg hi] at h; cases h
 rw [if_neg c1] at h ⊢
 exact h
theorem runV_more {v v' : List SValue} {k : Bool} (hl : v.length ≤ v'.length) (hv : ∀ i, i < v.length → v'.getD i zaN = v.getD i zaN) : ∀ (l : List SOp) {p q : List SValue}, runV v k l p = .ok q → runV v' k l p = .ok q
 | [], p, q, h => h
 | x :: l, p, q, h => by
  cases h1 : stepV v k x p with
  | error e => rw [runV_stop h1] at h; cases h
  | ok r =>
   rw [runV_cons h1] at h
   rw [runV_cons (stepV_more hl hv h1)]
   exact runV_more hl hv l h
theorem kinds_more {o n : SSchema} (h : moreS o n) : (kindsOf o).length ≤ (kindsOf n).length ∧ ∀ i, i < (kindsOf o).length → (kindsOf n).getD i zaN = (kindsOf o).getD i zaN := by
 unfold kindsOf
 refine ⟨by simpa using h.1, fun i hi => ?_⟩
 have hi2 : i < o.f2.length := by simpa using hi
 have hi3 : i < n.f2.length := Nat.lt_of_lt_of_le hi2 h.1
 have hk := h.2 i hi2
 simp only [List.getD_eq_getElem?_getD, List.getElem?_map, List.getElem?_eq_getElem hi2, List.getElem?_eq_getElem hi3, Option.map_some, Option.getD_some] at hk ⊢
 rw [hk]
theorem endV_zero {r : Except Int (List SValue)} (h : (endV r).2 = 0) (hne : ∀ e, r = .error e → e ≠ 0) : ∃ x, r = .ok [x] := by
 match r, h, hne with
 | .ok [x], _, _ => exact ⟨x, rfl⟩
 | .ok [], h, _ => cases h
 | .ok (_ :: _ :: _), h, _ => cases h
 | .error e, h, hne => exact absurd h (hne e rfl)
theorem twoV_err9 {o : Int} {x y : SValue} {e : Int} (h : twoV o x y = .error e) : e ≠ 0 := by
 unfold twoV at h
 repeat' split at h
 all_goals first
  | (cases h; done)
  | (cases h; decide)
theorem stepV_err9 {v : List SValue} {k : Bool} {x : SOp} {p : List SValue} {e : Int} (h : stepV v k x p = .error e) : e ≠ 0 := by
 unfold stepV at h
 by_cases c0 : x.f0 = 0
 ·rw [if_pos c0] at h; cases h
 rw [if_neg c0] at h
 by_cases c1 : x.f0 = 1
 ·rw [if_pos c1] at h
  split at h <;> cases h
  decide
 rw [if_neg c1] at h
 by_cases c2 : x.f0 = 9
 ·rw [if_pos c2] at h
  repeat' split at h
  all_goals cases h
  all_goals decide
 rw [if_neg c2] at h
 by_cases c3 : p.length < 2
 ·rw [if_pos c3] at h; cases h; decide
 rw [if_neg c3] at h
 cases hT : twoV x.f0 (p.getD (p.length - 2) zaN) (p.getD (p.length - 1) zaN) with
 | ok y => rw [hT] at h; cases h
 | error e2 =>
  rw [hT] at h
  simp only at h
  split at h
  ·cases h
  ·cases h; exact twoV_err9 hT
theorem runV_err {v : List SValue} {k : Bool} : ∀ (l : List SOp) {p : List SValue} {e : Int}, runV v k l p = .error e → e ≠ 0
 | [], p, e, h => by cases h
 | x :: l, p, e, h => by
  cases h1 : stepV v k x p with
  | error e2 =>
   rw [runV_stop h1] at h
   cases h
   exact stepV_err9 h1
  | ok r =>
   rw [runV_cons h1] at h
   exact runV_err l h
theorem kindV_more {o n : SSchema} {l : List SOp} (h : moreS o n) (hn : mayS n = true) (hk : (kindV o l).2 = 0) : kindV n l = kindV o l := by
 unfold kindV at hk ⊢
 by_cases h1 : mayS o = true ∧ mayO l = true
 ·rw [if_pos h1] at hk ⊢
  rw [if_pos ⟨hn, h1.2⟩]
  obtain ⟨x, hx⟩ := endV_zero hk (fun e he => runV_err l he)
  rw [hx, runV_more (kinds_more h).1 (kinds_more h).2 l hx]
 ·rw [if_neg h1] at hk; cases hk
theorem asksQ_more {l : List SSchema} {s : SSchema} {nm : ByteArray} {ops : List SOp} (h : (zbC l s).2 = 0) (ha : asksQ l nm ops = 0) : asksQ (zbC l s).1 nm ops = 0 := by
 have hf := asksQ_zero ha
 obtain ⟨g1, g2, g3⟩ := find_grows h hf
 unfold asksQ at ha ⊢
 rw [if_pos hf] at ha
 rw [if_pos g1]
 by_cases h0 : ops.length = 0
 ·rw [if_pos h0]
 ·rw [if_neg h0] at ha ⊢
  by_cases hk : (kindV (zbc l nm).1 ops).2 = 0
  ·rw [kindV_more g2 g3 hk]; exact ha
  ·rw [if_neg hk] at ha; exact absurd ha hk
theorem errsQ_more {l : List SSchema} {s : SSchema} {x : SStep} (h : (zbC l s).2 = 0) (hx : errsQ l x = 0) : errsQ (zbC l s).1 x = 0 := by
 unfold errsQ at hx ⊢
 by_cases h1 : asksQ l x.f0 x.f1 = 0
 ·rw [if_pos h1] at hx
  rw [if_pos (asksQ_more h h1)]
  by_cases h4 : x.f4 = true
  ·rw [if_pos h4] at hx ⊢; exact asksQ_more h hx
  ·rw [if_neg h4]
 ·rw [if_neg h1] at hx; exact absurd hx h1
theorem firstQ_more {l : List SSchema} : ∀ {xs : List SStep}, (∀ x ∈ xs, errsQ l x = 0) → firstQ l xs = 0
 | [], _ => rfl
 | x :: xs, h => by
  unfold firstQ
  rw [if_pos (h x (List.mem_cons_self ..))]
  exact firstQ_more (fun y hy => h y (List.mem_cons_of_mem _ hy))
theorem checkQ_more {l : List SSchema} {s : SSchema} {q : SQuery} (h : (zbC l s).2 = 0) (hc : checkQ l q = 0) : checkQ (zbC l s).1 q = 0 := by
 obtain ⟨c1, c2, c3, c4⟩ := checkQ_zero hc
 have hm := (adds_all9 h).1
 unfold checkQ
 rw [if_pos ⟨hm, c2⟩, if_pos (firstQ_more (fun x hx => errsQ_more h (c3 x hx)))]
 unfold endQ at c4 ⊢
 by_cases h0 : q.f2 = 0
 ·rw [if_pos h0]
 ·rw [if_neg h0] at c4 ⊢
  obtain ⟨_, _, _, g3, g4, g5, _⟩ := mayQ_iff.1 c2
  have hin : q.f0.getD q.f3.toNat zbm ∈ q.f0 := getD_in zbm (by omega)
  have hf := (errsQ_zero (c3 _ hin)).1
  obtain ⟨_, ⟨m1, m2⟩, _⟩ := find_grows h hf
  by_cases h6 : q.f4 < ((zbc l (q.f0.getD q.f3.toNat zbm).f0).1.f2.length : Int)
  ·rw [if_pos h6] at c4
   rw [if_pos (by omega), m2 _ (by omega)]
   exact c4
  ·rw [if_neg h6] at c4; cases c4
end Go.Proofs.Ytooemobolfoefaa.P

