/- What QueryGrows's row stands on: words, contracts of the functions that it reaches, plain facts, its walk (part 9): no condition but those that each theorem names. -/
import Derived.Test.YtooemobolfoefaaZQueryGrows8
set_option linter.unusedVariables false
set_option linter.unusedSimpArgs false
namespace Go.Proofs.Ytooemobolfoefaa.P
open Go.RowKit Go.Proofs.YtooemobolfoefaaW.PrintWords Go.Proofs.YtooemobolfoefaaW.PrintLast Go.Proofs.YtooemobolfoefaaW.PrintMore
set_option linter.unusedVariables false
set_option linter.unusedSimpArgs false
theorem kQuery_cells {w : World} {x : SQuery} {cs : List Value} (h : kQuery.K w x cs) : ∃ A c, cs = [.slice A x.f0.length c, .int .i64 x.f1, .int .i64 x.f2, .int .i64 x.f3, .int .i64 x.f4] ∧ x.f0.length ≤ c ∧ kStep.C w A x.f0.length x.f0 := by
 obtain ⟨A, c, rfl, h1, h2⟩ := kQuery_open h
 exact ⟨A, c, rfl, h1, h2⟩
theorem wfQ_ok {x : SQuery} (h : wfQuery x) : okQ x ∧ x.f0.length < 4611686018427387904 := by
 obtain ⟨⟨h1, h2⟩, _⟩ := h
 refine ⟨fun y hy => ?_, by omega⟩
 obtain ⟨_, ⟨_, h3⟩, _, _, _, _, ⟨_, h4⟩⟩ := h2 y hy
 exact ⟨i64B_iff.2 fun z hz => i64V_of (h3 z hz).2.2, i64B_iff.2 fun z hz => i64V_of (h4 z hz).2.2⟩
theorem few8_any (l : List SOp) {k : Nat} (hk : 20 < k) : ∃ b, towncrierlaw08_Few.f k l = some b := by
 unfold towncrierlaw08_Few.f
 by_cases h : (l.length : Int) > 20
 ·rw [if_pos h]; exact ⟨false, rfl⟩
 ·rw [if_neg h]
  exact few8_loop l (by omega) l.length 0 k (by omega) (by omega)
theorem few9_loop (l : List SStep) (hl : l.length ≤ 8) (a b c d : Int) : ∀ (n i k : Nat), i + n = l.length → n + 22 < k → ∃ r, towncrierlaw09_Few.l0 k i l a b c d = some r := by
 intro n
 induction n with
 | zero =>
  intro i k hi hk
  obtain ⟨k, rfl⟩ := zaP hk
  simp only [towncrierlaw09_Few.l0]
  rw [if_neg (by omega)]
  exact ⟨_, rfl⟩
 | succ n ih =>
  intro i k hi hk
  obtain ⟨k, rfl⟩ := zaP hk
  simp only [towncrierlaw09_Few.l0]
  rw [if_pos (by omega), if_pos (by omega), zbs (by omega)]
  obtain ⟨x, hx⟩ := few8_any (zam l (i : Int)).f1 (k := k) (by omega)
  obtain ⟨y, hy⟩ := few8_any (zam l (i : Int)).f6 (k := k) (by omega)
  obtain ⟨z, hz⟩ := ih (i + 1) k (by omega) (by omega)
  rw [hx, hy, Option.bind_some, Option.bind_some, hz]
  repeat' split
  all_goals exact ⟨_, rfl⟩
theorem few9_told (q : SQuery) : ∃ b, (b = true → q.f0.length ≤ 8) ∧ ∀ (A : Option Addr) (c : Nat) (w : World), Kd.C kStep w A q.f0.length q.f0 → q.f0.length ≤ c → Calls Try.prog 10 #[.agg #[.slice A q.f0.length c, .int .i64 q.f1, .int .i64 q.f2, .int .i64 q.f3, .int .i64 q.f4]] w (za2 b w) := by
 have key : ∃ b, towncrierlaw09_Few.f 40 q.f0 q.f1 q.f2 q.f3 q.f4 = some b ∧ (b = true → q.f0.length ≤ 8) := by
  unfold towncrierlaw09_Few.f
  by_cases h : (q.f0.length : Int) > 8
  ·rw [if_pos h]; exact ⟨false, rfl, fun h => by cases h⟩
  ·rw [if_neg h]
   obtain ⟨b, hb⟩ := few9_loop q.f0 (by omega) q.f1 q.f2 q.f3 q.f4 q.f0.length 0 40 (by omega) (by omega)
   exact ⟨b, hb, fun _ => by omega⟩
 obtain ⟨b, h1, h2⟩ := key
 exact ⟨b, h2, fun A c w hr hc => (towncrierlaw09_Few.calls 40 A c q.f0 q.f1 q.f2 q.f3 q.f4 b w hr hc h1).mono fun e w' h => by first | exact h | exact ⟨h.1, h.2.below⟩⟩
theorem C_lone {α : Type} {d : Kd α} {W : World} {B T : Nat} {x : α} {cs : List Value} (h : W.heap[B]? = some (.cells cs.toArray T (0, 0))) (hk : d.K W x cs) (hl : cs.length = d.sz) : Kd.C d W (some ⟨B, 0, none⟩) 1 [x] := by
 refine ⟨rfl, by decide, fun _ => ⟨_, rfl, fun j l hj => ?_⟩⟩
 match j with
 | j + 1 => simp at hj
 | 0 =>
  simp at hj
  subst hj
  refine ⟨cs, hl, hk, fun i u hu => ?_⟩
  rw [Nat.zero_mul, add_plain, zad h]
  simpa using hu
def oneS : SStep := ⟨⟨#[97]⟩, [], 1, 1, false, ⟨#[]⟩, []⟩
def oneQ : SQuery := ⟨[oneS], 0, 0, 0, 0⟩
def oneL : List Int := [1, 1, 97, 0, 1, 1, 0, 0, 0, 0, 0]
def exS9 : SSchema := ⟨⟨#[97]⟩, 1, []⟩
theorem oneQ_may : mayQ oneQ = true := by decide +kernel
theorem oneQ_ok : okQ oneQ := fun x hx => by rw [List.mem_singleton.1 hx]; exact ⟨rfl, rfl⟩
theorem oneQ_bytes : bytesQ oneQ = oneL := by decide +kernel
theorem oneQ_get : gotQ (getQ oneL) = (oneQ, 11, true) := by
 have h := getQ_put [] oneQ_may oneQ_ok
 rw [List.append_nil, oneQ_bytes] at h
 rw [h]
 rfl
theorem oneQ_check : query_Check.f 12 [exS9] [oneS] 0 0 0 0 = some 0 := by decide +kernel
theorem oneQ_none : query_Check.f 12 [] [oneS] 0 0 0 0 = some 3 := by decide +kernel
theorem one_told (w : World) : Calls Try.prog 19 #[] w fun e w' => ∃ v, e = .returned (.agg #[v, .int .i64 0, .int .i64 0, .int .i64 0, .int .i64 0]) ∧ Kd.R kStep 40 w' w.heap.size (fun _ => True) v [oneS] ∧ Below w.heap.size w w' :=
 (towncrierlaw09_One.calls [oneS] 0 0 0 0 w rfl).mono fun e w' ⟨v, h1, h2, h3⟩ => ⟨v, h1, Kd.S_R h2, h3⟩
theorem get9_told (w : World) (A : Option Addr) (c : Nat) (hr : Kd.C (Kd.int .u8) w A 11 oneL) (hc : 11 ≤ c) : Calls Try.prog 12 #[.slice A 11 c] w fun e w' => ∃ A3 c3, e = .returned (.tuple #[.agg #[.slice A3 1 c3, .int .i64 0, .int .i64 0, .int .i64 0, .int .i64 0], .int .i64 11, .bool true]) ∧ 1 ≤ c3 ∧ Kd.C kStep w' A3 1 [oneS] ∧ Below w.heap.size w w' := by
 refine (getQ_told w A c oneL hr hc (by decide) (by decide) oneQ_get).mono ?_
 rintro e w' ⟨v, rfl, ho, _, hb⟩
 obtain ⟨A3, c3, rfl, h1, h2⟩ := Kd.R_reads ho
 exact ⟨A3, c3, rfl, h1, h2, hb⟩
theorem put9_told (w : World) (A : Option Addr) (c : Nat) (hr : Kd.C kStep w A 1 [oneS]) (hc : 1 ≤ c) : Calls Try.prog 11 #[.agg #[.slice A 1 c, .int .i64 0, .int .i64 0, .int .i64 0, .int .i64 0]] w fun e w' => ∃ A3 c3, e = .returned (.tuple #[.slice A3 11 c3, .bool true]) ∧ 11 ≤ c3 ∧ Kd.C (Kd.int .u8) w' A3 11 oneL ∧ Below w.heap.size w w' := by
 refine (putQ_told oneQ A c w hr hc oneQ_ok (by decide) oneQ_may ((if_pos rfl).trans oneQ_bytes)).mono ?_
 rintro e w' ⟨v, rfl, ho, hb⟩
 obtain ⟨A3, c3, rfl, h1, h2⟩ := Own8.reads ho
 exact ⟨A3, c3, rfl, h1, h2, hb⟩
theorem one9_told (w : World) : Calls Try.prog 19 #[] w fun e w' => ∃ A3 c3, e = .returned (.agg #[.slice A3 1 c3, .int .i64 0, .int .i64 0, .int .i64 0, .int .i64 0]) ∧ 1 ≤ c3 ∧ Kd.C kStep w' A3 1 [oneS] ∧ Below w.heap.size w w' := by
 refine (one_told w).mono ?_
 rintro e w' ⟨v, rfl, ho, hb⟩
 obtain ⟨A3, c3, rfl, h1, h2⟩ := Kd.R_reads ho
 exact ⟨A3, c3, rfl, h1, h2, hb⟩
theorem same9_told (w : World) (A B : Option Addr) (c d : Nat) (hr : Kd.C kStep w A 1 [oneS]) (hc : 1 ≤ c) (hs : Kd.C kStep w B 1 [oneS]) (hd : 1 ≤ d) : Calls Try.prog 13 #[.agg #[.slice A 1 c, .int .i64 0, .int .i64 0, .int .i64 0, .int .i64 0], .agg #[.slice B 1 d, .int .i64 0, .int .i64 0, .int .i64 0, .int .i64 0]] w (za2 true w) := sameQ_told oneQ oneQ A c B d w hr hc hs hd (eqQ_refl _)
theorem check9_told (w : World) (A B : Option Addr) (c d : Nat) (hr : Kd.C kSchema w A 1 [exS9]) (hc : 1 ≤ c) (hs : Kd.C kStep w B 1 [oneS]) (hd : 1 ≤ d) : Calls Try.prog 15 #[.slice A 1 c, .agg #[.slice B 1 d, .int .i64 0, .int .i64 0, .int .i64 0, .int .i64 0]] w fun e w' => e = .returned (.int .i64 0) ∧ Below w.heap.size w w' := query_Check.calls 12 A c [exS9] B d [oneS] 0 0 0 0 0 w hr hc hs hd oneQ_check
theorem check90_told (w : World) (B : Option Addr) (d : Nat) (hs : Kd.C kStep w B 1 [oneS]) (hd : 1 ≤ d) : Calls Try.prog 15 #[.slice none 0 0, .agg #[.slice B 1 d, .int .i64 0, .int .i64 0, .int .i64 0, .int .i64 0]] w fun e w' => e = .returned (.int .i64 3) ∧ Below w.heap.size w w' := query_Check.calls 12 none 0 [] B d [oneS] 0 0 0 0 3 w (Kd.C_nil _ _) (Nat.le_refl _) hs hd oneQ_none
set_option maxHeartbeats 8000000 in
set_option maxRecDepth 100000 in
theorem awake9_told (w : World) : Calls Try.prog 9 #[] w (za2 true w) := by
 go_enter Try.func9, Try.ntmps9
 go_wp2_with fail
 go_at_call 19
 refine (one9_told _).mono ?_
 rintro e w1 ⟨A1, c1, rfl, hc1, hr1, hb1⟩
 have HR1 := Aside0.mk hr1
 have HC1 := Aside0.mk hc1
 have HBY := Aside0.mk hb1
 clear hr1 hc1 hb1
 go_wp2_with fail
 go_at_call 11
 refine (put9_told _ A1 c1 HR1.out HC1.out).mono ?_
 rintro e w2 ⟨A2, c2, rfl, hc2, hr2, hb2⟩
 have HR2 := Aside0.mk hr2
 have HC2 := Aside0.mk hc2
 have HBY := Aside0.mk (zah HBY.out hb2)
 clear hr2 hc2 hb2
 go_wp2_with fail
 go_at_call 12
 refine (get9_told _ A2 c2 HR2.out HC2.out).mono ?_
 rintro e w3 ⟨A3, c3, rfl, hc3, hr3, hb3⟩
 have HC3 := Aside0.mk hc3
 obtain ⟨B, hB⟩ : ∃ B, w3.heap.size = B := ⟨_, rfl⟩
 have HQ : Aside0 (((w3.alloc (.cells #[.slice A3 1 c3, .int .i64 0, .int .i64 0, .int .i64 0, .int .i64 0] 24)).alloc (.cells #[.string ⟨#[97]⟩, .int .i64 1, .slice none 0 0] 43)).heap[B]? = some (.cells #[.slice A3 1 c3, .int .i64 0, .int .i64 0, .int .i64 0, .int .i64 0] 24 (0, 0))) := ⟨by rw [← hB]; exact zag (zaw w3 _) _⟩
 have HL := Aside0.mk (show Kd.C kSchema ((w3.alloc (.cells #[.slice A3 1 c3, .int .i64 0, .int .i64 0, .int .i64 0, .int .i64 0] 24)).alloc (.cells #[.string ⟨#[97]⟩, .int .i64 1, .slice none 0 0] 43)) (some ⟨w3.heap.size + 1, 0, none⟩) 1 [exS9] from C_lone (T := 43) (cs := [.string ⟨#[97]⟩, .int .i64 1, .slice none 0 0]) (zbh w3 _ _) (kSchema_mk _ exS9 (A2 := none) (c2 := 0) (Nat.le_refl _) (Kd.C_nil _ _)) rfl)
 have HBW := Aside0.mk (zaa (zaa (Below.refl w3.heap.size w3) (.cells #[.slice A3 1 c3, .int .i64 0, .int .i64 0, .int .i64 0, .int .i64 0] 24)) (.cells #[.string ⟨#[97]⟩, .int .i64 1, .slice none 0 0] 43))
 have HBY := Aside0.mk (zah (zah HBY.out hb3) HBW.out)
 have HR2W := Aside0.mk (Kd.C_below (Kd.C_below HR2.out hb3) HBW.out)
 have HR3W := Aside0.mk (Kd.C_below hr3 HBW.out)
 clear hr3 hc3 hb3
 go_upto_region 4 with fail
 simp only [hB] at HL ⊢
 generalize (w3.alloc (.cells #[.slice A3 1 c3, .int .i64 0, .int .i64 0, .int .i64 0, .int .i64 0] 24)).alloc (.cells #[.string ⟨#[97]⟩, .int .i64 1, .slice none 0 0] 43) = W3 at HQ HL HBY HR2W HR3W HBW ⊢
 have HCV : Aside0 (∀ W, Below W3.heap.size W3 W → (Go.convert 25 9 (.slice A2 11 c2)).run Try.prog W = .ok (.string (⟨#[1, 1, 97, 0, 1, 1, 0, 0, 0, 0, 0]⟩ : ByteArray)) W) := ⟨fun W h => by
  have z := Kd.C_string (P := Try.prog) (c := c2) Try.underlying25 Try.underlying5 Try.underlying9 (Kd.C_below HR2W.out h)
  rw [show strOfNums oneL = (⟨#[1, 1, 97, 0, 1, 1, 0, 0, 0, 0, 0]⟩ : ByteArray) from toList_inj (by decide +kernel)] at z
  exact z⟩
 have he0 := zad (zaj HQ.out) 0
 have he1 := zad (zaj HQ.out) 1
 have he2 := zad (zaj HQ.out) 2
 have he3 := zad (zaj HQ.out) 3
 have he4 := zad (zaj HQ.out) 4
 have HBD := Aside0.mk (zaW (Below.refl W3.heap.size W3))
 have hcv := HCV.out _ HBD.out
 have HBYS := HBY
 clear hB HBW HBY HR1 HR2 HC1 HC2
 go_region_held3 (fun w' => w'.cell? ⟨B, 0, none⟩ = some (.slice A3 1 c3) ∧ w'.cell? ⟨B, 1, none⟩ = some (.int .i64 0) ∧ w'.cell? ⟨B, 2, none⟩ = some (.int .i64 0) ∧ w'.cell? ⟨B, 3, none⟩ = some (.int .i64 0) ∧ w'.cell? ⟨B, 4, none⟩ = some (.int .i64 0) ∧ (Go.convert 25 9 (.slice A2 11 c2)).run Try.prog w' = .ok (.string (⟨#[1, 1, 97, 0, 1, 1, 0, 0, 0, 0, 0]⟩ : ByteArray)) w')
  (first | go_keep | (go_split_ands; refine ⟨zad (zak HQ.out HBD.out) 0, zad (zak HQ.out HBD.out) 1, zad (zak HQ.out HBD.out) 2, zad (zak HQ.out HBD.out) 3, zad (zak HQ.out HBD.out) 4, ?_⟩; exact HCV.out _ HBD.out))
  (first
   | (go_at_call 19; refine (one9_told _).mono ?_; rintro e w6 ⟨A6, c6, rfl, hc6, hr6, hb6⟩; have HR6 := Aside0.mk hr6; have HC6 := Aside0.mk hc6; have HBD := Aside0.mk (zah HBD.out hb6); clear hr6 hc6)
   | (go_at_call 13; refine (same9_told _ A3 A6 c3 c6 (Kd.C_below HR3W.out HBD.out) HC3.out HR6.out HC6.out).mono ?_; rintro e w7 ⟨rfl, hb7⟩; have HBD := Aside0.mk (zah HBD.out hb7))
   | (go_at_call_of 15 (Value.slice none 0 0); refine (check90_told _ A3 c3 (Kd.C_below HR3W.out HBD.out) HC3.out).mono ?_; rintro e w9 ⟨rfl, hb9⟩; have HBD := Aside0.mk (zah HBD.out hb9))
   | (go_at_call 15; refine (check9_told _ (some ⟨B + 1, 0, none⟩) A3 1 c3 (Kd.C_below HL.out HBD.out) (Nat.le_refl _) (Kd.C_below HR3W.out HBD.out) HC3.out).mono ?_; rintro e w8 ⟨rfl, hb8⟩; have HBD := Aside0.mk (zah HBD.out hb8)))
 all_goals
  go_wp2_with fail
  go_ret
  exact ⟨rfl, zah HBYS.out HBD.out⟩
end Go.Proofs.Ytooemobolfoefaa.P


namespace Go.Proofs.Ytooemobolfoefaa.P
open Go.RowKit Go.Proofs.YtooemobolfoefaaW.PrintWords Go.Proofs.YtooemobolfoefaaW.PrintLast Go.Proofs.YtooemobolfoefaaW.PrintMore
attribute [local go_sem] za1 zaZ zbb zba zaU zaT za0 zaY   -- for this text's walks alone
set_option linter.unusedVariables false
set_option linter.unusedSimpArgs false
theorem openArg0_QueryGrows : Opens Try.prog 34 (Kd.slice 43 kSchema) (fun x_ : List (SSchema) => x_.length * 48 ≤ 140737488351232 ∧ ∀ y_ ∈ x_, zaR y_) := (opens_slice Try.underlying34 openSchema (by kernel_rfl) (by kernel_rfl))
theorem openArg1_QueryGrows : Opens Try.prog 43 kSchema zaR := openSchema
theorem openArg2_QueryGrows : Opens Try.prog 24 kQuery wfQuery := openQuery
def QueryGrows.Stmt : Prop := ∀ (W : World) (x0 : List (SSchema)) (A0 : Option Addr) (c0 : Nat) (hc0 : x0.length ≤ c0) (hr0 : Kd.C kSchema W A0 x0.length x0) (w0 : x0.length * 48 ≤ 140737488351232 ∧ ∀ y_ ∈ x0, zaR y_) (x1 : SSchema) (cs1 : List Value) (K1 : kSchema.K W x1 cs1) (w1 : zaR x1) (x2 : SQuery) (cs2 : List Value) (K2 : kQuery.K W x2 cs2) (w2 : wfQuery x2),
  Calls Try.prog 8 #[.slice A0 x0.length c0, .agg cs1.toArray, .agg cs2.toArray] W fun e w' => e = .returned (.bool true) ∧ Below W.heap.size W w'
end Go.Proofs.Ytooemobolfoefaa.P


namespace Go.Proofs.Ytooemobolfoefaa.P
open Go.RowKit Go.Proofs.YtooemobolfoefaaW.PrintWords Go.Proofs.YtooemobolfoefaaW.PrintLast Go.Proofs.YtooemobolfoefaaW.PrintMore
set_option linter.unusedVariables false
set_option linter.unusedSimpArgs false
set_option maxHeartbeats 40000000 in
set_option maxRecDepth 100000 in
theorem QueryGrows.walk : QueryGrows.Stmt := by
 intro W x0 A0 c0 hc0 hr0 w0 x1 cs1 K1 w1 x2 cs2 K2 w2
 obtain ⟨A2, c2, rfl, hc2, hr2⟩ := kQuery_cells K2
 have HR2 := Aside0.mk hr2
 have HC2 := Aside0.mk hc2
 have HOK2 := Aside0.mk (wfQ_ok w2).1
 have HLN2 := Aside0.mk (wfQ_ok w2).2
 obtain ⟨p, hp8, hpC⟩ := few9_told x2
 have HPC := Aside0.mk hpC
 obtain ⟨A1, c1, rfl, hc1, hr1⟩ := kSchema_open K1
 have HR1 := Aside0.mk hr1
 have HC1 := Aside0.mk hc1
 have HW1 := Aside0.mk w1
 have HR0 := Aside0.mk hr0
 have HC0 := Aside0.mk hc0
 have HW0 := Aside0.mk (show ∀ y ∈ x0, zaR y from w0.2)
 have hl0 : x0.length < 4611686018427387904 := by have := w0.1; omega
 have HL0 := Aside0.mk hl0
 obtain ⟨q, hq12, hqC⟩ := few7_told x0
 have HQC := Aside0.mk hqC
 have HQ12 := Aside0.mk hq12
 obtain ⟨r, hr10, hrC⟩ := few5_told x1
 have HRC := Aside0.mk hrC
 obtain ⟨e1, he1⟩ : ∃ e, checkQ x0 x2 = e := ⟨_, rfl⟩
 have HE1 := Aside0.mk he1
 obtain ⟨m, e2, hmm⟩ : ∃ m e, zbC x0 x1 = (m, e) := ⟨_, _, rfl⟩
 have HMM := Aside0.mk hmm
 clear hr0 hc0 w0 hr1 hc1 w1 hr2 hc2 w2 hpC hp8 K1 K2 hqC hq12 hl0 he1 hr10 hrC hmm
 by_cases hgo : p = true ∧ q = true ∧ r = true
 ·obtain ⟨rfl, rfl, rfl⟩ := hgo
  have HL2 : Aside0 (x0.length < 2000000000) := ⟨by have := HQ12.out rfl; omega⟩
  by_cases h1 : e1 = 0
  ·have hz1 : (e1 != 0) = false := by rw [h1]; rfl
   by_cases h2 : e2 = 0
   ·have hz2 : (e2 != 0) = false := by rw [h2]; rfl
    have HE2 : Aside0 (checkQ m x2 = 0) := ⟨by have h := checkQ_more (l := x0) (s := x1) (q := x2) (by rw [HMM.out]; exact h2) (HE1.out.trans h1); rw [HMM.out] at h; exact h⟩
    have HWM : Aside0 (∀ y ∈ m, zaR y) := ⟨by have h := addOf_wf (l := x0) (s := x1) HW0.out HW1.out; rw [HMM.out] at h; exact h⟩
    have HLM : Aside0 (m.length < 4611686018427387904) := ⟨by have h := (adds_all9 (l := x0) (s := x1) (by rw [HMM.out]; exact h2)).2.2.1; rw [HMM.out] at h; have h12 := HQ12.out rfl; simp only at h; omega⟩
    clear h1 h2
    go_enter Try.func8, Try.ntmps8
    go_wp2_with fail
    go_at_call 9
    refine (awake9_told _).mono ?_
    rintro e w1_ ⟨rfl, hb1_⟩
    have HB1_ := Aside0.mk (zah (zaa (zaa (Below.refl _ _) _) _) hb1_)
    have HKx11_ := Aside0.mk (zak (zag (zaw _ _) _) hb1_)
    obtain ⟨kx11a_, kx11b_, kx11c_, kx11d_⟩ := know HKx11_.out
    have HKx21_ := Aside0.mk (zak (zbh _ _ _) hb1_)
    obtain ⟨kx21a_, kx21b_, kx21c_, kx21d_⟩ := know HKx21_.out
    clear hb1_
    go_wp2_with fail
    go_at_call_of 10 (Value.agg #[.slice A2 x2.f0.length c2, .int .i64 x2.f1, .int .i64 x2.f2, .int .i64 x2.f3, .int .i64 x2.f4])
    refine (HPC.out A2 c2 _ (Kd.C_below HR2.out (HB1_.out)) HC2.out).mono ?_
    rintro e w2_ ⟨rfl, hb2_⟩
    have HB2_ := Aside0.mk (zah (HB1_.out) hb2_)
    have HKx12_ := Aside0.mk (zak (HKx11_.out) hb2_)
    obtain ⟨kx12a_, kx12b_, kx12c_, kx12d_⟩ := know HKx12_.out
    have HKx22_ := Aside0.mk (zak (HKx21_.out) hb2_)
    obtain ⟨kx22a_, kx22b_, kx22c_, kx22d_⟩ := know HKx22_.out
    clear kx11a_ kx11b_ kx11c_ kx11d_ kx21a_ kx21b_ kx21c_ kx21d_
    clear hb2_
    go_wp2_with fail
    go_at_call 14
    refine (HQC.out A0 c0 _ (Kd.C_below HR0.out (HB2_.out)) HC0.out).mono ?_
    rintro e w3_ ⟨rfl, hb3_⟩
    have HB3_ := Aside0.mk (zah (HB2_.out) hb3_)
    have HKx13_ := Aside0.mk (zak (HKx12_.out) hb3_)
    obtain ⟨kx13a_, kx13b_, kx13c_, kx13d_⟩ := know HKx13_.out
    have HKx23_ := Aside0.mk (zak (HKx22_.out) hb3_)
    obtain ⟨kx23a_, kx23b_, kx23c_, kx23d_⟩ := know HKx23_.out
    clear kx12a_ kx12b_ kx12c_ kx12d_ kx22a_ kx22b_ kx22c_ kx22d_
    clear hb3_
    go_wp2_with fail
    go_at_call 17
    refine (HRC.out A1 c1 _ (Kd.C_below HR1.out (HB3_.out)) HC1.out).mono ?_
    rintro e w4_ ⟨rfl, hb4_⟩
    have HB4_ := Aside0.mk (zah (HB3_.out) hb4_)
    have HKx14_ := Aside0.mk (zak (HKx13_.out) hb4_)
    obtain ⟨kx14a_, kx14b_, kx14c_, kx14d_⟩ := know HKx14_.out
    have HKx24_ := Aside0.mk (zak (HKx23_.out) hb4_)
    obtain ⟨kx24a_, kx24b_, kx24c_, kx24d_⟩ := know HKx24_.out
    clear kx13a_ kx13b_ kx13c_ kx13d_ kx23a_ kx23b_ kx23c_ kx23d_
    clear hb4_
    go_wp2_with fail
    go_at_call 15
    refine (checkQ_told x0 x2 A0 c0 A2 c2 _ (Kd.C_below HR0.out (HB4_.out)) HC0.out (Kd.C_below HR2.out (HB4_.out)) HC2.out HW0.out HL0.out HOK2.out HLN2.out HE1.out).mono ?_
    rintro e w5_ ⟨rfl, hb5_⟩
    have HB5_ := Aside0.mk (zah (HB4_.out) hb5_)
    have HKx15_ := Aside0.mk (zak (HKx14_.out) hb5_)
    obtain ⟨kx15a_, kx15b_, kx15c_, kx15d_⟩ := know HKx15_.out
    have HKx25_ := Aside0.mk (zak (HKx24_.out) hb5_)
    obtain ⟨kx25a_, kx25b_, kx25c_, kx25d_⟩ := know HKx25_.out
    clear kx14a_ kx14b_ kx14c_ kx14d_ kx24a_ kx24b_ kx24c_ kx24d_
    clear hb5_
    go_wp2_with fail
    go_at_call 18
    refine (add_told x0 x1 A0 c0 A1 c1 _ (Kd.C_below HR0.out (HB5_.out)) HC0.out (Kd.C_below HR1.out (HB5_.out)) HC1.out HL2.out HW0.out HW1.out HMM.out).mono ?_
    rintro e w6_ ⟨A6_, c6_, ⟨rfl, hg6_, hh6_⟩, hb6_⟩
    have HB6_ := Aside0.mk (zah (HB5_.out) hb6_)
    have HKx16_ := Aside0.mk (zak (HKx15_.out) hb6_)
    obtain ⟨kx16a_, kx16b_, kx16c_, kx16d_⟩ := know HKx16_.out
    have HKx26_ := Aside0.mk (zak (HKx25_.out) hb6_)
    obtain ⟨kx26a_, kx26b_, kx26c_, kx26d_⟩ := know HKx26_.out
    clear kx15a_ kx15b_ kx15c_ kx15d_ kx25a_ kx25b_ kx25c_ kx25d_
    clear hb6_
    have HG6_ := Aside0.mk hg6_
    have HH6_ := Aside0.mk hh6_
    clear hg6_ hh6_
    go_wp2_with fail
    go_at_call 15
    refine (checkQ_told m x2 A6_ c6_ A2 c2 _ (HH6_.out) HG6_.out (Kd.C_below HR2.out (HB6_.out)) HC2.out HWM.out HLM.out HOK2.out HLN2.out HE2.out).mono ?_
    rintro e w7_ ⟨rfl, hb7_⟩
    have HB7_ := Aside0.mk (zah (HB6_.out) hb7_)
    have HKx17_ := Aside0.mk (zak (HKx16_.out) hb7_)
    obtain ⟨kx17a_, kx17b_, kx17c_, kx17d_⟩ := know HKx17_.out
    have HKx27_ := Aside0.mk (zak (HKx26_.out) hb7_)
    obtain ⟨kx27a_, kx27b_, kx27c_, kx27d_⟩ := know HKx27_.out
    clear kx16a_ kx16b_ kx16c_ kx16d_ kx26a_ kx26b_ kx26c_ kx26d_
    have HRm7_ := Aside0.mk (Kd.C_below (HH6_.out) hb7_)
    clear hb7_
    go_wp2_with fail
    go_ret
    exact ⟨rfl, HB7_.out⟩
   ·have hz2 : (e2 != 0) = true := bne_iff_ne.2 h2
    have hz1 : (e1 != 0) = false := by rw [h1]; rfl
    clear h1 h2
    go_enter Try.func8, Try.ntmps8
    go_wp2_with fail
    go_at_call 9
    refine (awake9_told _).mono ?_
    rintro e w1_ ⟨rfl, hb1_⟩
    have HB1_ := Aside0.mk (zah (zaa (zaa (Below.refl _ _) _) _) hb1_)
    have HKx11_ := Aside0.mk (zak (zag (zaw _ _) _) hb1_)
    obtain ⟨kx11a_, kx11b_, kx11c_, kx11d_⟩ := know HKx11_.out
    have HKx21_ := Aside0.mk (zak (zbh _ _ _) hb1_)
    obtain ⟨kx21a_, kx21b_, kx21c_, kx21d_⟩ := know HKx21_.out
    clear hb1_
    go_wp2_with fail
    go_at_call_of 10 (Value.agg #[.slice A2 x2.f0.length c2, .int .i64 x2.f1, .int .i64 x2.f2, .int .i64 x2.f3, .int .i64 x2.f4])
    refine (HPC.out A2 c2 _ (Kd.C_below HR2.out (HB1_.out)) HC2.out).mono ?_
    rintro e w2_ ⟨rfl, hb2_⟩
    have HB2_ := Aside0.mk (zah (HB1_.out) hb2_)
    have HKx12_ := Aside0.mk (zak (HKx11_.out) hb2_)
    obtain ⟨kx12a_, kx12b_, kx12c_, kx12d_⟩ := know HKx12_.out
    have HKx22_ := Aside0.mk (zak (HKx21_.out) hb2_)
    obtain ⟨kx22a_, kx22b_, kx22c_, kx22d_⟩ := know HKx22_.out
    clear kx11a_ kx11b_ kx11c_ kx11d_ kx21a_ kx21b_ kx21c_ kx21d_
    clear hb2_
    go_wp2_with fail
    go_at_call 14
    refine (HQC.out A0 c0 _ (Kd.C_below HR0.out (HB2_.out)) HC0.out).mono ?_
    rintro e w3_ ⟨rfl, hb3_⟩
    have HB3_ := Aside0.mk (zah (HB2_.out) hb3_)
    have HKx13_ := Aside0.mk (zak (HKx12_.out) hb3_)
    obtain ⟨kx13a_, kx13b_, kx13c_, kx13d_⟩ := know HKx13_.out
    have HKx23_ := Aside0.mk (zak (HKx22_.out) hb3_)
    obtain ⟨kx23a_, kx23b_, kx23c_, kx23d_⟩ := know HKx23_.out
    clear kx12a_ kx12b_ kx12c_ kx12d_ kx22a_ kx22b_ kx22c_ kx22d_
    clear hb3_
    go_wp2_with fail
    go_at_call 17
    refine (HRC.out A1 c1 _ (Kd.C_below HR1.out (HB3_.out)) HC1.out).mono ?_
    rintro e w4_ ⟨rfl, hb4_⟩
    have HB4_ := Aside0.mk (zah (HB3_.out) hb4_)
    have HKx14_ := Aside0.mk (zak (HKx13_.out) hb4_)
    obtain ⟨kx14a_, kx14b_, kx14c_, kx14d_⟩ := know HKx14_.out
    have HKx24_ := Aside0.mk (zak (HKx23_.out) hb4_)
    obtain ⟨kx24a_, kx24b_, kx24c_, kx24d_⟩ := know HKx24_.out
    clear kx13a_ kx13b_ kx13c_ kx13d_ kx23a_ kx23b_ kx23c_ kx23d_
    clear hb4_
    go_wp2_with fail
    go_at_call 15
    refine (checkQ_told x0 x2 A0 c0 A2 c2 _ (Kd.C_below HR0.out (HB4_.out)) HC0.out (Kd.C_below HR2.out (HB4_.out)) HC2.out HW0.out HL0.out HOK2.out HLN2.out HE1.out).mono ?_
    rintro e w5_ ⟨rfl, hb5_⟩
    have HB5_ := Aside0.mk (zah (HB4_.out) hb5_)
    have HKx15_ := Aside0.mk (zak (HKx14_.out) hb5_)
    obtain ⟨kx15a_, kx15b_, kx15c_, kx15d_⟩ := know HKx15_.out
    have HKx25_ := Aside0.mk (zak (HKx24_.out) hb5_)
    obtain ⟨kx25a_, kx25b_, kx25c_, kx25d_⟩ := know HKx25_.out
    clear kx14a_ kx14b_ kx14c_ kx14d_ kx24a_ kx24b_ kx24c_ kx24d_
    clear hb5_
    go_wp2_with fail
    go_at_call 18
    refine (add_told x0 x1 A0 c0 A1 c1 _ (Kd.C_below HR0.out (HB5_.out)) HC0.out (Kd.C_below HR1.out (HB5_.out)) HC1.out HL2.out HW0.out HW1.out HMM.out).mono ?_
    rintro e w6_ ⟨A6_, c6_, ⟨rfl, hg6_, hh6_⟩, hb6_⟩
    have HB6_ := Aside0.mk (zah (HB5_.out) hb6_)
    have HKx16_ := Aside0.mk (zak (HKx15_.out) hb6_)
    obtain ⟨kx16a_, kx16b_, kx16c_, kx16d_⟩ := know HKx16_.out
    have HKx26_ := Aside0.mk (zak (HKx25_.out) hb6_)
    obtain ⟨kx26a_, kx26b_, kx26c_, kx26d_⟩ := know HKx26_.out
    clear kx15a_ kx15b_ kx15c_ kx15d_ kx25a_ kx25b_ kx25c_ kx25d_
    clear hb6_
    have HG6_ := Aside0.mk hg6_
    have HH6_ := Aside0.mk hh6_
    clear hg6_ hh6_
    go_wp2_with fail
    go_ret
    exact ⟨rfl, HB6_.out⟩
  ·have hz1 : (e1 != 0) = true := bne_iff_ne.2 h1
   clear h1
   go_enter Try.func8, Try.ntmps8
   go_wp2_with fail
   go_at_call 9
   refine (awake9_told _).mono ?_
   rintro e w1_ ⟨rfl, hb1_⟩
   have HB1_ := Aside0.mk (zah (zaa (zaa (Below.refl _ _) _) _) hb1_)
   have HKx11_ := Aside0.mk (zak (zag (zaw _ _) _) hb1_)
   obtain ⟨kx11a_, kx11b_, kx11c_, kx11d_⟩ := know HKx11_.out
   have HKx21_ := Aside0.mk (zak (zbh _ _ _) hb1_)
   obtain ⟨kx21a_, kx21b_, kx21c_, kx21d_⟩ := know HKx21_.out
   clear hb1_
   go_wp2_with fail
   go_at_call_of 10 (Value.agg #[.slice A2 x2.f0.length c2, .int .i64 x2.f1, .int .i64 x2.f2, .int .i64 x2.f3, .int .i64 x2.f4])
   refine (HPC.out A2 c2 _ (Kd.C_below HR2.out (HB1_.out)) HC2.out).mono ?_
   rintro e w2_ ⟨rfl, hb2_⟩
   have HB2_ := Aside0.mk (zah (HB1_.out) hb2_)
   have HKx12_ := Aside0.mk (zak (HKx11_.out) hb2_)
   obtain ⟨kx12a_, kx12b_, kx12c_, kx12d_⟩ := know HKx12_.out
   have HKx22_ := Aside0.mk (zak (HKx21_.out) hb2_)
   obtain ⟨kx22a_, kx22b_, kx22c_, kx22d_⟩ := know HKx22_.out
   clear kx11a_ kx11b_ kx11c_ kx11d_ kx21a_ kx21b_ kx21c_ kx21d_
   clear hb2_
   go_wp2_with fail
   go_at_call 14
   refine (HQC.out A0 c0 _ (Kd.C_below HR0.out (HB2_.out)) HC0.out).mono ?_
   rintro e w3_ ⟨rfl, hb3_⟩
   have HB3_ := Aside0.mk (zah (HB2_.out) hb3_)
   have HKx13_ := Aside0.mk (zak (HKx12_.out) hb3_)
   obtain ⟨kx13a_, kx13b_, kx13c_, kx13d_⟩ := know HKx13_.out
   have HKx23_ := Aside0.mk (zak (HKx22_.out) hb3_)
   obtain ⟨kx23a_, kx23b_, kx23c_, kx23d_⟩ := know HKx23_.out
   clear kx12a_ kx12b_ kx12c_ kx12d_ kx22a_ kx22b_ kx22c_ kx22d_
   clear hb3_
   go_wp2_with fail
   go_at_call 17
   refine (HRC.out A1 c1 _ (Kd.C_below HR1.out (HB3_.out)) HC1.out).mono ?_
   rintro e w4_ ⟨rfl, hb4_⟩
   have HB4_ := Aside0.mk (zah (HB3_.out) hb4_)
   have HKx14_ := Aside0.mk (zak (HKx13_.out) hb4_)
   obtain ⟨kx14a_, kx14b_, kx14c_, kx14d_⟩ := know HKx14_.out
   have HKx24_ := Aside0.mk (zak (HKx23_.out) hb4_)
   obtain ⟨kx24a_, kx24b_, kx24c_, kx24d_⟩ := know HKx24_.out
   clear kx13a_ kx13b_ kx13c_ kx13d_ kx23a_ kx23b_ kx23c_ kx23d_
   clear hb4_
   go_wp2_with fail
   go_at_call 15
   refine (checkQ_told x0 x2 A0 c0 A2 c2 _ (Kd.C_below HR0.out (HB4_.out)) HC0.out (Kd.C_below HR2.out (HB4_.out)) HC2.out HW0.out HL0.out HOK2.out HLN2.out HE1.out).mono ?_
   rintro e w5_ ⟨rfl, hb5_⟩
   have HB5_ := Aside0.mk (zah (HB4_.out) hb5_)
   have HKx15_ := Aside0.mk (zak (HKx14_.out) hb5_)
   obtain ⟨kx15a_, kx15b_, kx15c_, kx15d_⟩ := know HKx15_.out
   have HKx25_ := Aside0.mk (zak (HKx24_.out) hb5_)
   obtain ⟨kx25a_, kx25b_, kx25c_, kx25d_⟩ := know HKx25_.out
   clear kx14a_ kx14b_ kx14c_ kx14d_ kx24a_ kx24b_ kx24c_ kx24d_
   clear hb5_
   go_wp2_with fail
   go_ret
   exact ⟨rfl, HB5_.out⟩
 ·have HNO := Aside0.mk hgo
  clear hgo
  cases p <;> cases q <;> cases r
  all_goals first
   | (exfalso; exact HNO.out ⟨rfl, rfl, rfl⟩)
   | skip
  all_goals
   go_enter Try.func8, Try.ntmps8
   go_wp2_with fail
   go_at_call 9
   refine (awake9_told _).mono ?_
   rintro e w1_ ⟨rfl, hb1_⟩
   have HB1_ := Aside0.mk (zah (zaa (zaa (Below.refl _ _) _) _) hb1_)
   have HKx11_ := Aside0.mk (zak (zag (zaw _ _) _) hb1_)
   obtain ⟨kx11a_, kx11b_, kx11c_, kx11d_⟩ := know HKx11_.out
   have HKx21_ := Aside0.mk (zak (zbh _ _ _) hb1_)
   obtain ⟨kx21a_, kx21b_, kx21c_, kx21d_⟩ := know HKx21_.out
   clear hb1_
   go_wp2_with fail
   go_at_call_of 10 (Value.agg #[.slice A2 x2.f0.length c2, .int .i64 x2.f1, .int .i64 x2.f2, .int .i64 x2.f3, .int .i64 x2.f4])
   refine (HPC.out A2 c2 _ (Kd.C_below HR2.out (HB1_.out)) HC2.out).mono ?_
   rintro e w2_ ⟨rfl, hb2_⟩
   have HB2_ := Aside0.mk (zah (HB1_.out) hb2_)
   have HKx12_ := Aside0.mk (zak (HKx11_.out) hb2_)
   obtain ⟨kx12a_, kx12b_, kx12c_, kx12d_⟩ := know HKx12_.out
   have HKx22_ := Aside0.mk (zak (HKx21_.out) hb2_)
   obtain ⟨kx22a_, kx22b_, kx22c_, kx22d_⟩ := know HKx22_.out
   clear kx11a_ kx11b_ kx11c_ kx11d_ kx21a_ kx21b_ kx21c_ kx21d_
   clear hb2_
   go_wp2_with fail
   go_at_call 14
   refine (HQC.out A0 c0 _ (Kd.C_below HR0.out (HB2_.out)) HC0.out).mono ?_
   rintro e w3_ ⟨rfl, hb3_⟩
   have HB3_ := Aside0.mk (zah (HB2_.out) hb3_)
   have HKx13_ := Aside0.mk (zak (HKx12_.out) hb3_)
   obtain ⟨kx13a_, kx13b_, kx13c_, kx13d_⟩ := know HKx13_.out
   have HKx23_ := Aside0.mk (zak (HKx22_.out) hb3_)
   obtain ⟨kx23a_, kx23b_, kx23c_, kx23d_⟩ := know HKx23_.out
   clear kx12a_ kx12b_ kx12c_ kx12d_ kx22a_ kx22b_ kx22c_ kx22d_
   clear hb3_
   go_wp2_with fail
   go_at_call 17
   refine (HRC.out A1 c1 _ (Kd.C_below HR1.out (HB3_.out)) HC1.out).mono ?_
   rintro e w4_ ⟨rfl, hb4_⟩
   have HB4_ := Aside0.mk (zah (HB3_.out) hb4_)
   have HKx14_ := Aside0.mk (zak (HKx13_.out) hb4_)
   obtain ⟨kx14a_, kx14b_, kx14c_, kx14d_⟩ := know HKx14_.out
   have HKx24_ := Aside0.mk (zak (HKx23_.out) hb4_)
   obtain ⟨kx24a_, kx24b_, kx24c_, kx24d_⟩ := know HKx24_.out
   clear kx13a_ kx13b_ kx13c_ kx13d_ kx23a_ kx23b_ kx23c_ kx23d_
   clear hb4_
   go_wp2_with fail
   go_ret
   exact ⟨rfl, HB4_.out⟩
end Go.Proofs.Ytooemobolfoefaa.P

