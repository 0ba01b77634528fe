/- What QueryGrows's row stands on: words, contracts of the functions that it reaches, plain facts, its walk (part 6): no condition but those that each theorem names. -/
import Derived.Test.YtooemobolfoefaaZQueryGrows5
set_option linter.unusedVariables false
set_option linter.unusedSimpArgs false
namespace Go.Proofs.Ytooemobolfoefaa.P
open Go.RowKit Go.Proofs.YtooemobolfoefaaW.PrintWords Go.Proofs.YtooemobolfoefaaW.PrintLast Go.Proofs.YtooemobolfoefaaW.PrintMore
attribute [local go_sem] za1 zaZ zbb zba zaU zaT za0 zaY   -- for this text's walks alone
set_option linter.unusedVariables false
set_option linter.unusedSimpArgs false
theorem infoThing : (Try.prog.info? 119).map (fun i => (i.zero, i.size, i.bytes)) = some (some .nilIface, 1, 16) := by kernel_rfl
theorem Spares.low {S : Nat → Prop} {w0 W w1 : World} (h : Spares S w0 W) (k : Below w0.heap.size W w1) : Spares S w0 w1 := ⟨h.1.trans (k.mono (Nat.zero_le _)), fun i hi hs => (k.block i hi).trans (h.2 i hi hs)⟩
def zbn (v V : Value) (k : Bool) : Obj := .cells #[v, V, .bool k] 105 (0, 0)
def pileRel (w0 : World) (B : Nat) (V : Value) (k : Bool) (xs : List SValue) (w : World) : Prop := ∃ v, w.heap[B]? = some (zbn v V k) ∧ Kd.R kThing 119 w w0.heap.size (fun _ => True) v xs ∧ Spares (fun i => i = B) w0 w
theorem pileRel.size {w0 : World} {B : Nat} {V : Value} {k : Bool} {xs : List SValue} {w : World} (h : pileRel w0 B V k xs w) : w0.heap.size ≤ w.heap.size := by obtain ⟨_, _, _, hs⟩ := h; exact hs.size
theorem pileRel.below {w0 : World} {B : Nat} {V : Value} {k : Bool} {xs : List SValue} {w w1 : World} (h : pileRel w0 B V k xs w) (hb : Below w.heap.size w w1) : pileRel w0 B V k xs w1 := by
 obtain ⟨v, h1, h2, h3⟩ := h
 exact ⟨v, zak h1 hb, Kd.R_below h2 hb, h3.step hb⟩
theorem thing_types : ∀ q, q ∈ 119 :: kThing.E → q ≠ 105 := by
 intro q hq
 rw [show kThing.E = [] from rfl, List.mem_singleton] at hq
 subst hq
 decide
theorem pile_put {w0 w : World} {B : Nat} {v V v1 : Value} {k : Bool} {xs : List SValue} (h1 : w.heap[B]? = some (zbn v V k)) (h2 : Kd.R kThing 119 w w0.heap.size (fun _ => True) v1 xs) (h3 : Spares (fun i => i = B) w0 w) : pileRel w0 B V k xs (w.setCell ⟨B, 0, none⟩ v1) :=
 ⟨v1, zas h1 0 v1 rfl, Kd.R_set h2 h1 thing_types 0 v1, h3.set 0 (.inl rfl) v1⟩
set_option maxHeartbeats 1000000 in
set_option maxRecDepth 100000 in
theorem lay_told (w0 : World) (B : Nat) (V : Value) (k : Bool) (xs : List SValue) (x : SValue) (w : World) (h : pileRel w0 B V k xs w) (hB : B < w0.heap.size) (hl : xs.length ≤ 1000) :
  Calls Try.prog 74 #[.pointer (some ⟨B, 0, none⟩), thV x] w fun e w' => e = .returned (.tuple #[]) ∧ pileRel w0 B V k (xs ++ [x]) w' := by
 obtain ⟨v, hb, ho, hs⟩ := h
 obtain ⟨A, c, rfl⟩ := Kd.R_slice ho
 have HO := Aside0.mk ho
 have HS := Aside0.mk hs
 have HK := Aside0.mk hb
 have hne := Kd.R_ne ho hb (by decide : (119 : Nat) ≠ 105)
 have HNE := Aside0.mk hne
 have hone := thV_one x
 unfold zbn at hb
 obtain ⟨k1, k2, k3, k4⟩ := know hb
 obtain ⟨t, u, hy⟩ := thV_iface x
 rw [hy] at hone ⊢
 have HY := Aside0.mk hy
 have hsz := hs.size
 clear ho hs hb hne hy hone
 go_enter Try.func74, Try.ntmps74
 go_wp2_with ((with_reducible refine zaD (b := .append) (xs := #[.tmp 8, .tmp 10]) rfl ?_); at_builtin; refine Kd.R_append kThing (w0 := w) w0.heap.size rfl (.tmp 8) (.tmp 10) 102 119 .nilIface 16 rfl Try.underlying102 infoThing rfl (by decide) (by decide) (.slice A xs.length c) xs x [.iface t u] (fun _ => True) (fun _ => False) ?hs ?hx ?aP (fun _ h => h.elim) (fun _ _ => trivial) HO.out (Below.refl _ _) hsz (by omega) ?_; (case hs => rfl); (case hx => rfl); (case aP => rw [← HY.out]; rfl); intro v1 w1 ho1 hb1 hg1 hat1; have HO1 := Aside0.mk ho1; have HB1 := Aside0.mk hb1; have HK1 := Aside0.mk (za3 HK.out hg1 HNE.out); obtain ⟨A1, c1, hv1⟩ := Kd.R_slice ho1; rw [List.length_append, List.length_singleton] at hv1; subst hv1; obtain ⟨j1, j2, j3, j4⟩ := know HK1.out; clear ho1 hb1 hg1 hat1 k1 k2 k3 k4)
 go_end0
 exact ⟨rfl, pile_put HK1.out HO1.out (HS.out.low HB1.out)⟩
set_option maxHeartbeats 1000000 in
set_option maxRecDepth 100000 in
theorem cloneTh_told (ad : Addr) (m c : Nat) (l : List SValue) (w : World) (hr0 : Kd.C kThing w (some ad) m l) (hm : m ≤ 1000) :
  Calls Try.prog 80 #[.slice (some ad) m c] w (rowPost kThing 119 l w) := by
 obtain rfl : l.length = m := hr0.1
 have HR := Aside0.mk hr0
 clear hr0
 have hu := Try.underlying102
 have hq := fun (W : World) (m c : Nat) => Go.Lib.run_eql_slice_nil (P := Try.prog) W 102 119 (some ad) m c 0 0 hu
 go_enter Try.func80, Try.ntmps80
 go_wp2_with ((with_reducible refine zaD (b := .append) (xs := #[.tmp 5, .tmp 6]) rfl ?_); at_builtin; refine Kd.R_append_rows kThing (Rr := Kd.K kThing (w.alloc (.cells #[] 119))) (w0 := w) w.heap.size rfl (.tmp 5) (.tmp 6) 102 119 .nilIface 16 rfl Try.underlying102 infoThing rfl (by decide) (by omega) (.slice (some ⟨w.heap.size, 0, none⟩) 0 0) [] l (some ad) l.length c (fun _ => True) (fun _ => False) rfl rfl ?aO ?aR ?aK (fun _ h => h.elim) (fun _ _ => trivial) ?aB ?aS ?aL ?_; (case aO => exact Kd.R_empty _ _ _ _ (Nat.le_refl _)); (case aR => exact Kd.C_below HR.out ((Below.refl _ _).alloc (Nat.le_refl _) _)); (case aB => exact (Below.refl _ _).alloc (Nat.le_refl _) _); (case aK => exact (fun x cs h => h)); (case aS => simp); (case aL => simp; omega); intro v1 w2 ho hb hg hat; have HO := Aside0.mk ho; clear ho hg hat)
 go_ret
 exact ⟨_, rfl, HO.out, hb⟩
def takePost (w0 : World) (B n : Nat) (V : Value) (k : Bool) (xs : List SValue) (w : World) (e : Ending) (w' : World) : Prop := ∃ A c, (e = .returned (.tuple #[.slice (some A) n c, .bool true]) ∧ n ≤ c ∧ Kd.C kThing w' (some A) n (xs.drop (xs.length - n))) ∧ pileRel w0 B V k (xs.take (xs.length - n)) w' ∧ Spares (fun i => i = B) w w'
set_option maxHeartbeats 1000000 in
set_option maxRecDepth 100000 in
theorem take_no (w0 : World) (B n : Nat) (V : Value) (k : Bool) (xs : List SValue) (w : World) (h : pileRel w0 B V k xs w) (hn : xs.length < n) (hn2 : n ≤ 2) :
  Calls Try.prog 77 #[.pointer (some ⟨B, 0, none⟩), .int .i64 (n : Int)] w fun e w' => e = .returned (.tuple #[.slice none 0 0, .bool false]) ∧ w' = w := by
 have HH := Aside0.mk h
 obtain ⟨v, hb, ho, hs⟩ := h
 obtain ⟨A, c, rfl⟩ := Kd.R_slice ho
 unfold zbn at hb
 obtain ⟨k1, k2, k3, k4⟩ := know hb
 have hw : IntKind.i64.wrap ((xs.length : Int) - (n : Int)) = (xs.length : Int) - (n : Int) := IntWalk.i64_in _ (by omega)
 have hd : decide ((xs.length : Int) - (n : Int) < 0) = true := decide_eq_true (by omega)
 have hd2 : (xs.length : Int) - (n : Int) < 0 := by omega
 clear ho hs hb hn hn2
 go_enter Try.func77, Try.ntmps77
 go_wp2
 go_ret2
 exact ⟨rfl, rfl⟩
set_option maxHeartbeats 1000000 in
set_option maxRecDepth 100000 in
theorem take_told (w0 : World) (B n : Nat) (V : Value) (k : Bool) (xs : List SValue) (w : World) (h : pileRel w0 B V k xs w) (hB : B < w0.heap.size) (hn0 : 1 ≤ n) (hn2 : n ≤ 2) (hl : xs.length ≤ 1000) (hle : n ≤ xs.length) :
  Calls Try.prog 77 #[.pointer (some ⟨B, 0, none⟩), .int .i64 (n : Int)] w (takePost w0 B n V k xs w) := by
 obtain ⟨v, hb, ho, hs⟩ := h
 obtain ⟨A, c, rfl, hc, hr⟩ := Kd.R_reads ho
 obtain ⟨i0, hi0, _, hsz0, _⟩ := info_parts infoThing
 obtain ⟨m, hm⟩ : ∃ m, xs.length = m + n := ⟨xs.length - n, by omega⟩
 obtain ⟨A', hcut, hC', hlc⟩ := drop_row (P := Try.prog) (d := kThing) Try.underlying102 hi0 hsz0 A c xs m (m : Int) rfl (by omega) hc
 obtain ⟨hcut2, hC2⟩ := take_row (P := Try.prog) (d := kThing) Try.underlying102 hi0 A c xs m (m : Int) rfl (by omega) hc
 have hln : (xs.drop m).length = n := by rw [List.length_drop]; omega
 rw [hln] at hcut hC' hlc
 have hrow := hC' w hr
 obtain ⟨a, rfl⟩ : ∃ a, A' = some a := by
  obtain ⟨ad, e, _⟩ := hrow.2.2 (by omega)
  exact ⟨ad, e⟩
 have HROW := Aside0.mk hrow
 have HO := Aside0.mk ho
 have HS := Aside0.mk hs
 have HK := Aside0.mk hb
 unfold takePost
 rw [show xs.length - n = m from by omega]
 have HT := Aside0.mk (Kd.R_take (m := m) ho (by omega))
 unfold zbn at hb
 obtain ⟨k1, k2, k3, k4⟩ := know hb
 have hw : IntKind.i64.wrap ((xs.length : Int) - (n : Int)) = (m : Int) := by rw [IntWalk.i64_in _ (by omega)]; omega
 have hm0 : ¬ (m : Int) < 0 := by omega
 have hn1000 : n ≤ 1000 := by omega
 clear ho hs hb hC' hC2 hlc hi0 hsz0 hr hrow hm
 go_enter Try.func77, Try.ntmps77
 go_wp2_with (go_at_call 80; refine (cloneTh_told a n _ (xs.drop m) _ HROW.out hn1000).mono ?_; rintro e w1 ⟨v1, rfl, ho1, hb1⟩; obtain ⟨A1, c1, hv1, hc1, hr1⟩ := Kd.R_reads ho1; rw [hln] at hv1 hc1 hr1; subst hv1; have HC1 := Aside0.mk hc1; have HR1 := Aside0.mk hr1; have HOR := Aside0.mk ho1; have HB1 := Aside0.mk hb1; have HK1 := Aside0.mk (zak HK.out hb1); obtain ⟨j1, j2, j3, j4⟩ := know HK1.out; clear ho1 hb1 hc1 hr1 k1 k2 k3 k4)
 go_ret2
 have hb : A1 ≠ none := by
  rintro rfl
  obtain ⟨ad, e, _⟩ := HR1.out.2.2 (by omega)
  cases e
 obtain ⟨a1, rfl⟩ := Option.ne_none_iff_exists'.1 hb
 refine ⟨a1, c1, ⟨rfl, HC1.out, ?_⟩, pile_put HK1.out (Kd.R_below HT.out HB1.out) (HS.out.step HB1.out), Spares.set (S := fun i => i = B) (Spares.of_below HB1.out) (g := B) 0 (.inl rfl) _⟩
 have hfin := (Kd.R_reads' (Kd.R_set HOR.out HK1.out thing_types 0 (.slice A m c))).2.2
 rwa [hln] at hfin
def cmp_isNaN_int.f (a0 : Int) : Option (Bool) := some (a0 != a0)
set_option maxHeartbeats 8000000 in
set_option maxRecDepth 100000 in
theorem cmp_isNaN_int.calls (a0 : Int) (r : Bool) (w : World) (h : cmp_isNaN_int.f a0 = some r) :
  Calls Try.prog 86 #[.int .i64 a0] w fun e w' => e = .returned (.bool r) ∧ Drawn0 w w' := by
 have H : (some (a0 != a0)) = some r := h
 clear h
 obtain rfl := Option.some.inj H
 go_enter Try.func86, Try.ntmps86
 go_wp2
 go_ret
 exact ⟨by first | rfl | (simp; done) | (simp [*]; done), by repeat (first | exact Drawn0.refl _ | apply Drawn0.step)⟩
def cmp_Or_int.l0 : Nat → Int → List Int → Int → Int → Option (Int)
 | 0, _, _, _, _ => none
 | k + 1, x3, x6, x7, x8 => if x8 < x7 then (if 0 ≤ x8 then (if x8 < (x6.length : Int) then (if (rd x6 x8) = x3 then (cmp_Or_int.l0 k x3 x6 x7 (wrap64 (x8 + 1))) else (some (rd x6 x8))) else (none)) else (none)) else (some x3)
def cmp_Or_int.f (k : Nat) (l0 : List Int) : Option (Int) := cmp_Or_int.l0 k 0 l0 (l0.length : Int) 0
set_option maxHeartbeats 8000000 in
set_option maxRecDepth 100000 in
theorem cmp_Or_int.calls (k : Nat) (A0 : Option Addr) (c0 : Nat) (l0 : List Int) (r : Int) (w : World) (hr0 : Kd.C (Kd.int .i64) w A0 l0.length l0) (hc0 : l0.length ≤ c0) (h : cmp_Or_int.f k l0 = some r) :
  Calls Try.prog 83 #[.slice A0 l0.length c0] w fun e w' => e = .returned (.int .i64 r) ∧ Drawn0 w w' := by
 have HR0 := Aside0.mk hr0
 have HC0 := Aside0.mk hc0
 clear hr0 hc0
 have H : (cmp_Or_int.l0 k 0 l0 (l0.length : Int) 0) = some r := h
 clear h
 have H' := Aside0.mk H
 clear H
 go_enter Try.func83, Try.ntmps83
 go_wp2
 go_loopg [8] k (fun kq v8 w' => ∃ (x8_1 : Int), v8 = .int .i64 x8_1 ∧ Aside0 (cmp_Or_int.l0 kq 0 l0 (l0.length : Int) x8_1 = some r) ∧ Aside0 (kq ≤ k) ∧ Drawn0 w w')
 case atStart => exact ⟨(0), (by first | rfl | (simp; done) | (simp [*]; done)), H', ⟨Nat.le_refl _⟩, by repeat (first | exact Drawn0.refl _ | apply Drawn0.step)⟩
 case round =>
  clear H'
  obtain ⟨x8_1, rfl, HA, HK1, ⟨m1, rfl⟩⟩ := hrel
  cases gk with
  | zero => exact absurd HA.out (by simp [cmp_Or_int.l0])
  | succ k1 =>
   have H := HA.out
   clear HA
   simp only [cmp_Or_int.l0] at H
   by_cases c2 : x8_1 < (l0.length : Int)
   ·rw [if_pos c2] at H
    have c2b0 : decide (x8_1 < (l0.length : Int)) = true := decide_eq_true c2
    clear c2
    by_cases c3 : 0 ≤ x8_1
    ·rw [if_pos c3] at H
     have c3b0 : decide (0 ≤ x8_1) = true := decide_eq_true c3
     clear c3
     by_cases c4 : x8_1 < (l0.length : Int)
     ·rw [if_pos c4] at H
      have c4b0 : decide (x8_1 < (l0.length : Int)) = true := decide_eq_true c4
      clear c4
      by_cases c5 : (rd l0 x8_1) = 0
      ·rw [if_pos c5] at H
       have c5b0 : ((rd l0 x8_1) == 0) = true := beq_iff_eq.mpr c5
       have c5b1 : ((rd l0 x8_1) != 0) = false := bne_eq_false_iff_eq.mpr c5
       clear c5
       have H' := Aside0.mk H
       clear H
       have p148 : 0 ≤ (x8_1 : Int) := of_decide_eq_true (by first | (with_reducible assumption) | assumption)
       have q148 : x8_1 < (l0.length : Int) := of_decide_eq_true (by first | (with_reducible assumption) | assumption)
       obtain ⟨ad148, e148, hx148_0⟩ := Kd.at_int HR0.out x8_1 p148 q148
       cases e148
       replace p148 := eq_true p148
       replace q148 := eq_true q148
       go_wp2
       go_roundg k1
       case measure => have := HK1.out; omega
       case rel => exact ⟨(wrap64 (x8_1 + 1)), (by first | rfl | (simp; done) | (simp [*]; done)), H', ⟨by have := HK1.out; omega⟩, by repeat (first | exact Drawn0.refl _ | apply Drawn0.step)⟩
      ·rw [if_neg c5] at H
       have c5b0 : ((rd l0 x8_1) == 0) = false := beq_eq_false_iff_ne.mpr c5
       have c5b1 : ((rd l0 x8_1) != 0) = true := bne_iff_ne.mpr c5
       obtain rfl := Option.some.inj H
       have p148 : 0 ≤ (x8_1 : Int) := of_decide_eq_true (by first | (with_reducible assumption) | assumption)
       have q148 : x8_1 < (l0.length : Int) := of_decide_eq_true (by first | (with_reducible assumption) | assumption)
       obtain ⟨ad148, e148, hx148_0⟩ := Kd.at_int HR0.out x8_1 p148 q148
       cases e148
       replace p148 := eq_true p148
       replace q148 := eq_true q148
       go_wp2
       go_ret
       exact ⟨by first | rfl | (simp; done) | (simp [*]; done), by repeat (first | exact Drawn0.refl _ | apply Drawn0.step)⟩
     ·rw [if_neg c4] at H
      exact absurd H (by simp)
    ·rw [if_neg c3] at H
     exact absurd H (by simp)
   ·rw [if_neg c2] at H
    have c2b0 : decide (x8_1 < (l0.length : Int)) = false := decide_eq_false c2
    clear c2
    obtain rfl := Option.some.inj H
    go_wp2
    go_ret
    exact ⟨by first | rfl | (simp; done) | (simp [*]; done), by repeat (first | exact Drawn0.refl _ | apply Drawn0.step)⟩
def cmp_Compare_int.f (a0 : Int) (a1 : Int) : Option (Int) := (cmp_isNaN_int.f a0).bind fun t149 => ((cmp_isNaN_int.f a1).bind fun t150 => (if t149 = true then (if t150 = true then (some 0) else (some (-1))) else (if t150 = true then (some 1) else (if a0 < a1 then (some (-1)) else (if a0 > a1 then (some 1) else (some 0))))))
set_option maxHeartbeats 8000000 in
set_option maxRecDepth 100000 in
theorem cmp_Compare_int.calls (a0 : Int) (a1 : Int) (r : Int) (w : World) (h : cmp_Compare_int.f a0 a1 = some r) :
  Calls Try.prog 84 #[.int .i64 a0, .int .i64 a1] w fun e w' => e = .returned (.int .i64 r) ∧ Drawn0 w w' := by
 have H : ((cmp_isNaN_int.f a0).bind fun t149 => ((cmp_isNaN_int.f a1).bind fun t150 => (if t149 = true then (if t150 = true then (some 0) else (some (-1))) else (if t150 = true then (some 1) else (if a0 < a1 then (some (-1)) else (if a0 > a1 then (some 1) else (some 0))))))) = some r := h
 clear h
 replace H := Option.bind_eq_some_iff.mp H
 obtain ⟨t149, A30, H⟩ := H
 replace H : ((cmp_isNaN_int.f a1).bind fun t150 => (if t149 = true then (if t150 = true then (some 0) else (some (-1))) else (if t150 = true then (some 1) else (if a0 < a1 then (some (-1)) else (if a0 > a1 then (some 1) else (some 0)))))) = some r := H
 have A3 := Aside0.mk A30
 clear A30
 replace H := Option.bind_eq_some_iff.mp H
 obtain ⟨t150, A40, H⟩ := H
 replace H : (if t149 = true then (if t150 = true then (some 0) else (some (-1))) else (if t150 = true then (some 1) else (if a0 < a1 then (some (-1)) else (if a0 > a1 then (some 1) else (some 0))))) = some r := H
 have A4 := Aside0.mk A40
 clear A40
 by_cases c5 : t149 = true
 ·subst c5
  have H1 : (if t150 = true then (some 0) else (some (-1))) = some r := by rw [if_pos rfl] at H; exact H
  clear H
  have H := H1
  clear H1
  by_cases c6 : t150 = true
  ·subst c6
   have H1 : (some 0) = some r := by rw [if_pos rfl] at H; exact H
   clear H
   have H := H1
   clear H1
   obtain rfl := Option.some.inj H
   go_enter Try.func84, Try.ntmps84
   go_wp2_with (first | ((with_reducible refine zaq (f := 86) rfl ?_); refine zav (some 8) rfl rfl Try.func86 (by kernel_rfl) rfl #[.int .i64 a0] rfl (by (try simp only [List.map_toArray, List.map_cons, List.map_nil]); first | done | rfl | (simp only [List.length_drop, List.length_take]; rfl)) ?_; (with_reducible refine (cmp_isNaN_int.calls a0 true _ A3.out).mono ?_); rintro e w' ⟨rfl, ⟨nd, rfl⟩⟩; refine ⟨_, rfl, ?_⟩) | ((with_reducible refine zaq (f := 86) rfl ?_); refine zav (some 10) rfl rfl Try.func86 (by kernel_rfl) rfl #[.int .i64 a1] rfl (by (try simp only [List.map_toArray, List.map_cons, List.map_nil]); first | done | rfl | (simp only [List.length_drop, List.length_take]; rfl)) ?_; (with_reducible refine (cmp_isNaN_int.calls a1 true _ A4.out).mono ?_); rintro e w' ⟨rfl, ⟨nd, rfl⟩⟩; refine ⟨_, rfl, ?_⟩))
   go_ret
   exact ⟨by first | rfl | (simp; done) | (simp [*]; done), by repeat (first | exact Drawn0.refl _ | apply Drawn0.step)⟩
  ·replace c6 := Bool.eq_false_iff.mpr c6
   subst c6
   have H1 : (some (-1)) = some r := by rw [if_neg (show ¬ (false = true) by decide)] at H; exact H
   clear H
   have H := H1
   clear H1
   obtain rfl := Option.some.inj H
   go_enter Try.func84, Try.ntmps84
   go_wp2_with (first | ((with_reducible refine zaq (f := 86) rfl ?_); refine zav (some 8) rfl rfl Try.func86 (by kernel_rfl) rfl #[.int .i64 a0] rfl (by (try simp only [List.map_toArray, List.map_cons, List.map_nil]); first | done | rfl | (simp only [List.length_drop, List.length_take]; rfl)) ?_; (with_reducible refine (cmp_isNaN_int.calls a0 true _ A3.out).mono ?_); rintro e w' ⟨rfl, ⟨nd, rfl⟩⟩; refine ⟨_, rfl, ?_⟩) | ((with_reducible refine zaq (f := 86) rfl ?_); refine zav (some 10) rfl rfl Try.func86 (by kernel_rfl) rfl #[.int .i64 a1] rfl (by (try simp only [List.map_toArray, List.map_cons, List.map_nil]); first | done | rfl | (simp only [List.length_drop, List.length_take]; rfl)) ?_; (with_reducible refine (cmp_isNaN_int.calls a1 false _ A4.out).mono ?_); rintro e w' ⟨rfl, ⟨nd, rfl⟩⟩; refine ⟨_, rfl, ?_⟩))
   go_ret
   exact ⟨by first | rfl | (simp; done) | (simp [*]; done), by repeat (first | exact Drawn0.refl _ | apply Drawn0.step)⟩
 ·replace c5 := Bool.eq_false_iff.mpr c5
  subst c5
  have H1 : (if t150 = true then (some 1) else (if a0 < a1 then (some (-1)) else (if a0 > a1 then (some 1) else (some 0)))) = some r := by rw [if_neg (show ¬ (false = true) by decide)] at H; exact H
  clear H
  have H := H1
  clear H1
  by_cases c7 : t150 = true
  ·subst c7
   have H1 : (some 1) = some r := by rw [if_pos rfl] at H; exact H
   clear H
   have H := H1
   clear H1
   obtain rfl := Option.some.inj H
   go_enter Try.func84, Try.ntmps84
   go_wp2_with (first | ((with_reducible refine zaq (f := 86) rfl ?_); refine zav (some 8) rfl rfl Try.func86 (by kernel_rfl) rfl #[.int .i64 a0] rfl (by (try simp only [List.map_toArray, List.map_cons, List.map_nil]); first | done | rfl | (simp only [List.length_drop, List.length_take]; rfl)) ?_; (with_reducible refine (cmp_isNaN_int.calls a0 false _ A3.out).mono ?_); rintro e w' ⟨rfl, ⟨nd, rfl⟩⟩; refine ⟨_, rfl, ?_⟩) | ((with_reducible refine zaq (f := 86) rfl ?_); refine zav (some 10) rfl rfl Try.func86 (by kernel_rfl) rfl #[.int .i64 a1] rfl (by (try simp only [List.map_toArray, List.map_cons, List.map_nil]); first | done | rfl | (simp only [List.length_drop, List.length_take]; rfl)) ?_; (with_reducible refine (cmp_isNaN_int.calls a1 true _ A4.out).mono ?_); rintro e w' ⟨rfl, ⟨nd, rfl⟩⟩; refine ⟨_, rfl, ?_⟩))
   go_ret
   exact ⟨by first | rfl | (simp; done) | (simp [*]; done), by repeat (first | exact Drawn0.refl _ | apply Drawn0.step)⟩
  ·replace c7 := Bool.eq_false_iff.mpr c7
   subst c7
   have H1 : (if a0 < a1 then (some (-1)) else (if a0 > a1 then (some 1) else (some 0))) = some r := by rw [if_neg (show ¬ (false = true) by decide)] at H; exact H
   clear H
   have H := H1
   clear H1
   by_cases c8 : a0 < a1
   ·rw [if_pos c8] at H
    have c8b0 : decide (a0 < a1) = true := decide_eq_true c8
    clear c8
    obtain rfl := Option.some.inj H
    go_enter Try.func84, Try.ntmps84
    go_wp2_with (first | ((with_reducible refine zaq (f := 86) rfl ?_); refine zav (some 8) rfl rfl Try.func86 (by kernel_rfl) rfl #[.int .i64 a0] rfl (by (try simp only [List.map_toArray, List.map_cons, List.map_nil]); first | done | rfl | (simp only [List.length_drop, List.length_take]; rfl)) ?_; (with_reducible refine (cmp_isNaN_int.calls a0 false _ A3.out).mono ?_); rintro e w' ⟨rfl, ⟨nd, rfl⟩⟩; refine ⟨_, rfl, ?_⟩) | ((with_reducible refine zaq (f := 86) rfl ?_); refine zav (some 10) rfl rfl Try.func86 (by kernel_rfl) rfl #[.int .i64 a1] rfl (by (try simp only [List.map_toArray, List.map_cons, List.map_nil]); first | done | rfl | (simp only [List.length_drop, List.length_take]; rfl)) ?_; (with_reducible refine (cmp_isNaN_int.calls a1 false _ A4.out).mono ?_); rintro e w' ⟨rfl, ⟨nd, rfl⟩⟩; refine ⟨_, rfl, ?_⟩))
    go_ret
    exact ⟨by first | rfl | (simp; done) | (simp [*]; done), by repeat (first | exact Drawn0.refl _ | apply Drawn0.step)⟩
   ·rw [if_neg c8] at H
    have c8b0 : decide (a0 < a1) = false := decide_eq_false c8
    clear c8
    by_cases c9 : a0 > a1
    ·rw [if_pos c9] at H
     have c9b0 : decide (a1 < a0) = true := decide_eq_true c9
     clear c9
     obtain rfl := Option.some.inj H
     go_enter Try.func84, Try.ntmps84
     go_wp2_with (first | ((with_reducible refine zaq (f := 86) rfl ?_); refine zav (some 8) rfl rfl Try.func86 (by kernel_rfl) rfl #[.int .i64 a0] rfl (by (try simp only [List.map_toArray, List.map_cons, List.map_nil]); first | done | rfl | (simp only [List.length_drop, List.length_take]; rfl)) ?_; (with_reducible refine (cmp_isNaN_int.calls a0 false _ A3.out).mono ?_); rintro e w' ⟨rfl, ⟨nd, rfl⟩⟩; refine ⟨_, rfl, ?_⟩) | ((with_reducible refine zaq (f := 86) rfl ?_); refine zav (some 10) rfl rfl Try.func86 (by kernel_rfl) rfl #[.int .i64 a1] rfl (by (try simp only [List.map_toArray, List.map_cons, List.map_nil]); first | done | rfl | (simp only [List.length_drop, List.length_take]; rfl)) ?_; (with_reducible refine (cmp_isNaN_int.calls a1 false _ A4.out).mono ?_); rintro e w' ⟨rfl, ⟨nd, rfl⟩⟩; refine ⟨_, rfl, ?_⟩))
     go_ret
     exact ⟨by first | rfl | (simp; done) | (simp [*]; done), by repeat (first | exact Drawn0.refl _ | apply Drawn0.step)⟩
    ·rw [if_neg c9] at H
     have c9b0 : decide (a1 < a0) = false := decide_eq_false c9
     clear c9
     obtain rfl := Option.some.inj H
     go_enter Try.func84, Try.ntmps84
     go_wp2_with (first | ((with_reducible refine zaq (f := 86) rfl ?_); refine zav (some 8) rfl rfl Try.func86 (by kernel_rfl) rfl #[.int .i64 a0] rfl (by (try simp only [List.map_toArray, List.map_cons, List.map_nil]); first | done | rfl | (simp only [List.length_drop, List.length_take]; rfl)) ?_; (with_reducible refine (cmp_isNaN_int.calls a0 false _ A3.out).mono ?_); rintro e w' ⟨rfl, ⟨nd, rfl⟩⟩; refine ⟨_, rfl, ?_⟩) | ((with_reducible refine zaq (f := 86) rfl ?_); refine zav (some 10) rfl rfl Try.func86 (by kernel_rfl) rfl #[.int .i64 a1] rfl (by (try simp only [List.map_toArray, List.map_cons, List.map_nil]); first | done | rfl | (simp only [List.length_drop, List.length_take]; rfl)) ?_; (with_reducible refine (cmp_isNaN_int.calls a1 false _ A4.out).mono ?_); rintro e w' ⟨rfl, ⟨nd, rfl⟩⟩; refine ⟨_, rfl, ?_⟩))
     go_ret
     exact ⟨by first | rfl | (simp; done) | (simp [*]; done), by repeat (first | exact Drawn0.refl _ | apply Drawn0.step)⟩
def cmp_isNaN_string.f (a0 : ByteArray) : Option (Bool) := some (a0.toList != a0.toList)
set_option maxHeartbeats 8000000 in
set_option maxRecDepth 100000 in
theorem cmp_isNaN_string.calls (a0 : ByteArray) (r : Bool) (w : World) (h : cmp_isNaN_string.f a0 = some r) :
  Calls Try.prog 87 #[.string a0] w fun e w' => e = .returned (.bool r) ∧ Drawn0 w w' := by
 have H : (some (a0.toList != a0.toList)) = some r := h
 clear h
 obtain rfl := Option.some.inj H
 go_enter Try.func87, Try.ntmps87
 go_wp2
 go_ret
 exact ⟨by first | rfl | (simp; done) | (simp [*]; done), by repeat (first | exact Drawn0.refl _ | apply Drawn0.step)⟩
def cmpS (a b : ByteArray) : Int := if Op.bytesLess a.toList b.toList = true then -1 else if (a.toList == b.toList) = true then 0 else 1
def cmp_Compare_string.f (a0 : ByteArray) (a1 : ByteArray) : Option Int := some (cmpS a0 a1)
set_option maxHeartbeats 4000000 in
set_option maxRecDepth 100000 in
theorem cmp_Compare_string.calls (a0 : ByteArray) (a1 : ByteArray) (r : Int) (w : World) (h : cmp_Compare_string.f a0 a1 = some r) :
  Calls Try.prog 85 #[.string a0, .string a1] w fun e w' => e = .returned (.int .i64 r) ∧ Drawn0 w w' := by
 obtain rfl := Option.some.inj h
 clear h
 have hN : ∀ s : ByteArray, cmp_isNaN_string.f s = some false := fun s => by
  unfold cmp_isNaN_string.f
  rw [bne_self_eq_false]
 have HN := Aside0.mk hN
 unfold cmpS
 obtain ⟨p, hp⟩ : ∃ p, Op.bytesLess a0.toList a1.toList = p := ⟨_, rfl⟩
 obtain ⟨q, hq⟩ : ∃ q, (a0.toList == a1.toList) = q := ⟨_, rfl⟩
 clear hN
 cases p <;> cases q
 all_goals
  go_enter Try.func85, Try.ntmps85
  go_wp2_with (first
   | (go_at_call 87; refine (cmp_isNaN_string.calls _ false _ (HN.out _)).mono ?_; rintro e w' ⟨rfl, ⟨nd, rfl⟩⟩))
  all_goals
   go_ret
   exact ⟨by simp [*], by repeat (first | exact Drawn0.refl _ | apply Drawn0.step)⟩
def value_Less.j0 : Nat → Bool → Int → Int → ByteArray → Int → Int → ByteArray → Option (Bool × Bool)
 | 0, _, _, _, _, _, _, _ => none
 | k + 1, x20, x152000, x152001, x152002, x153000, x153001, x153002 => if x20 = true then (some (false, false)) else ((cmp_Compare_int.f x152001 x153001).bind fun t155 => ((cmp_Compare_string.f x152002 x153002).bind fun t156 => ((cmp_Or_int.f k (([t155, t156] : List Int))).bind fun t160 => (some (decide (t160 < 0), true)))))
def value_Less.f (k : Nat) (a0_0 : Int) (a0_1 : Int) (a0_2 : ByteArray) (a1_0 : Int) (a1_1 : Int) (a1_2 : ByteArray) : Option (Bool × Bool) := (value_May.f a0_0 a0_1 a0_2).bind fun t153 => (if t153 = true then ((value_May.f a1_0 a1_1 a1_2).bind fun t154 => (if t154 = true then (value_Less.j0 k (a0_0 != a1_0) a0_0 a0_1 a0_2 a1_0 a1_1 a1_2) else (value_Less.j0 k true a0_0 a0_1 a0_2 a1_0 a1_1 a1_2))) else (value_Less.j0 k true a0_0 a0_1 a0_2 a1_0 a1_1 a1_2))
def value_Less.T3 : Bool × List (List Nat × List Nat) := (true, [([], []), ([0], [0]), ([], []), ([2], [2]), ([1, 3], [1, 3]), ([], []), ([5], [5]), ([], []), ([7], [7]), ([6, 8, 4], [6, 8]), ([4, 9], [4, 9]), ([10, 9], [10]), ([11], [11]), ([12, 11, 0, 1, 2, 3, 4, 5, 6, 7, 8, 9, 10, 11, 12], [12]), ([13, 0, 1, 2, 3, 4, 5, 6, 7, 8, 9, 10, 11, 12, 13], [])])
def value_Less.B3 : List Nat := [0, 1, 0, 4, 15, 0, 32, 0, 128, 511, 1023, 2047, 4095, 8191, 16383]
theorem value_Less.tab3 : rtab .any (opsOf Try.f81 3) = value_Less.T3 := by kernel_rfl
theorem value_Less.bits3 : waitsOk value_Less.T3.2 value_Less.B3 = true := by kernel_rfl
set_option maxHeartbeats 8000000 in
set_option maxRecDepth 100000 in
theorem value_Less.calls (k : Nat) (a0_0 : Int) (a0_1 : Int) (a0_2 : ByteArray) (a1_0 : Int) (a1_1 : Int) (a1_2 : ByteArray) (r1 : Bool) (r2 : Bool) (w : World) (h : value_Less.f k a0_0 a0_1 a0_2 a1_0 a1_1 a1_2 = some (r1, r2)) :
  Calls Try.prog 81 #[.agg #[.int .i64 a0_0, .int .i64 a0_1, .string a0_2], .agg #[.int .i64 a1_0, .int .i64 a1_1, .string a1_2]] w fun e w' => e = .returned (.tuple #[.bool r1, .bool r2]) ∧ Below w.heap.size w w' := by
 have hu73 := Try.underlying73
 have HB := Aside0.mk (Below.refl w.heap.size w)
 have H : ((value_May.f a0_0 a0_1 a0_2).bind fun t153 => (if t153 = true then ((value_May.f a1_0 a1_1 a1_2).bind fun t154 => (if t154 = true then (value_Less.j0 k (a0_0 != a1_0) a0_0 a0_1 a0_2 a1_0 a1_1 a1_2) else (value_Less.j0 k true a0_0 a0_1 a0_2 a1_0 a1_1 a1_2))) else (value_Less.j0 k true a0_0 a0_1 a0_2 a1_0 a1_1 a1_2))) = some (r1, r2) := h
 clear h
 have HC3 := Aside0.mk H
 clear H
 go_enter Try.func81, Try.ntmps81
 go_upto_region 1 with (first | ((with_reducible refine zat (N := 2) rfl ?_); refine zar ?hg (N := 2) ?hd (cs := #[.int .i64 a0_0, .int .i64 a0_1, .string a0_2]) (t := 73) ?hr ?_; (case hd => rfl); (case hg => rfl); (case hr => first | (go_simp; done) | (go_simp; rfl)); intro gb151 hg w4 hbox hb; have n0_ := Aside0.mk (zah (by repeat (first | (with_reducible first | exact HB.out | apply zaa | apply zac | apply zae) | exact HB.out)) hb); have n1_ := Aside0.mk (hbox); have n2_ := Aside0.mk ((by rw [hg]; exact (zan (by repeat (first | (with_reducible first | exact HB.out | apply zaa | apply zac | apply zae) | exact HB.out))) : w.heap.size ≤ gb151)); have n3_ := Aside0.mk ((by rw [hg]; exact (zan (by repeat (first | (with_reducible first | exact HB.out | apply zaa | apply zac | apply zae) | exact HB.out))) : w.heap.size ≤ gb151)); clear HB; have HB := n0_; have BK151 := n1_; have GW151 := n2_; have GE151 := n3_; clear n0_ n1_ n2_ n3_; clear hb hbox hg) | ((with_reducible refine zat (N := 3) rfl ?_); refine zar ?hg (N := 3) ?hd (cs := #[.int .i64 a1_0, .int .i64 a1_1, .string a1_2]) (t := 73) ?hr ?_; (case hd => rfl); (case hg => rfl); (case hr => first | (go_simp; done) | (go_simp; rfl)); intro gb152 hg w5 hbox hb; have n0_ := Aside0.mk (zak (g := gb151) (o := .cells #[.int .i64 a0_0, .int .i64 a0_1, .string a0_2] 73 (0, 0)) (by (with_reducible repeat (first | refine zai ?_ _ | refine zaj ?_ | refine zag ?_ _)); exact BK151.out) hb); have n1_ := Aside0.mk (zah (by repeat (first | (with_reducible first | exact HB.out | apply zaa | apply zac | apply zae | refine zaf ?_ GE151.out) | exact HB.out)) hb); have n2_ := Aside0.mk (hbox); have n3_ := Aside0.mk ((by rw [hg]; exact (zan (by repeat (first | (with_reducible first | exact HB.out | apply zaa | apply zac | apply zae | refine zaf ?_ GE151.out) | exact HB.out))) : w.heap.size ≤ gb152)); have n4_ := Aside0.mk ((by rw [hg]; exact (zan (by repeat (first | (with_reducible first | exact HB.out | apply zaa | apply zac | apply zae | refine zaf ?_ GE151.out) | exact HB.out))) : w.heap.size ≤ gb152)); have n5_ := Aside0.mk ((by rw [hg]; exact Nat.ne_of_lt (zay (g := gb151) (o := .cells #[.int .i64 a0_0, .int .i64 a0_1, .string a0_2] 73 (0, 0)) (by (with_reducible repeat (first | refine zai ?_ _ | refine zaj ?_ | refine zag ?_ _)); exact BK151.out)) : gb151 ≠ gb152)); have n6_ := Aside0.mk ((by rw [hg]; exact Nat.ne_of_gt (zay (g := gb151) (o := .cells #[.int .i64 a0_0, .int .i64 a0_1, .string a0_2] 73 (0, 0)) (by (with_reducible repeat (first | refine zai ?_ _ | refine zaj ?_ | refine zag ?_ _)); exact BK151.out)) : gb152 ≠ gb151)); clear BK151; clear HB; have BK151 := n0_; have HB := n1_; have BK152 := n2_; have GW152 := n3_; have GE152 := n4_; have NB151_152 := n5_; have NB152_151 := n6_; clear n0_ n1_ n2_ n3_ n4_ n5_ n6_; clear hb hbox hg))
 (try simp only [Act.put, List.setIfInBounds_toArray, List.set_cons_zero, List.set_cons_succ])
 go_cut [20] (fun v20 wc => ∃ (kq : Nat) (x20_2 : Bool), v20 = .bool x20_2 ∧ Aside0 (value_Less.j0 kq x20_2 a0_0 a0_1 a0_2 a1_0 a1_1 a1_2 = some (r1, r2)) ∧ Aside0 (kq ≤ k) ∧ Aside0 (wc.heap[gb151]? = some (.cells #[.int .i64 a0_0, .int .i64 a0_1, .string a0_2] 73 (0, 0))) ∧ Aside0 (wc.heap[gb152]? = some (.cells #[.int .i64 a1_0, .int .i64 a1_1, .string a1_2] 73 (0, 0))) ∧ Aside0 (Below w.heap.size w wc))
 case first =>
  have H := HC3.out
  clear HC3
  replace H := Option.bind_eq_some_iff.mp H
  obtain ⟨t153, A60, H⟩ := H
  replace H : (if t153 = true then ((value_May.f a1_0 a1_1 a1_2).bind fun t154 => (if t154 = true then (value_Less.j0 k (a0_0 != a1_0) a0_0 a0_1 a0_2 a1_0 a1_1 a1_2) else (value_Less.j0 k true a0_0 a0_1 a0_2 a1_0 a1_1 a1_2))) else (value_Less.j0 k true a0_0 a0_1 a0_2 a1_0 a1_1 a1_2)) = some (r1, r2) := H
  have A6 := Aside0.mk A60
  clear A60
  by_cases c7 : t153 = true
  ·subst c7
   have H1 : ((value_May.f a1_0 a1_1 a1_2).bind fun t154 => (if t154 = true then (value_Less.j0 k (a0_0 != a1_0) a0_0 a0_1 a0_2 a1_0 a1_1 a1_2) else (value_Less.j0 k true a0_0 a0_1 a0_2 a1_0 a1_1 a1_2))) = some (r1, r2) := by rw [if_pos rfl] at H; exact H
   clear H
   have H := H1
   clear H1
   replace H := Option.bind_eq_some_iff.mp H
   obtain ⟨t154, A80, H⟩ := H
   replace H : (if t154 = true then (value_Less.j0 k (a0_0 != a1_0) a0_0 a0_1 a0_2 a1_0 a1_1 a1_2) else (value_Less.j0 k true a0_0 a0_1 a0_2 a1_0 a1_1 a1_2)) = some (r1, r2) := H
   have A8 := Aside0.mk A80
   clear A80
   by_cases c9 : t154 = true
   ·subst c9
    have H1 : (value_Less.j0 k (a0_0 != a1_0) a0_0 a0_1 a0_2 a1_0 a1_1 a1_2) = some (r1, r2) := by rw [if_pos rfl] at H; exact H
    clear H
    have H := H1
    clear H1
    have H' := Aside0.mk H
    clear H
    have hnb10 := NB151_152.out
    have hnc10 := NB152_151.out
    have hcz11_0 : w5.cell? ⟨gb151, 0, none⟩ = some (.int .i64 a0_0) := (zad BK151.out 0).trans rfl
    have hcz11_1 : w5.cell? ⟨gb151, 1, none⟩ = some (.int .i64 a0_1) := (zad BK151.out 1).trans rfl
    have hcz11_2 : w5.cell? ⟨gb151, 2, none⟩ = some (.string a0_2) := (zad BK151.out 2).trans rfl
    have hfz11_0 := zab BK151.out 0
    have hfz11_1 := zab BK151.out 1
    have hfz11_2 := zab BK151.out 2
    go_wp2_with (first | ((with_reducible refine zaq (f := 66) rfl ?_); refine zav (some 7) rfl rfl Try.func66 (by kernel_rfl) rfl #[.agg #[.int .i64 a0_0, .int .i64 a0_1, .string a0_2]] rfl (by (try simp only [List.map_toArray, List.map_cons, List.map_nil]); first | done | rfl | (simp only [List.length_drop, List.length_take]; rfl)) ?_; (with_reducible refine (value_May.calls a0_0 a0_1 a0_2 true _ A6.out).mono ?_); rintro e w12 ⟨rfl, hb⟩; refine ⟨_, rfl, ?_⟩; have n0_ := Aside0.mk (zak (g := gb151) (o := .cells #[.int .i64 a0_0, .int .i64 a0_1, .string a0_2] 73 (0, 0)) (by (with_reducible repeat (first | refine zai ?_ _ | refine zaj ?_ | refine zag ?_ _)); exact BK151.out) hb); have n1_ := Aside0.mk (zak (g := gb152) (o := .cells #[.int .i64 a1_0, .int .i64 a1_1, .string a1_2] 73 (0, 0)) (by (with_reducible repeat (first | refine zai ?_ _ | refine zaj ?_ | refine zag ?_ _)); exact BK152.out) hb); have n2_ := Aside0.mk (zah (by repeat (first | (with_reducible first | exact HB.out | apply zaa | apply zac | apply zae | refine zaf ?_ GE151.out | refine zaf ?_ GE152.out) | exact HB.out)) hb); clear BK151; clear BK152; clear HB; have BK151 := n0_; have BK152 := n1_; have HB := n2_; clear n0_ n1_ n2_; (try clear hb); (try clear hb2); (try clear hk); (try clear hi); have hcz13_0 : w12.cell? ⟨gb152, 0, none⟩ = some (.int .i64 a1_0) := (zad BK152.out 0).trans rfl; have hcz13_1 : w12.cell? ⟨gb152, 1, none⟩ = some (.int .i64 a1_1) := (zad BK152.out 1).trans rfl; have hcz13_2 : w12.cell? ⟨gb152, 2, none⟩ = some (.string a1_2) := (zad BK152.out 2).trans rfl; have hfz13_0 := zab BK152.out 0; have hfz13_1 := zab BK152.out 1; have hfz13_2 := zab BK152.out 2) | (go_at_call 66; (with_reducible refine (value_May.calls a1_0 a1_1 a1_2 true _ A8.out).mono ?_); rintro e w14 ⟨rfl, hb⟩; have n0_ := Aside0.mk (zak (g := gb151) (o := .cells #[.int .i64 a0_0, .int .i64 a0_1, .string a0_2] 73 (0, 0)) (by (with_reducible repeat (first | refine zai ?_ _ | refine zaj ?_ | refine zag ?_ _)); exact BK151.out) hb); have n1_ := Aside0.mk (zak (g := gb152) (o := .cells #[.int .i64 a1_0, .int .i64 a1_1, .string a1_2] 73 (0, 0)) (by (with_reducible repeat (first | refine zai ?_ _ | refine zaj ?_ | refine zag ?_ _)); exact BK152.out) hb); have n2_ := Aside0.mk (zah (by repeat (first | (with_reducible first | exact HB.out | apply zaa | apply zac | apply zae | refine zaf ?_ GE151.out | refine zaf ?_ GE152.out) | exact HB.out)) hb); clear BK151; clear BK152; clear HB; have BK151 := n0_; have BK152 := n1_; have HB := n2_; clear n0_ n1_ n2_; (try clear hb); (try clear hb2); (try clear hk); (try clear hi); have hcz15_0 : w14.cell? ⟨gb151, 0, none⟩ = some (.int .i64 a0_0) := (zad BK151.out 0).trans rfl; have hcz15_1 : w14.cell? ⟨gb151, 1, none⟩ = some (.int .i64 a0_1) := (zad BK151.out 1).trans rfl; have hcz15_2 : w14.cell? ⟨gb151, 2, none⟩ = some (.string a0_2) := (zad BK151.out 2).trans rfl; have hfz15_0 := zab BK151.out 0; have hfz15_1 := zab BK151.out 1; have hfz15_2 := zab BK151.out 2; have hcz16_0 : w14.cell? ⟨gb152, 0, none⟩ = some (.int .i64 a1_0) := (zad BK152.out 0).trans rfl; have hcz16_1 : w14.cell? ⟨gb152, 1, none⟩ = some (.int .i64 a1_1) := (zad BK152.out 1).trans rfl; have hcz16_2 : w14.cell? ⟨gb152, 2, none⟩ = some (.string a1_2) := (zad BK152.out 2).trans rfl; have hfz16_0 := zab BK152.out 0; have hfz16_1 := zab BK152.out 1; have hfz16_2 := zab BK152.out 2))
    go_meet
    case rel => exact ⟨_, ((a0_0 != a1_0)), (by first | rfl | (simp; done) | (simp [*]; done)), H', ⟨by first | omega | exact Nat.le_refl _⟩, ⟨by (with_reducible repeat (first | refine zai ?_ _ | refine zaj ?_ | refine zag ?_ _)); exact BK151.out⟩, ⟨by (with_reducible repeat (first | refine zai ?_ _ | refine zaj ?_ | refine zag ?_ _)); exact BK152.out⟩, ⟨by repeat (first | (with_reducible first | exact HB.out | apply zaa | apply zac | apply zae | refine zaf ?_ GE151.out | refine zaf ?_ GE152.out) | exact HB.out)⟩⟩
   ·replace c9 := Bool.eq_false_iff.mpr c9
    subst c9
    have H1 : (value_Less.j0 k true a0_0 a0_1 a0_2 a1_0 a1_1 a1_2) = some (r1, r2) := by rw [if_neg (show ¬ (false = true) by decide)] at H; exact H
    clear H
    have H := H1
    clear H1
    have H' := Aside0.mk H
    clear H
    have hnb17 := NB151_152.out
    have hnc17 := NB152_151.out
    have hcz18_0 : w5.cell? ⟨gb151, 0, none⟩ = some (.int .i64 a0_0) := (zad BK151.out 0).trans rfl
    have hcz18_1 : w5.cell? ⟨gb151, 1, none⟩ = some (.int .i64 a0_1) := (zad BK151.out 1).trans rfl
    have hcz18_2 : w5.cell? ⟨gb151, 2, none⟩ = some (.string a0_2) := (zad BK151.out 2).trans rfl
    have hfz18_0 := zab BK151.out 0
    have hfz18_1 := zab BK151.out 1
    have hfz18_2 := zab BK151.out 2
    go_wp2_with (first | ((with_reducible refine zaq (f := 66) rfl ?_); refine zav (some 7) rfl rfl Try.func66 (by kernel_rfl) rfl #[.agg #[.int .i64 a0_0, .int .i64 a0_1, .string a0_2]] rfl (by (try simp only [List.map_toArray, List.map_cons, List.map_nil]); first | done | rfl | (simp only [List.length_drop, List.length_take]; rfl)) ?_; (with_reducible refine (value_May.calls a0_0 a0_1 a0_2 true _ A6.out).mono ?_); rintro e w19 ⟨rfl, hb⟩; refine ⟨_, rfl, ?_⟩; have n0_ := Aside0.mk (zak (g := gb151) (o := .cells #[.int .i64 a0_0, .int .i64 a0_1, .string a0_2] 73 (0, 0)) (by (with_reducible repeat (first | refine zai ?_ _ | refine zaj ?_ | refine zag ?_ _)); exact BK151.out) hb); have n1_ := Aside0.mk (zak (g := gb152) (o := .cells #[.int .i64 a1_0, .int .i64 a1_1, .string a1_2] 73 (0, 0)) (by (with_reducible repeat (first | refine zai ?_ _ | refine zaj ?_ | refine zag ?_ _)); exact BK152.out) hb); have n2_ := Aside0.mk (zah (by repeat (first | (with_reducible first | exact HB.out | apply zaa | apply zac | apply zae | refine zaf ?_ GE151.out | refine zaf ?_ GE152.out) | exact HB.out)) hb); clear BK151; clear BK152; clear HB; have BK151 := n0_; have BK152 := n1_; have HB := n2_; clear n0_ n1_ n2_; (try clear hb); (try clear hb2); (try clear hk); (try clear hi); have hcz20_0 : w19.cell? ⟨gb152, 0, none⟩ = some (.int .i64 a1_0) := (zad BK152.out 0).trans rfl; have hcz20_1 : w19.cell? ⟨gb152, 1, none⟩ = some (.int .i64 a1_1) := (zad BK152.out 1).trans rfl; have hcz20_2 : w19.cell? ⟨gb152, 2, none⟩ = some (.string a1_2) := (zad BK152.out 2).trans rfl; have hfz20_0 := zab BK152.out 0; have hfz20_1 := zab BK152.out 1; have hfz20_2 := zab BK152.out 2) | (go_at_call 66; (with_reducible refine (value_May.calls a1_0 a1_1 a1_2 false _ A8.out).mono ?_); rintro e w21 ⟨rfl, hb⟩; have n0_ := Aside0.mk (zak (g := gb151) (o := .cells #[.int .i64 a0_0, .int .i64 a0_1, .string a0_2] 73 (0, 0)) (by (with_reducible repeat (first | refine zai ?_ _ | refine zaj ?_ | refine zag ?_ _)); exact BK151.out) hb); have n1_ := Aside0.mk (zak (g := gb152) (o := .cells #[.int .i64 a1_0, .int .i64 a1_1, .string a1_2] 73 (0, 0)) (by (with_reducible repeat (first | refine zai ?_ _ | refine zaj ?_ | refine zag ?_ _)); exact BK152.out) hb); have n2_ := Aside0.mk (zah (by repeat (first | (with_reducible first | exact HB.out | apply zaa | apply zac | apply zae | refine zaf ?_ GE151.out | refine zaf ?_ GE152.out) | exact HB.out)) hb); clear BK151; clear BK152; clear HB; have BK151 := n0_; have BK152 := n1_; have HB := n2_; clear n0_ n1_ n2_; (try clear hb); (try clear hb2); (try clear hk); (try clear hi)))
    go_meet
    case rel => exact ⟨_, (true), (by first | rfl | (simp; done) | (simp [*]; done)), H', ⟨by first | omega | exact Nat.le_refl _⟩, ⟨by (with_reducible repeat (first | refine zai ?_ _ | refine zaj ?_ | refine zag ?_ _)); exact BK151.out⟩, ⟨by (with_reducible repeat (first | refine zai ?_ _ | refine zaj ?_ | refine zag ?_ _)); exact BK152.out⟩, ⟨by repeat (first | (with_reducible first | exact HB.out | apply zaa | apply zac | apply zae | refine zaf ?_ GE151.out | refine zaf ?_ GE152.out) | exact HB.out)⟩⟩
  ·replace c7 := Bool.eq_false_iff.mpr c7
   subst c7
   have H1 : (value_Less.j0 k true a0_0 a0_1 a0_2 a1_0 a1_1 a1_2) = some (r1, r2) := by rw [if_neg (show ¬ (false = true) by decide)] at H; exact H
   clear H
   have H := H1
   clear H1
   have H' := Aside0.mk H
   clear H
   have hnb22 := NB151_152.out
   have hnc22 := NB152_151.out
   have hcz23_0 : w5.cell? ⟨gb151, 0, none⟩ = some (.int .i64 a0_0) := (zad BK151.out 0).trans rfl
   have hcz23_1 : w5.cell? ⟨gb151, 1, none⟩ = some (.int .i64 a0_1) := (zad BK151.out 1).trans rfl
   have hcz23_2 : w5.cell? ⟨gb151, 2, none⟩ = some (.string a0_2) := (zad BK151.out 2).trans rfl
   have hfz23_0 := zab BK151.out 0
   have hfz23_1 := zab BK151.out 1
   have hfz23_2 := zab BK151.out 2
   go_wp2_with (first | ((with_reducible refine zaq (f := 66) rfl ?_); refine zav (some 7) rfl rfl Try.func66 (by kernel_rfl) rfl #[.agg #[.int .i64 a0_0, .int .i64 a0_1, .string a0_2]] rfl (by (try simp only [List.map_toArray, List.map_cons, List.map_nil]); first | done | rfl | (simp only [List.length_drop, List.length_take]; rfl)) ?_; (with_reducible refine (value_May.calls a0_0 a0_1 a0_2 false _ A6.out).mono ?_); rintro e w24 ⟨rfl, hb⟩; refine ⟨_, rfl, ?_⟩; have n0_ := Aside0.mk (zak (g := gb151) (o := .cells #[.int .i64 a0_0, .int .i64 a0_1, .string a0_2] 73 (0, 0)) (by (with_reducible repeat (first | refine zai ?_ _ | refine zaj ?_ | refine zag ?_ _)); exact BK151.out) hb); have n1_ := Aside0.mk (zak (g := gb152) (o := .cells #[.int .i64 a1_0, .int .i64 a1_1, .string a1_2] 73 (0, 0)) (by (with_reducible repeat (first | refine zai ?_ _ | refine zaj ?_ | refine zag ?_ _)); exact BK152.out) hb); have n2_ := Aside0.mk (zah (by repeat (first | (with_reducible first | exact HB.out | apply zaa | apply zac | apply zae | refine zaf ?_ GE151.out | refine zaf ?_ GE152.out) | exact HB.out)) hb); clear BK151; clear BK152; clear HB; have BK151 := n0_; have BK152 := n1_; have HB := n2_; clear n0_ n1_ n2_; (try clear hb); (try clear hb2); (try clear hk); (try clear hi)))
   go_meet
   case rel => exact ⟨_, (true), (by first | rfl | (simp; done) | (simp [*]; done)), H', ⟨by first | omega | exact Nat.le_refl _⟩, ⟨by (with_reducible repeat (first | refine zai ?_ _ | refine zaj ?_ | refine zag ?_ _)); exact BK151.out⟩, ⟨by (with_reducible repeat (first | refine zai ?_ _ | refine zaj ?_ | refine zag ?_ _)); exact BK152.out⟩, ⟨by repeat (first | (with_reducible first | exact HB.out | apply zaa | apply zac | apply zae | refine zaf ?_ GE151.out | refine zaf ?_ GE152.out) | exact HB.out)⟩⟩
 case rest =>
  clear HC3
  try clear c1
  try clear c2
  try clear p2
  try clear c6
  try clear c7
  try clear c8
  try clear c9
  try clear c10
  try clear c17
  try clear c22
  try clear hcz11_0
  try clear hcz11_1
  try clear hcz11_2
  try clear hcz13_0
  try clear hcz13_1
  try clear hcz13_2
  try clear hcz15_0
  try clear hcz15_1
  try clear hcz15_2
  try clear hcz16_0
  try clear hcz16_1
  try clear hcz16_2
  try clear hcz18_0
  try clear hcz18_1
  try clear hcz18_2
  try clear hcz20_0
  try clear hcz20_1
  try clear hcz20_2
  try clear hcz23_0
  try clear hcz23_1
  try clear hcz23_2
  try clear hfz11_0
  try clear hfz11_1
  try clear hfz11_2
  try clear hfz13_0
  try clear hfz13_1
  try clear hfz13_2
  try clear hfz15_0
  try clear hfz15_1
  try clear hfz15_2
  try clear hfz16_0
  try clear hfz16_1
  try clear hfz16_2
  try clear hfz18_0
  try clear hfz18_1
  try clear hfz18_2
  try clear hfz20_0
  try clear hfz20_1
  try clear hfz20_2
  try clear hfz23_0
  try clear hfz23_1
  try clear hfz23_2
  obtain ⟨kq, x20_2, rfl, HA, HJ2, BK151, BK152, HB⟩ := hcut
  cases kq with
  | zero => exact absurd HA.out (by simp [value_Less.j0])
  | succ kj2 =>
   have H := HA.out
   clear HA
   simp only [value_Less.j0] at H
   by_cases c25 : x20_2 = true
   ·subst c25
    have H1 : (some (false, false)) = some (r1, r2) := by rw [if_pos rfl] at H; exact H
    clear H
    have H := H1
    clear H1
    simp only [Option.some.injEq, Prod.mk.injEq] at H
    obtain ⟨rfl, rfl⟩ := H
    go_wp2
    go_ret2
    exact ⟨by first | rfl | (simp [zap, zao] <;> rfl) | (simp [*, zap, zao] <;> rfl), by repeat (first | (with_reducible first | exact HB.out | apply zaa | apply zac | apply zae | refine zaf ?_ GE151.out | refine zaf ?_ GE152.out) | exact HB.out)⟩
   ·replace c25 := Bool.eq_false_iff.mpr c25
    subst c25
    have H1 : ((cmp_Compare_int.f a0_1 a1_1).bind fun t155 => ((cmp_Compare_string.f a0_2 a1_2).bind fun t156 => ((cmp_Or_int.f kj2 (([t155, t156] : List Int))).bind fun t160 => (some (decide (t160 < 0), true))))) = some (r1, r2) := by rw [if_neg (show ¬ (false = true) by decide)] at H; exact H
    clear H
    have H := H1
    clear H1
    replace H := Option.bind_eq_some_iff.mp H
    obtain ⟨t155, A260, H⟩ := H
    replace H : ((cmp_Compare_string.f a0_2 a1_2).bind fun t156 => ((cmp_Or_int.f kj2 (([t155, t156] : List Int))).bind fun t160 => (some (decide (t160 < 0), true)))) = some (r1, r2) := H
    have A26 := Aside0.mk A260
    clear A260
    replace H := Option.bind_eq_some_iff.mp H
    obtain ⟨t156, A270, H⟩ := H
    replace H : ((cmp_Or_int.f kj2 (([t155, t156] : List Int))).bind fun t160 => (some (decide (t160 < 0), true))) = some (r1, r2) := H
    have A27 := Aside0.mk A270
    clear A270
    obtain ⟨y157, hy157⟩ : ∃ y_ : List Int, y_ = (([t155, t156] : List Int)) := ⟨_, rfl⟩
    replace H : ((cmp_Or_int.f kj2 y157).bind fun t160 => (some (decide (t160 < 0), true))) = some (r1, r2) := by first | (rw [hy157]; with_reducible exact H) | (have H2_ := (Option.bind_some _ _).symm.trans H; rw [hy157]; with_reducible exact H2_) | (have H2_ := (Option.bind_some _ _).symm.trans H; with_reducible exact H2_) | with_reducible exact H | (rw [hy157]; exact H) | exact H
    have Ny157 := Aside0.mk hy157
    clear hy157
    replace H := Option.bind_eq_some_iff.mp H
    obtain ⟨t160, A280, H⟩ := H
    replace H : (some (decide (t160 < 0), true)) = some (r1, r2) := H
    have A28 := Aside0.mk A280
    clear A280
    simp only [Option.some.injEq, Prod.mk.injEq] at H
    obtain ⟨rfl, rfl⟩ := H
    try go_wp2
    have n0_ := Aside0.mk (zaj BK151.out)
    have n1_ := Aside0.mk (zaj BK152.out)
    have n2_ := Aside0.mk (zae HB.out)
    clear BK151
    clear BK152
    clear HB
    have BK151 := n0_
    have BK152 := n1_
    have HB := n2_
    clear n0_ n1_ n2_
    refine start_ (n := 15) (S := fun w' => w'.cell? ⟨gb151, 0, none⟩ = some (.int .i64 a0_0) ∧ w'.cell? ⟨gb151, 1, none⟩ = some (.int .i64 a0_1) ∧ w'.cell? ⟨gb151, 2, none⟩ = some (.string a0_2) ∧ w'.cell? ⟨gb152, 0, none⟩ = some (.int .i64 a1_0) ∧ w'.cell? ⟨gb152, 1, none⟩ = some (.int .i64 a1_1) ∧ w'.cell? ⟨gb152, 2, none⟩ = some (.string a1_2)) (ds := []) #[false, false, false, false, false, false, false, false, false, false, false, false, false, false, false] (by kernel_rfl) rfl rfl ⟨(zad BK151.out 0).trans rfl, (zad BK151.out 1).trans rfl, (zad BK151.out 2).trans rfl, (zad BK152.out 0).trans rfl, (zad BK152.out 1).trans rfl, (zad BK152.out 2).trans rfl⟩ (fun hHeld => ?_); refine with_tabW value_Less.tab3 value_Less.bits3 (fun HT_ HW_ => ?_)
    generalize wc.drew = w29 at BK151 BK152 HB hHeld ⊢
    refine zaX (i := 0) (N := some 21) (v := ?_) (a' := ?_) #[true, false, false, false, false, false, false, false, false, false, false, false, false, false, false] rfl rfl (zaG HT_.out (by kernel_rfl)) (fun _ _ _ h => h) (Or.inl ⟨by rfl, ?_⟩) ?_ ?_
    rotate_left
    ·intro w'
     go_simp
     with_reducible rfl
    rotate_left
    ·simp only [Act.put, List.setIfInBounds_toArray, List.set_cons_zero, List.set_cons_succ, zaE, zaF]
     rfl
    refine zaX (i := 2) (N := some 23) (v := ?_) (a' := ?_) #[true, false, true, false, false, false, false, false, false, false, false, false, false, false, false] rfl rfl (zaG HT_.out (by kernel_rfl)) (fun _ _ _ h => h) (Or.inl ⟨by rfl, ?_⟩) ?_ ?_
    rotate_left
    ·intro w'
     go_simp
     with_reducible rfl
    rotate_left
    ·simp only [Act.put, List.setIfInBounds_toArray, List.set_cons_zero, List.set_cons_succ, zaE, zaF]
     rfl
    refine zaX (i := 5) (N := some 26) (v := ?_) (a' := ?_) #[true, false, true, false, false, true, false, false, false, false, false, false, false, false, false] rfl rfl (zaG HT_.out (by kernel_rfl)) (fun _ _ _ h => h) (Or.inl ⟨by rfl, ?_⟩) ?_ ?_
    rotate_left
    ·intro w'
     go_simp
     with_reducible rfl
    rotate_left
    ·simp only [Act.put, List.setIfInBounds_toArray, List.set_cons_zero, List.set_cons_succ, zaE, zaF]
     rfl
    refine zaX (i := 7) (N := some 28) (v := ?_) (a' := ?_) #[true, false, true, false, false, true, false, true, false, false, false, false, false, false, false] rfl rfl (zaG HT_.out (by kernel_rfl)) (fun _ _ _ h => h) (Or.inl ⟨by rfl, ?_⟩) ?_ ?_
    rotate_left
    ·intro w'
     go_simp
     with_reducible rfl
    rotate_left
    ·simp only [Act.put, List.setIfInBounds_toArray, List.set_cons_zero, List.set_cons_succ, zaE, zaF]
     rfl
    refine take_ (i := 1) (N := some 22) (v := ?_) (a' := ?_) #[true, true, true, false, false, true, false, true, false, false, false, false, false, false, false] rfl rfl (take_ofW HT_.out HW_.out (by kernel_rfl)) (fun _ _ _ h => h) (Or.inl ⟨by rfl, ?_⟩) hHeld ?_ ?_
    rotate_left
    ·rintro w' ⟨s0, s1, s2, s3, s4, s5⟩
     go_simp
     with_reducible rfl
    rotate_left
    ·simp only [Act.put, List.setIfInBounds_toArray, List.set_cons_zero, List.set_cons_succ, zaE, zaF]
     rfl
    refine take_ (i := 3) (N := some 24) (v := ?_) (a' := ?_) #[true, true, true, true, false, true, false, true, false, false, false, false, false, false, false] rfl rfl (take_ofW HT_.out HW_.out (by kernel_rfl)) (fun _ _ _ h => h) (Or.inl ⟨by rfl, ?_⟩) hHeld ?_ ?_
    rotate_left
    ·rintro w' ⟨s0, s1, s2, s3, s4, s5⟩
     go_simp
     with_reducible rfl
    rotate_left
    ·simp only [Act.put, List.setIfInBounds_toArray, List.set_cons_zero, List.set_cons_succ, zaE, zaF]
     rfl
    refine take_ (i := 6) (N := some 27) (v := ?_) (a' := ?_) #[true, true, true, true, false, true, true, true, false, false, false, false, false, false, false] rfl rfl (take_ofW HT_.out HW_.out (by kernel_rfl)) (fun _ _ _ h => h) (Or.inl ⟨by rfl, ?_⟩) hHeld ?_ ?_
    rotate_left
    ·rintro w' ⟨s0, s1, s2, s3, s4, s5⟩
     go_simp
     with_reducible rfl
    rotate_left
    ·simp only [Act.put, List.setIfInBounds_toArray, List.set_cons_zero, List.set_cons_succ, zaE, zaF]
     rfl
    refine take_ (i := 8) (N := some 29) (v := ?_) (a' := ?_) #[true, true, true, true, false, true, true, true, true, false, false, false, false, false, false] rfl rfl (take_ofW HT_.out HW_.out (by kernel_rfl)) (fun _ _ _ h => h) (Or.inl ⟨by rfl, ?_⟩) hHeld ?_ ?_
    rotate_left
    ·rintro w' ⟨s0, s1, s2, s3, s4, s5⟩
     go_simp
     with_reducible rfl
    rotate_left
    ·simp only [Act.put, List.setIfInBounds_toArray, List.set_cons_zero, List.set_cons_succ, zaE, zaF]
     rfl
    refine one_ (i := 4) (N := some 25) #[true, true, true, true, true, true, true, true, true, false, false, false, false, false, false] rfl rfl (one_of HT_.out (by kernel_rfl)) (by decide) (fun K hK => ?_)
    refine goes_ Try.func84 (by kernel_rfl) rfl #[.int .i64 a0_1, .int .i64 a1_1] (by rfl) rfl rfl (by (try simp only [List.map_toArray, List.map_cons, List.map_nil]); first | done | rfl | (simp only [List.length_drop, List.length_take]; rfl)) ?_
    with_reducible refine (cmp_Compare_int.calls a0_1 a1_1 t155 _ A26.out).mono ?_
    rintro e w' ⟨rfl, ⟨nd, rfl⟩⟩
    refine ⟨_, rfl, ?_⟩
    refine hK.out _ _ ⟨(zad BK151.out 0).trans rfl, (zad BK151.out 1).trans rfl, (zad BK151.out 2).trans rfl, (zad BK152.out 0).trans rfl, (zad BK152.out 1).trans rfl, (zad BK152.out 2).trans rfl⟩ (fun hHeld => ?_)
    clear hK K
    refine norm_ (a' := ?_) ?_ ?_
    rotate_left
    ·show Act.put _ (some 25) _ = _
     simp only [Act.put, List.setIfInBounds_toArray, List.set_cons_zero, List.set_cons_succ, zaE, zaF]
     rfl
    refine one_ (i := 9) (N := some 30) #[true, true, true, true, true, true, true, true, true, true, false, false, false, false, false] rfl rfl (one_of HT_.out (by kernel_rfl)) (by decide) (fun K hK => ?_)
    refine goes_ Try.func85 (by kernel_rfl) rfl #[.string a0_2, .string a1_2] (by rfl) rfl rfl (by (try simp only [List.map_toArray, List.map_cons, List.map_nil]); first | done | rfl | (simp only [List.length_drop, List.length_take]; rfl)) ?_
    with_reducible refine (cmp_Compare_string.calls a0_2 a1_2 t156 _ A27.out).mono ?_
    rintro e w' ⟨rfl, ⟨nd, rfl⟩⟩
    refine ⟨_, rfl, ?_⟩
    refine hK.out _ _ ⟨(zad BK151.out 0).trans rfl, (zad BK151.out 1).trans rfl, (zad BK151.out 2).trans rfl, (zad BK152.out 0).trans rfl, (zad BK152.out 1).trans rfl, (zad BK152.out 2).trans rfl⟩ (fun hHeld => ?_)
    clear hK K
    refine norm_ (a' := ?_) ?_ ?_
    rotate_left
    ·show Act.put _ (some 30) _ = _
     simp only [Act.put, List.setIfInBounds_toArray, List.set_cons_zero, List.set_cons_succ, zaE, zaF]
     rfl
    refine one_ (i := 10) (N := some 31) #[true, true, true, true, true, true, true, true, true, true, true, false, false, false, false] rfl rfl (one_of HT_.out (by kernel_rfl)) (by decide) (fun K hK => ?_)
    refine Kd.R_lit_step (Kd.int .i64) _ 3 ?hg (N := 31) ?hd (xs := ([t155, t156] : List Int)) (inner := [.int .i64 t155, .int .i64 t156]) (ok := fun _ => True) (okp := fun _ => True) ?hr ?hp (fun _ hk => hk) trivial (Below.refl _ _) (Nat.le_refl _) (by simp) ?_; (case hd => rfl); (case hg => rfl); (case hr => first | (go_simp; done) | (go_simp; rfl)); (case hp => exact (Reps.one (show Kd.M (Kd.int .i64) _ _ _ t155 [.int .i64 t155] from rfl) (Reps.one (show Kd.M (Kd.int .i64) _ _ _ t156 [.int .i64 t156] from rfl) (Reps.none _ _))))
    intro v158 w30 ho31 hb hg_ hnew_
    clear hg_ hnew_
    (first | rw [← Ny157.out] at ho31 | (simp only [Int.reduceToNat] at ho31; rw [← Ny157.out] at ho31))
    have n0_ := Aside0.mk (Kd.R_lower ho31 (zan (by repeat (first | (with_reducible first | exact HB.out | apply zaa | apply zac | apply zae | refine zaf ?_ GE151.out | refine zaf ?_ GE152.out) | exact HB.out))))
    have n1_ := Aside0.mk (zak (g := gb151) (o := .cells #[.int .i64 a0_0, .int .i64 a0_1, .string a0_2] 73 (0, 0)) (by (with_reducible repeat (first | refine zai ?_ _ | refine zaj ?_ | refine zag ?_ _)); exact BK151.out) hb)
    have n2_ := Aside0.mk (zak (g := gb152) (o := .cells #[.int .i64 a1_0, .int .i64 a1_1, .string a1_2] 73 (0, 0)) (by (with_reducible repeat (first | refine zai ?_ _ | refine zaj ?_ | refine zag ?_ _)); exact BK152.out) hb)
    have n3_ := Aside0.mk (zah (by repeat (first | (with_reducible first | exact HB.out | apply zaa | apply zac | apply zae | refine zaf ?_ GE151.out | refine zaf ?_ GE152.out) | exact HB.out)) hb)
    clear BK151
    clear BK152
    clear HB
    have HO159 := n0_
    have BK151 := n1_
    have BK152 := n2_
    have HB := n3_
    clear n0_ n1_ n2_ n3_
    clear hb ho31
    obtain ⟨Ao32, co32, eo32⟩ := Kd.R_slice HO159.out
    (first | subst eo32 | (injection eo32 with f1_ f2_ f3_; have f4_ := f1_.symm; have f5_ := f3_.symm; clear f1_ f2_ f3_; subst f4_; subst f5_))
    refine hK.out _ _ ⟨(zad BK151.out 0).trans rfl, (zad BK151.out 1).trans rfl, (zad BK151.out 2).trans rfl, (zad BK152.out 0).trans rfl, (zad BK152.out 1).trans rfl, (zad BK152.out 2).trans rfl⟩ (fun hHeld => ?_)
    clear hK K
    refine norm_ (a' := ?_) ?_ ?_
    rotate_left
    ·show Act.put _ (some 31) _ = _
     simp only [Act.put, List.setIfInBounds_toArray, List.set_cons_zero, List.set_cons_succ, zaE, zaF]
     rfl
    refine one_ (i := 11) (N := some 32) #[true, true, true, true, true, true, true, true, true, true, true, true, false, false, false] rfl rfl (one_of HT_.out (by kernel_rfl)) (by decide) (fun K hK => ?_)
    refine goes_ Try.func83 (by kernel_rfl) rfl #[.slice Ao32 y157.length co32] (by rfl) rfl rfl (by (try simp only [List.map_toArray, List.map_cons, List.map_nil]); first | done | rfl | (simp only [List.length_drop, List.length_take]; rfl)) ?_
    with_reducible refine (cmp_Or_int.calls kj2 _ _ y157 t160 _ ?side1 ?side2 A28.out).mono ?_
    (case side1 => repeat (first | exact (Kd.R_reads' HO159.out).2.2 | (with_reducible refine Kd.C_alloc ?_ _) | (with_reducible refine Kd.C_drewN ?_ _) | (with_reducible refine Kd.C_drew ?_)))
    (case side2 => exact (Kd.R_reads' HO159.out).2.1)
    rintro e w' ⟨rfl, ⟨nd, rfl⟩⟩
    refine ⟨_, rfl, ?_⟩
    refine hK.out _ _ ⟨(zad BK151.out 0).trans rfl, (zad BK151.out 1).trans rfl, (zad BK151.out 2).trans rfl, (zad BK152.out 0).trans rfl, (zad BK152.out 1).trans rfl, (zad BK152.out 2).trans rfl⟩ (fun hHeld => ?_)
    clear hK K
    refine norm_ (a' := ?_) ?_ ?_
    rotate_left
    ·show Act.put _ (some 32) _ = _
     simp only [Act.put, List.setIfInBounds_toArray, List.set_cons_zero, List.set_cons_succ, zaE, zaF]
     rfl
    refine zaX (i := 12) (N := some 33) (v := ?_) (a' := ?_) #[true, true, true, true, true, true, true, true, true, true, true, true, true, false, false] rfl rfl (zaG HT_.out (by kernel_rfl)) (fun _ _ _ h => h) (Or.inl ⟨by rfl, ?_⟩) ?_ ?_
    rotate_left
    ·intro w'
     go_simp
     with_reducible rfl
    rotate_left
    ·simp only [Act.put, List.setIfInBounds_toArray, List.set_cons_zero, List.set_cons_succ, zaE, zaF]
     rfl
    refine zaX (i := 13) (N := some 4) (v := ?_) (a' := ?_) #[true, true, true, true, true, true, true, true, true, true, true, true, true, true, false] rfl rfl (zaG HT_.out (by kernel_rfl)) (fun _ _ _ h => h) (Or.inl ⟨by rfl, ?_⟩) ?_ ?_
    rotate_left
    ·intro w'
     go_simp
     with_reducible rfl
    rotate_left
    ·simp only [Act.put, List.setIfInBounds_toArray, List.set_cons_zero, List.set_cons_succ, zaE, zaF]
     rfl
    refine zaX (i := 14) (N := some 5) (v := ?_) (a' := ?_) #[true, true, true, true, true, true, true, true, true, true, true, true, true, true, true] rfl rfl (zaG HT_.out (by kernel_rfl)) (fun _ _ _ h => h) (Or.inl ⟨by rfl, ?_⟩) ?_ ?_
    rotate_left
    ·intro w'
     go_simp
     with_reducible rfl
    rotate_left
    ·simp only [Act.put, List.setIfInBounds_toArray, List.set_cons_zero, List.set_cons_succ, zaE, zaF]
     rfl
    refine done_ (done_of HT_.out (by kernel_rfl)) ?_
    try go_wp2
    go_ret2
    exact ⟨by first | rfl | (simp [zap, zao] <;> rfl) | (simp [*, zap, zao] <;> rfl), by repeat (first | (with_reducible first | exact HB.out | apply zaa | apply zac | apply zae | refine zaf ?_ GE151.out | refine zaf ?_ GE152.out) | exact HB.out)⟩
theorem or_two (a b : Int) : cmp_Or_int.f 5 [a, b] = some (if a = 0 then b else a) := by
 unfold cmp_Or_int.f
 simp only [cmp_Or_int.l0, List.length_cons, List.length_nil]
 have e0 : rd [a, b] 0 = a := rfl
 have e1 : rd [a, b] 1 = b := rfl
 have e2 : wrap64 (0 + 1) = 1 := by decide +kernel
 have e3 : wrap64 (1 + 1) = 2 := by decide +kernel
 rw [if_pos (by decide), if_pos (by decide), if_pos (by decide), e0]
 by_cases h : a = 0
 ·rw [if_pos h, if_pos h, e2, if_pos (by decide), if_pos (by decide), if_pos (by decide), e1, e3]
  by_cases hb : b = 0
  ·rw [if_pos hb, if_neg (by decide), hb]
  ·rw [if_neg hb]
 ·rw [if_neg h, if_neg h]
theorem cmp_int_is (a b : Int) : cmp_Compare_int.f a b = some (if a < b then -1 else if a > b then 1 else 0) := by
 unfold cmp_Compare_int.f cmp_isNaN_int.f
 rw [bne_self_eq_false, bne_self_eq_false, Option.bind_some, Option.bind_some, if_neg (by decide), if_neg (by decide)]
 split
 ·rfl
 split <;> rfl
theorem less_is {x y : SValue} (hx : okV x) (hy : okV y) (he : x.f0 = y.f0) : value_Less.f 6 x.f0 x.f1 x.f2 y.f0 y.f1 y.f2 = some (lessV x y, true) := by
 unfold value_Less.f
 have mx : value_May.f x.f0 x.f1 x.f2 = some true := by unfold value_May.f; rw [if_pos (show -9223372036854775808 ≤ x.f1 ∧ x.f1 ≤ 9223372036854775807 from hx.2), show mayV ⟨x.f0, x.f1, x.f2⟩ = true from hx.1]
 have my : value_May.f y.f0 y.f1 y.f2 = some true := by unfold value_May.f; rw [if_pos (show -9223372036854775808 ≤ y.f1 ∧ y.f1 ≤ 9223372036854775807 from hy.2), show mayV ⟨y.f0, y.f1, y.f2⟩ = true from hy.1]
 have hne : (x.f0 != y.f0) = false := by rw [he]; exact bne_self_eq_false _
 rw [mx, my, Option.bind_some, Option.bind_some, if_pos rfl, if_pos rfl, hne]
 simp only [value_Less.j0]
 rw [if_neg (by decide), cmp_int_is, Option.bind_some, show cmp_Compare_string.f x.f2 y.f2 = some (cmpS x.f2 y.f2) from rfl, Option.bind_some, or_two, Option.bind_some]
 unfold lessV
 by_cases h2 : x.f0 = 2
 ·have h3 : y.f0 = 2 := he ▸ h2
  rw [if_pos h2, (mayV_bytes hx.1 h2).1, (mayV_bytes hy.1 h3).1]
  rw [if_pos (by decide)]
  unfold cmpS
  cases Op.bytesLess x.f2.toList y.f2.toList
  ·rw [if_neg (by decide)]
   split <;> rfl
  ·rw [if_pos rfl]; rfl
 ·have h3 : y.f0 ≠ 2 := fun h => h2 (he.trans h)
  have hc : cmpS x.f2 y.f2 = 0 := by unfold cmpS; rw [mayV_text hx.1 h2, mayV_text hy.1 h3]; rfl
  rw [if_neg h2, hc]
  congr 2
  rw [decide_eq_decide]
  split <;> (split at * <;> omega)
theorem less_told (x y : SValue) (w : World) (hx : okV x) (hy : okV y) (he : x.f0 = y.f0) {b : Bool} (hb : lessV x y = b) : Calls Try.prog 81 #[.agg #[.int .i64 x.f0, .int .i64 x.f1, .string x.f2], .agg #[.int .i64 y.f0, .int .i64 y.f1, .string y.f2]] w fun e w' => e = .returned (.tuple #[.bool b, .bool true]) ∧ Below w.heap.size w w' := by
 subst hb
 exact value_Less.calls 6 _ _ _ _ _ _ _ _ w (less_is hx hy he)
def expr_sum.f (a0 : Int) (a1 : Int) (a2 : Int) : Option (Int × Bool) := if a0 = 2 then (some (wrap64 (a1 + a2), ((decide ((wrap64 (a1 + a2)) > a1)) == (decide (a2 > 0))))) else (if a0 = 3 then (some (wrap64 (a1 - a2), ((decide ((wrap64 (a1 - a2)) < a1)) == (decide (a2 > 0))))) else (if a1 = 0 then (some (0, true)) else (if a2 = 0 then (some (0, true)) else (if (wrap64 (Int.tdiv (wrap64 (a1 * a2)) a2)) = a1 then (if a2 = (-1) then (if (a1 = (wrap64 (a1 * a2))) then (some (wrap64 (a1 * a2), false)) else (if a1 = (-1) then (some (wrap64 (a1 * a2), !(a2 == (wrap64 (a1 * a2))))) else (some (wrap64 (a1 * a2), !false)))) else (if a1 = (-1) then (some (wrap64 (a1 * a2), !(a2 == (wrap64 (a1 * a2))))) else (some (wrap64 (a1 * a2), !false)))) else (some (wrap64 (a1 * a2), false))))))
set_option maxHeartbeats 8000000 in
set_option maxRecDepth 100000 in
theorem expr_sum.calls (a0 : Int) (a1 : Int) (a2 : Int) (r1 : Int) (r2 : Bool) (w : World) (h : expr_sum.f a0 a1 a2 = some (r1, r2)) :
  Calls Try.prog 82 #[.int .i64 a0, .int .i64 a1, .int .i64 a2] w fun e w' => e = .returned (.tuple #[.int .i64 r1, .bool r2]) ∧ Drawn0 w w' := by
 have H : (if a0 = 2 then (some (wrap64 (a1 + a2), ((decide ((wrap64 (a1 + a2)) > a1)) == (decide (a2 > 0))))) else (if a0 = 3 then (some (wrap64 (a1 - a2), ((decide ((wrap64 (a1 - a2)) < a1)) == (decide (a2 > 0))))) else (if a1 = 0 then (some (0, true)) else (if a2 = 0 then (some (0, true)) else (if (wrap64 (Int.tdiv (wrap64 (a1 * a2)) a2)) = a1 then (if a2 = (-1) then (if (a1 = (wrap64 (a1 * a2))) then (some (wrap64 (a1 * a2), false)) else (if a1 = (-1) then (some (wrap64 (a1 * a2), !(a2 == (wrap64 (a1 * a2))))) else (some (wrap64 (a1 * a2), !false)))) else (if a1 = (-1) then (some (wrap64 (a1 * a2), !(a2 == (wrap64 (a1 * a2))))) else (some (wrap64 (a1 * a2), !false)))) else (some (wrap64 (a1 * a2), false))))))) = some (r1, r2) := h
 clear h
 by_cases c4 : a0 = 2
 ·rw [if_pos c4] at H
  have c4b0 : (a0 == 2) = true := beq_iff_eq.mpr c4
  have c4b1 : (a0 != 2) = false := bne_eq_false_iff_eq.mpr c4
  clear c4
  simp only [Option.some.injEq, Prod.mk.injEq] at H
  obtain ⟨rfl, rfl⟩ := H
  go_enter Try.func82, Try.ntmps82
  go_wp2
  go_ret2
  exact ⟨by first | rfl | (simp; done) | (simp [*]; done), by repeat (first | exact Drawn0.refl _ | apply Drawn0.step)⟩
 ·rw [if_neg c4] at H
  have c4b0 : (a0 == 2) = false := beq_eq_false_iff_ne.mpr c4
  have c4b1 : (a0 != 2) = true := bne_iff_ne.mpr c4
  by_cases c5 : a0 = 3
  ·rw [if_pos c5] at H
   have c5b0 : (a0 == 3) = true := beq_iff_eq.mpr c5
   have c5b1 : (a0 != 3) = false := bne_eq_false_iff_eq.mpr c5
   clear c5
   simp only [Option.some.injEq, Prod.mk.injEq] at H
   obtain ⟨rfl, rfl⟩ := H
   go_enter Try.func82, Try.ntmps82
   go_wp2
   go_ret2
   exact ⟨by first | rfl | (simp; done) | (simp [*]; done), by repeat (first | exact Drawn0.refl _ | apply Drawn0.step)⟩
  ·rw [if_neg c5] at H
   have c5b0 : (a0 == 3) = false := beq_eq_false_iff_ne.mpr c5
   have c5b1 : (a0 != 3) = true := bne_iff_ne.mpr c5
   by_cases c6 : a1 = 0
   ·rw [if_pos c6] at H
    have c6b0 : (a1 == 0) = true := beq_iff_eq.mpr c6
    have c6b1 : (a1 != 0) = false := bne_eq_false_iff_eq.mpr c6
    clear c6
    simp only [Option.some.injEq, Prod.mk.injEq] at H
    obtain ⟨rfl, rfl⟩ := H
    go_enter Try.func82, Try.ntmps82
    go_wp2
    go_ret2
    exact ⟨by first | rfl | (simp; done) | (simp [*]; done), by repeat (first | exact Drawn0.refl _ | apply Drawn0.step)⟩
   ·rw [if_neg c6] at H
    have c6b0 : (a1 == 0) = false := beq_eq_false_iff_ne.mpr c6
    have c6b1 : (a1 != 0) = true := bne_iff_ne.mpr c6
    by_cases c7 : a2 = 0
    ·rw [if_pos c7] at H
     have c7b0 : (a2 == 0) = true := beq_iff_eq.mpr c7
     have c7b1 : (a2 != 0) = false := bne_eq_false_iff_eq.mpr c7
     clear c7
     simp only [Option.some.injEq, Prod.mk.injEq] at H
     obtain ⟨rfl, rfl⟩ := H
     go_enter Try.func82, Try.ntmps82
     go_wp2
     go_ret2
     exact ⟨by first | rfl | (simp; done) | (simp [*]; done), by repeat (first | exact Drawn0.refl _ | apply Drawn0.step)⟩
    ·rw [if_neg c7] at H
     have c7b0 : (a2 == 0) = false := beq_eq_false_iff_ne.mpr c7
     have c7b1 : (a2 != 0) = true := bne_iff_ne.mpr c7
     by_cases c8 : (wrap64 (Int.tdiv (wrap64 (a1 * a2)) a2)) = a1
     ·rw [if_pos c8] at H
      have c8b0 : ((wrap64 (Int.tdiv (wrap64 (a1 * a2)) a2)) == a1) = true := beq_iff_eq.mpr c8
      have c8b1 : ((wrap64 (Int.tdiv (wrap64 (a1 * a2)) a2)) != a1) = false := bne_eq_false_iff_eq.mpr c8
      clear c8
      by_cases c9 : a2 = (-1)
      ·rw [if_pos c9] at H
       have c9b0 : (a2 == (-1)) = true := beq_iff_eq.mpr c9
       have c9b1 : (a2 != (-1)) = false := bne_eq_false_iff_eq.mpr c9
       clear c9
       by_cases c10 : (a1 = (wrap64 (a1 * a2)))
       ·rw [if_pos c10] at H
        have c10b0 : (a1 == (wrap64 (a1 * a2))) = true := beq_iff_eq.mpr c10
        have c10b1 : (a1 != (wrap64 (a1 * a2))) = false := bne_eq_false_iff_eq.mpr c10
        clear c10
        simp only [Option.some.injEq, Prod.mk.injEq] at H
        obtain ⟨rfl, rfl⟩ := H
        go_enter Try.func82, Try.ntmps82
        go_wp2
        go_ret2
        exact ⟨by first | rfl | (simp; done) | (simp [*]; done), by repeat (first | exact Drawn0.refl _ | apply Drawn0.step)⟩
       ·rw [if_neg c10] at H
        have c10b0 : (a1 == (wrap64 (a1 * a2))) = false := beq_eq_false_iff_ne.mpr c10
        have c10b1 : (a1 != (wrap64 (a1 * a2))) = true := bne_iff_ne.mpr c10
        by_cases c11 : a1 = (-1)
        ·rw [if_pos c11] at H
         have c11b0 : (a1 == (-1)) = true := beq_iff_eq.mpr c11
         have c11b1 : (a1 != (-1)) = false := bne_eq_false_iff_eq.mpr c11
         clear c11
         simp only [Option.some.injEq, Prod.mk.injEq] at H
         obtain ⟨rfl, rfl⟩ := H
         go_enter Try.func82, Try.ntmps82
         go_wp2
         go_ret2
         exact ⟨by first | rfl | (simp; done) | (simp [*]; done), by repeat (first | exact Drawn0.refl _ | apply Drawn0.step)⟩
        ·rw [if_neg c11] at H
         have c11b0 : (a1 == (-1)) = false := beq_eq_false_iff_ne.mpr c11
         have c11b1 : (a1 != (-1)) = true := bne_iff_ne.mpr c11
         simp only [Option.some.injEq, Prod.mk.injEq] at H
         obtain ⟨rfl, rfl⟩ := H
         go_enter Try.func82, Try.ntmps82
         go_wp2
         go_ret2
         exact ⟨by first | rfl | (simp; done) | (simp [*]; done), by repeat (first | exact Drawn0.refl _ | apply Drawn0.step)⟩
      ·rw [if_neg c9] at H
       have c9b0 : (a2 == (-1)) = false := beq_eq_false_iff_ne.mpr c9
       have c9b1 : (a2 != (-1)) = true := bne_iff_ne.mpr c9
       by_cases c12 : a1 = (-1)
       ·rw [if_pos c12] at H
        have c12b0 : (a1 == (-1)) = true := beq_iff_eq.mpr c12
        have c12b1 : (a1 != (-1)) = false := bne_eq_false_iff_eq.mpr c12
        clear c12
        simp only [Option.some.injEq, Prod.mk.injEq] at H
        obtain ⟨rfl, rfl⟩ := H
        go_enter Try.func82, Try.ntmps82
        go_wp2
        go_ret2
        exact ⟨by first | rfl | (simp; done) | (simp [*]; done), by repeat (first | exact Drawn0.refl _ | apply Drawn0.step)⟩
       ·rw [if_neg c12] at H
        have c12b0 : (a1 == (-1)) = false := beq_eq_false_iff_ne.mpr c12
        have c12b1 : (a1 != (-1)) = true := bne_iff_ne.mpr c12
        simp only [Option.some.injEq, Prod.mk.injEq] at H
        obtain ⟨rfl, rfl⟩ := H
        go_enter Try.func82, Try.ntmps82
        go_wp2
        go_ret2
        exact ⟨by first | rfl | (simp; done) | (simp [*]; done), by repeat (first | exact Drawn0.refl _ | apply Drawn0.step)⟩
     ·rw [if_neg c8] at H
      have c8b0 : ((wrap64 (Int.tdiv (wrap64 (a1 * a2)) a2)) == a1) = false := beq_eq_false_iff_ne.mpr c8
      have c8b1 : ((wrap64 (Int.tdiv (wrap64 (a1 * a2)) a2)) != a1) = true := bne_iff_ne.mpr c8
      simp only [Option.some.injEq, Prod.mk.injEq] at H
      obtain ⟨rfl, rfl⟩ := H
      go_enter Try.func82, Try.ntmps82
      go_wp2
      go_ret2
      exact ⟨by first | rfl | (simp; done) | (simp [*]; done), by repeat (first | exact Drawn0.refl _ | apply Drawn0.step)⟩
theorem sum_some {code a b n : Int} (ha : -9223372036854775808 ≤ a ∧ a ≤ 9223372036854775807) (hb : -9223372036854775808 ≤ b ∧ b ≤ 9223372036854775807) (h : sumV code a b = some n) (w : World) : Calls Try.prog 82 #[.int .i64 code, .int .i64 a, .int .i64 b] w fun e w' => e = .returned (.tuple #[.int .i64 n, .bool true]) ∧ Below w.heap.size w w' := by
 obtain ⟨rfl, hr⟩ := sumV_some h
 refine (expr_sum.calls code a b _ true w ?_).mono fun e w' ⟨h1, h2⟩ => ⟨h1, h2.below⟩
 unfold expr_sum.f
 by_cases h2 : code = 2
 ·subst h2
  rw [arith2] at hr ⊢
  rw [if_pos rfl, sum_wrap ha hb, decide_eq_true hr, zbw hr]
 rw [if_neg h2]
 by_cases h3 : code = 3
 ·subst h3
  rw [arith3] at hr ⊢
  rw [if_pos rfl, diff_wrap ha hb, decide_eq_true hr, zbw hr]
 rw [if_neg h3]
 rw [arithT h2 h3] at hr ⊢
 by_cases ha0 : a = 0
 ·rw [if_pos ha0, ha0, Int.zero_mul]
 rw [if_neg ha0]
 by_cases hb0 : b = 0
 ·rw [if_pos hb0, hb0, Int.mul_zero]
 rw [if_neg hb0, if_pos (prod_back ha hb0 hr), zbw hr]
 by_cases hb1 : b = -1
 ·subst hb1
  rw [if_pos rfl, if_neg (by omega)]
  by_cases ha1 : a = -1
  ·subst ha1; rw [if_pos rfl]; rfl
  ·rw [if_neg ha1]; rfl
 ·rw [if_neg hb1]
  by_cases ha1 : a = -1
  ·subst ha1
   rw [if_pos rfl]
   have : (b == -1 * b) = false := beq_eq_false_iff_ne.2 (by omega)
   rw [this]; rfl
  ·rw [if_neg ha1]; rfl
theorem sum_none {code a b : Int} (ha : -9223372036854775808 ≤ a ∧ a ≤ 9223372036854775807) (hb : -9223372036854775808 ≤ b ∧ b ≤ 9223372036854775807) (h : sumV code a b = none) : ∃ n, ∀ w, Calls Try.prog 82 #[.int .i64 code, .int .i64 a, .int .i64 b] w fun e w' => e = .returned (.tuple #[.int .i64 n, .bool false]) ∧ Below w.heap.size w w' := by
 have hr := sumV_none h
 have hx : expr_sum.f code a b = some (wrap64 (arith code a b), false) := by
  unfold expr_sum.f
  by_cases h2 : code = 2
  ·subst h2
   rw [arith2] at hr ⊢
   rw [if_pos rfl, sum_wrap ha hb, decide_eq_false hr]
  rw [if_neg h2]
  by_cases h3 : code = 3
  ·subst h3
   rw [arith3] at hr ⊢
   rw [if_pos rfl, diff_wrap ha hb, decide_eq_false hr]
  rw [if_neg h3]
  rw [arithT h2 h3] at hr ⊢
  rw [if_neg (by rintro rfl; apply hr; rw [Int.zero_mul]; decide), if_neg (by rintro rfl; apply hr; rw [Int.mul_zero]; decide)]
  have hb0 : b ≠ 0 := by rintro rfl; apply hr; rw [Int.mul_zero]; decide
  by_cases hq : wrap64 (Int.tdiv (wrap64 (a * b)) b) = a
  ·rw [if_pos hq]
   by_cases hs : b = -1 ∧ a = -9223372036854775808
   ·obtain ⟨rfl, rfl⟩ := hs
    rw [if_pos rfl, if_pos (by decide +kernel)]
   ·exact absurd (prod_test ha hb hb0 hs hq) hr
  ·rw [if_neg hq]
 exact ⟨_, fun w => (expr_sum.calls code a b _ false w hx).mono fun e w' ⟨h1, h2⟩ => ⟨h1, h2.below⟩⟩
end Go.Proofs.Ytooemobolfoefaa.P


namespace Go.Proofs.Ytooemobolfoefaa.P
open Go.RowKit Go.Proofs.YtooemobolfoefaaW.PrintWords Go.Proofs.YtooemobolfoefaaW.PrintLast Go.Proofs.YtooemobolfoefaaW.PrintMore
attribute [local go_sem] za1 zaZ zbb zba zaU zaT za0 zaY   -- for this text's walks alone
set_option linter.unusedVariables false
set_option linter.unusedSimpArgs false
attribute [local go_sem high] eqAValue
attribute [local go_sem high] eqAValue
theorem meth_num (n : Int) (w : World) : (method 262 131 (.int .i64 n) "towncrier/expr.value").run Try.prog w = .ok (103, .int .i64 n) w := by kernel_rfl
theorem meth_tru (n : Bool) (w : World) : (method 262 133 (.bool n) "towncrier/expr.value").run Try.prog w = .ok (104, .bool n) w := by kernel_rfl
theorem meth_oth (a b : Int) (s : ByteArray) (w : World) : (method 262 134 (.agg #[.int .i64 a, .int .i64 b, .string s]) "towncrier/expr.value").run Try.prog w = .ok (105, .agg #[.int .i64 a, .int .i64 b, .string s]) w := by kernel_rfl
theorem valNum_told (n : Int) (w : World) : Calls Try.prog 103 #[.int .i64 n] w (valPost (.agg #[.int .i64 0, .int .i64 n, .string ⟨#[]⟩]) w) := by
 go_enter Try.func103, Try.ntmps103
 go_wp2
 exact bodyPost_ret (v := .agg #[.int .i64 0, .int .i64 n, .string ⟨#[]⟩]) (by simp [results, Try.results103, go_sem]) rfl ⟨rfl, zaa (Below.refl _ _) _⟩
theorem valTru_told (b : Bool) (w : World) : Calls Try.prog 104 #[.bool b] w (valPost (.agg #[.int .i64 1, .int .i64 (if b then 1 else 0), .string ⟨#[]⟩]) w) := by
 cases b
 ·go_enter Try.func104, Try.ntmps104
  go_wp2
  exact bodyPost_ret (v := .agg #[.int .i64 1, .int .i64 0, .string ⟨#[]⟩]) (by simp [results, Try.results104, go_sem]) rfl ⟨rfl, zaa (Below.refl _ _) _⟩
 ·go_enter Try.func104, Try.ntmps104
  go_wp2
  exact bodyPost_ret (v := .agg #[.int .i64 1, .int .i64 1, .string ⟨#[]⟩]) (by simp [results, Try.results104, go_sem]) rfl ⟨rfl, zaa (Below.refl _ _) _⟩
theorem valOth_told (x : SValue) (w : World) : Calls Try.prog 105 #[.agg #[.int .i64 x.f0, .int .i64 x.f1, .string x.f2]] w (valPost (.agg #[.int .i64 x.f0, .int .i64 x.f1, .string x.f2]) w) := by
 go_enter Try.func105, Try.ntmps105
 go_wp2
 exact bodyPost_ret (v := .agg #[.int .i64 x.f0, .int .i64 x.f1, .string x.f2]) (by simp [results, Try.results105, go_sem]) rfl ⟨rfl, zaa (zaa (Below.refl _ _) _) _⟩
theorem as_num_tru (n : Int) (w : World) : (Instr.typeAssert (.iface 131 (.int .i64 n)) 119 133 true).run Try.prog w = .ok (.tuple #[(.bool false : Value), .bool false]) w := by kernel_rfl
theorem as_num_num (n : Int) (w : World) : (Instr.typeAssert (.iface 131 (.int .i64 n)) 119 131 true).run Try.prog w = .ok (.tuple #[(.int .i64 n : Value), .bool true]) w := by kernel_rfl
theorem is_num (n : Int) (w : World) : (Instr.typeAssert (.iface 131 (.int .i64 n)) 119 131 false).run Try.prog w = .ok (.int .i64 n : Value) w := by kernel_rfl
theorem as_tru_tru (n : Bool) (w : World) : (Instr.typeAssert (.iface 133 (.bool n)) 119 133 true).run Try.prog w = .ok (.tuple #[(.bool n : Value), .bool true]) w := by kernel_rfl
theorem is_tru (n : Bool) (w : World) : (Instr.typeAssert (.iface 133 (.bool n)) 119 133 false).run Try.prog w = .ok (.bool n : Value) w := by kernel_rfl
theorem as_tru_num (n : Bool) (w : World) : (Instr.typeAssert (.iface 133 (.bool n)) 119 131 true).run Try.prog w = .ok (.tuple #[(.int .i64 0 : Value), .bool false]) w := by kernel_rfl
theorem as_oth_tru (a b : Int) (s : ByteArray) (w : World) : (Instr.typeAssert (.iface 134 (.agg #[.int .i64 a, .int .i64 b, .string s])) 119 133 true).run Try.prog w = .ok (.tuple #[(.bool false : Value), .bool false]) w := by kernel_rfl
theorem as_oth_num (a b : Int) (s : ByteArray) (w : World) : (Instr.typeAssert (.iface 134 (.agg #[.int .i64 a, .int .i64 b, .string s])) 119 131 true).run Try.prog w = .ok (.tuple #[(.int .i64 0 : Value), .bool false]) w := by kernel_rfl
def ThingIs (x : SValue) (t : Nat) (v : Value) (f : Nat) : Prop :=
 thV x = .iface t v ∧ (∀ w, (method 262 t v "towncrier/expr.value").run Try.prog w = .ok (f, v) w) ∧ (∀ args w, (callFunc f args).run Try.prog w = .ok (.enter f args) w)
 ∧ (∀ w, Calls Try.prog f #[v] w (valPost (.agg #[.int .i64 x.f0, .int .i64 x.f1, .string x.f2]) w))
 ∧ (∃ p : Bool, ∀ w, (Instr.typeAssert (.iface t v) 119 133 true).run Try.prog w = .ok (.tuple #[.bool p, .bool (x.f0 == 1)]) w)
 ∧ (∃ n : Int, ∀ w, (Instr.typeAssert (.iface t v) 119 131 true).run Try.prog w = .ok (.tuple #[.int .i64 n, .bool (x.f0 == 0)]) w)
 ∧ (x.f0 = 1 → ∀ w, (Instr.typeAssert (.iface t v) 119 133 true).run Try.prog w = .ok (.tuple #[.bool (x.f1 == 1), .bool true]) w)
 ∧ (x.f0 = 0 → ∀ w, (Instr.typeAssert (.iface t v) 119 131 true).run Try.prog w = .ok (.tuple #[.int .i64 x.f1, .bool true]) w)
 ∧ (x.f0 = 1 → ∀ w, (Instr.typeAssert (.iface t v) 119 133 false).run Try.prog w = .ok (.bool (x.f1 == 1)) w)
 ∧ (x.f0 = 0 → ∀ w, (Instr.typeAssert (.iface t v) 119 131 false).run Try.prog w = .ok (.int .i64 x.f1) w)
theorem zaV {x : SValue} (h : mayV x = true) : ∃ t v f, ThingIs x t v f := by
 obtain ⟨k, n, s⟩ := x
 unfold ThingIs
 have hm := mayV_iff.1 h
 by_cases h0 : k = 0
 ·subst h0
  have hs : s = ⟨#[]⟩ := by
   rcases hm with ⟨_, h2⟩ | ⟨h1, _⟩ | ⟨h1, _⟩ | ⟨h1, _⟩
   ·exact za4 h2
   all_goals exact absurd (show (0 : Int) = _ from h1) (by decide)
  subst hs
  refine ⟨_, _, 103, by unfold thV; rw [if_pos rfl], meth_num n, enters_of Try.func103 (by kernel_rfl) rfl, valNum_told n, ⟨_, as_num_tru n⟩, ⟨_, as_num_num n⟩, fun h => absurd (show (0 : Int) = 1 from h) (by decide), fun _ => as_num_num n, fun h => absurd (show (0 : Int) = 1 from h) (by decide), fun _ => is_num n⟩
 by_cases h1 : k = 1
 ·subst h1
  have hs : s = ⟨#[]⟩ ∧ 0 ≤ n ∧ n < 2 := by
   rcases hm with ⟨h1, _⟩ | ⟨_, h2, h3, h4⟩ | ⟨h1, _⟩ | ⟨h1, _⟩
   ·exact absurd (show (1 : Int) = _ from h1) (by decide)
   ·exact ⟨za4 h2, h3, h4⟩
   all_goals exact absurd (show (1 : Int) = _ from h1) (by decide)
  obtain ⟨rfl, hn0, hn1⟩ := hs
  refine ⟨_, _, 104, by unfold thV; rw [if_neg h0, if_pos rfl], meth_tru _, enters_of Try.func104 (by kernel_rfl) rfl, ?_, ⟨_, as_tru_tru _⟩, ⟨_, as_tru_num _⟩, fun _ => as_tru_tru _, fun h => absurd (show (1 : Int) = 0 from h) (by decide), fun _ => is_tru _, fun h => absurd (show (1 : Int) = 0 from h) (by decide)⟩
  intro w
  have := valTru_told (n == 1) w
  have e : (if (n == 1) = true then (1 : Int) else 0) = n := by
   by_cases h : n = 1
   ·subst h; rfl
   ·rw [if_neg (by simpa using h)]; omega
  rw [e] at this
  exact this
 ·have e0 : (k == 0) = false := beq_eq_false_iff_ne.2 h0
  have e1 : (k == 1) = false := beq_eq_false_iff_ne.2 h1
  refine ⟨_, _, 105, by unfold thV; rw [if_neg h0, if_neg h1], meth_oth k n s, enters_of Try.func105 (by kernel_rfl) rfl, valOth_told ⟨k, n, s⟩, ⟨_, fun w => by rw [show ((⟨k, n, s⟩ : SValue).f0 == 1) = false from e1]; exact as_oth_tru k n s w⟩, ⟨_, fun w => by rw [show ((⟨k, n, s⟩ : SValue).f0 == 0) = false from e0]; exact as_oth_num k n s w⟩, fun h => absurd h h1, fun h => absurd h h0, fun h => absurd h h1, fun h => absurd h h0⟩
def twoPost (r : Except Int SValue) (w : World) (e : Ending) (w' : World) : Prop := (match r with | .ok y => e = .returned (.tuple #[thV y, .int .i64 0]) | .error n => e = .returned (.tuple #[.nilIface, .int .i64 n])) ∧ Below w.heap.size w w'
theorem thV_tru (b : Bool) : thV (truV b) = .iface 133 (.bool b) := by cases b <;> rfl
theorem thV_num (n : Int) : thV ⟨0, n, ⟨#[]⟩⟩ = .iface 131 (.int .i64 n) := rfl
set_option maxHeartbeats 1000000 in
set_option maxRecDepth 100000 in
theorem two_differ (x y : SValue) (w : World) (hx : okV x) (hy : okV y) (code : Int) (he : x.f0 ≠ y.f0) : Calls Try.prog 78 #[.int .i64 code, thV x, thV y] w (twoPost (.error 5) w) := by
 obtain ⟨t, v, f, hx1, hx2, hx3, hx4, ⟨px, hx5⟩, ⟨nx, hx6⟩, hx7, hx8, hx9, hx10⟩ := zaV hx.1
 obtain ⟨s, u, g, hy1, hy2, hy3, hy4, ⟨py, hy5⟩, ⟨ny, hy6⟩, hy7, hy8, hy9, hy10⟩ := zaV hy.1
 rw [hx1, hy1]
 have HX4 := Aside0.mk hx4
 have HY4 := Aside0.mk hy4
 have HVX := Aside0.mk hx
 have HVY := Aside0.mk hy
 have HX1 := Aside0.mk hx1
 have HY1 := Aside0.mk hy1
 have he2 : (x.f0 == y.f0) = false := beq_eq_false_iff_ne.2 he
 have he3 : (x.f0 != y.f0) = true := bne_iff_ne.2 he
 clear he
 clear hx4 hy4 hx7 hx8 hx9 hx10 hy7 hy8 hy9 hy10 hx hy hx1 hy1
 go_enter Try.func78, Try.ntmps78
 go_wp2_with fail
 refine (HX4.out _).mono ?_
 rintro e w1 ⟨rfl, hb1⟩
 have HB1 := Aside0.mk hb1
 clear hb1
 go_wp2_with fail
 refine (HY4.out _).mono ?_
 rintro e w2 ⟨rfl, hb2⟩
 have HB2 := Aside0.mk (zah HB1.out hb2)
 clear hb2
 go_wp2_with fail
 go_ret2
 exact ⟨rfl, zaa (zaa HB2.out _) _⟩
set_option maxHeartbeats 1000000 in
set_option maxRecDepth 100000 in
theorem two_six (x y : SValue) (w : World) (hx : okV x) (hy : okV y) (he : x.f0 = y.f0) : Calls Try.prog 78 #[.int .i64 6, thV x, thV y] w (twoPost (.ok (truV (eqV x y))) w) := by
 obtain ⟨t, v, f, hx1, hx2, hx3, hx4, ⟨px, hx5⟩, ⟨nx, hx6⟩, hx7, hx8, hx9, hx10⟩ := zaV hx.1
 obtain ⟨s, u, g, hy1, hy2, hy3, hy4, ⟨py, hy5⟩, ⟨ny, hy6⟩, hy7, hy8, hy9, hy10⟩ := zaV hy.1
 rw [hx1, hy1]
 have HX4 := Aside0.mk hx4
 have HY4 := Aside0.mk hy4
 have HVX := Aside0.mk hx
 have HVY := Aside0.mk hy
 have HX1 := Aside0.mk hx1
 have HY1 := Aside0.mk hy1
 have HE := Aside0.mk he
 have he2 : (x.f0 == y.f0) = true := beq_iff_eq.2 he
 have he3 : (x.f0 != y.f0) = false := by rw [bne, he2]; rfl
 clear he
 have heq : (x.f1 == y.f1 && x.f2.toList == y.f2.toList) = eqV x y := by unfold eqV; rw [he2, Bool.true_and]
 show Calls _ _ _ _ (fun e w' => e = .returned (.tuple #[thV (truV (eqV x y)), .int .i64 0]) ∧ Below w.heap.size w w')
 rw [thV_tru]
 generalize eqV x y = q at *
 clear hx4 hy4 hx7 hx8 hx9 hx10 hy7 hy8 hy9 hy10 hx hy hx1 hy1
 go_enter Try.func78, Try.ntmps78
 go_wp2_with fail
 refine (HX4.out _).mono ?_
 rintro e w1 ⟨rfl, hb1⟩
 have HB1 := Aside0.mk hb1
 clear hb1
 go_wp2_with fail
 refine (HY4.out _).mono ?_
 rintro e w2 ⟨rfl, hb2⟩
 have HB2 := Aside0.mk (zah HB1.out hb2)
 clear hb2
 go_wp2_with fail
 go_ret2
 exact ⟨rfl, zaa (zaa HB2.out _) _⟩
set_option maxHeartbeats 1000000 in
set_option maxRecDepth 100000 in
theorem two_five_b (x y : SValue) (w : World) (hx : okV x) (hy : okV y) (he : x.f0 = y.f0) (h1 : x.f0 = 1) : Calls Try.prog 78 #[.int .i64 5, thV x, thV y] w (twoPost (.error 5) w) := by
 obtain ⟨t, v, f, hx1, hx2, hx3, hx4, ⟨px, hx5⟩, ⟨nx, hx6⟩, hx7, hx8, hx9, hx10⟩ := zaV hx.1
 obtain ⟨s, u, g, hy1, hy2, hy3, hy4, ⟨py, hy5⟩, ⟨ny, hy6⟩, hy7, hy8, hy9, hy10⟩ := zaV hy.1
 rw [hx1, hy1]
 have HX4 := Aside0.mk hx4
 have HY4 := Aside0.mk hy4
 have HVX := Aside0.mk hx
 have HVY := Aside0.mk hy
 have HX1 := Aside0.mk hx1
 have HY1 := Aside0.mk hy1
 have HE := Aside0.mk he
 have he2 : (x.f0 == y.f0) = true := beq_iff_eq.2 he
 have he3 : (x.f0 != y.f0) = false := by rw [bne, he2]; rfl
 clear he
 have h1b : (x.f0 == 1) = true := beq_iff_eq.2 h1
 clear h1
 clear hx4 hy4 hx7 hx8 hx9 hx10 hy7 hy8 hy9 hy10 hx hy hx1 hy1
 go_enter Try.func78, Try.ntmps78
 go_wp2_with fail
 refine (HX4.out _).mono ?_
 rintro e w1 ⟨rfl, hb1⟩
 have HB1 := Aside0.mk hb1
 clear hb1
 go_wp2_with fail
 refine (HY4.out _).mono ?_
 rintro e w2 ⟨rfl, hb2⟩
 have HB2 := Aside0.mk (zah HB1.out hb2)
 clear hb2
 go_wp2_with fail
 go_at_call 81
 refine (less_told x y _ HVX.out HVY.out HE.out rfl).mono ?_
 rintro e w3 ⟨rfl, hb3⟩
 go_wp2_with fail
 go_ret2
 exact ⟨rfl, zah (zaa (zaa HB2.out _) _) hb3⟩
set_option maxHeartbeats 1000000 in
set_option maxRecDepth 100000 in
theorem two_five (x y : SValue) (w : World) (hx : okV x) (hy : okV y) (he : x.f0 = y.f0) (h1 : ¬ x.f0 = 1) : Calls Try.prog 78 #[.int .i64 5, thV x, thV y] w (twoPost (.ok (truV (lessV x y))) w) := by
 obtain ⟨t, v, f, hx1, hx2, hx3, hx4, ⟨px, hx5⟩, ⟨nx, hx6⟩, hx7, hx8, hx9, hx10⟩ := zaV hx.1
 obtain ⟨s, u, g, hy1, hy2, hy3, hy4, ⟨py, hy5⟩, ⟨ny, hy6⟩, hy7, hy8, hy9, hy10⟩ := zaV hy.1
 rw [hx1, hy1]
 have HX4 := Aside0.mk hx4
 have HY4 := Aside0.mk hy4
 have HVX := Aside0.mk hx
 have HVY := Aside0.mk hy
 have HX1 := Aside0.mk hx1
 have HY1 := Aside0.mk hy1
 have HE := Aside0.mk he
 have he2 : (x.f0 == y.f0) = true := beq_iff_eq.2 he
 have he3 : (x.f0 != y.f0) = false := by rw [bne, he2]; rfl
 clear he
 have h1b : (x.f0 == 1) = false := beq_eq_false_iff_ne.2 h1
 clear h1
 show Calls _ _ _ _ (fun e w' => e = .returned (.tuple #[thV (truV (lessV x y)), .int .i64 0]) ∧ Below w.heap.size w w')
 rw [thV_tru]
 obtain ⟨q, hq⟩ : ∃ q, lessV x y = q := ⟨_, rfl⟩
 rw [hq]
 have HQ := Aside0.mk hq
 clear hq
 clear hx4 hy4 hx7 hx8 hx9 hx10 hy7 hy8 hy9 hy10 hx hy hx1 hy1
 go_enter Try.func78, Try.ntmps78
 go_wp2_with fail
 refine (HX4.out _).mono ?_
 rintro e w1 ⟨rfl, hb1⟩
 have HB1 := Aside0.mk hb1
 clear hb1
 go_wp2_with fail
 refine (HY4.out _).mono ?_
 rintro e w2 ⟨rfl, hb2⟩
 have HB2 := Aside0.mk (zah HB1.out hb2)
 clear hb2
 go_wp2_with fail
 go_at_call 81
 refine (less_told x y _ HVX.out HVY.out HE.out HQ.out).mono ?_
 rintro e w3 ⟨rfl, hb3⟩
 go_wp2_with fail
 go_ret2
 exact ⟨rfl, zah (zaa (zaa HB2.out _) _) hb3⟩
set_option maxHeartbeats 1000000 in
set_option maxRecDepth 100000 in
theorem two_seven (x y : SValue) (w : World) (hx : okV x) (hy : okV y) (he : x.f0 = y.f0) (h1 : x.f0 = 1) : Calls Try.prog 78 #[.int .i64 7, thV x, thV y] w (twoPost (.ok (truV (x.f1 == 1 && y.f1 == 1))) w) := by
 obtain ⟨t, v, f, hx1, hx2, hx3, hx4, ⟨px, hx5⟩, ⟨nx, hx6⟩, hx7, hx8, hx9, hx10⟩ := zaV hx.1
 obtain ⟨s, u, g, hy1, hy2, hy3, hy4, ⟨py, hy5⟩, ⟨ny, hy6⟩, hy7, hy8, hy9, hy10⟩ := zaV hy.1
 rw [hx1, hy1]
 have HX4 := Aside0.mk hx4
 have HY4 := Aside0.mk hy4
 have HVX := Aside0.mk hx
 have HVY := Aside0.mk hy
 have HX1 := Aside0.mk hx1
 have HY1 := Aside0.mk hy1
 have hy1' : y.f0 = 1 := by omega
 have a1 := hx9 h1
 have a2 := hy9 hy1'
 have a3 := hx7 h1
 have HE := Aside0.mk he
 have he2 : (x.f0 == y.f0) = true := beq_iff_eq.2 he
 have he3 : (x.f0 != y.f0) = false := by rw [bne, he2]; rfl
 clear he
 show Calls _ _ _ _ (fun e w' => e = .returned (.tuple #[thV (truV (x.f1 == 1 && y.f1 == 1)), .int .i64 0]) ∧ Below w.heap.size w w')
 rw [thV_tru]
 clear h1 hy1' hx5
 generalize (x.f1 == 1) = p at *
 generalize (y.f1 == 1) = q at *
 clear hx4 hy4 hx7 hx8 hx9 hx10 hy7 hy8 hy9 hy10 hx hy hx1 hy1
 cases p <;> cases q
 all_goals
  go_enter Try.func78, Try.ntmps78
  go_wp2_with fail
  refine (HX4.out _).mono ?_
  rintro e w1 ⟨rfl, hb1⟩
  have HB1 := Aside0.mk hb1
  clear hb1
  go_wp2_with fail
  refine (HY4.out _).mono ?_
  rintro e w2 ⟨rfl, hb2⟩
  have HB2 := Aside0.mk (zah HB1.out hb2)
  clear hb2
  go_wp2_with fail
  go_quiet (fail)
  go_wp2_with fail
  go_ret2
  exact ⟨rfl, zac (zaa (zaa HB2.out _) _) _⟩
set_option maxHeartbeats 1000000 in
set_option maxRecDepth 100000 in
theorem two_seven_no (x y : SValue) (w : World) (hx : okV x) (hy : okV y) (he : x.f0 = y.f0) (h1 : ¬ x.f0 = 1) : Calls Try.prog 78 #[.int .i64 7, thV x, thV y] w (twoPost (.error 5) w) := by
 obtain ⟨t, v, f, hx1, hx2, hx3, hx4, ⟨px, hx5⟩, ⟨nx, hx6⟩, hx7, hx8, hx9, hx10⟩ := zaV hx.1
 obtain ⟨s, u, g, hy1, hy2, hy3, hy4, ⟨py, hy5⟩, ⟨ny, hy6⟩, hy7, hy8, hy9, hy10⟩ := zaV hy.1
 rw [hx1, hy1]
 have HX4 := Aside0.mk hx4
 have HY4 := Aside0.mk hy4
 have HVX := Aside0.mk hx
 have HVY := Aside0.mk hy
 have HX1 := Aside0.mk hx1
 have HY1 := Aside0.mk hy1
 have HE := Aside0.mk he
 have he2 : (x.f0 == y.f0) = true := beq_iff_eq.2 he
 have he3 : (x.f0 != y.f0) = false := by rw [bne, he2]; rfl
 clear he
 have h1b : (x.f0 == 1) = false := beq_eq_false_iff_ne.2 h1
 clear h1
 clear hx4 hy4 hx7 hx8 hx9 hx10 hy7 hy8 hy9 hy10 hx hy hx1 hy1
 go_enter Try.func78, Try.ntmps78
 go_wp2_with fail
 refine (HX4.out _).mono ?_
 rintro e w1 ⟨rfl, hb1⟩
 have HB1 := Aside0.mk hb1
 clear hb1
 go_wp2_with fail
 refine (HY4.out _).mono ?_
 rintro e w2 ⟨rfl, hb2⟩
 have HB2 := Aside0.mk (zah HB1.out hb2)
 clear hb2
 go_wp2_with fail
 go_ret2
 exact ⟨rfl, zaa (zaa HB2.out _) _⟩
set_option maxHeartbeats 1000000 in
set_option maxRecDepth 100000 in
theorem two_eight (x y : SValue) (w : World) (hx : okV x) (hy : okV y) (he : x.f0 = y.f0) (h1 : x.f0 = 1) : Calls Try.prog 78 #[.int .i64 8, thV x, thV y] w (twoPost (.ok (truV (x.f1 == 1 || y.f1 == 1))) w) := by
 obtain ⟨t, v, f, hx1, hx2, hx3, hx4, ⟨px, hx5⟩, ⟨nx, hx6⟩, hx7, hx8, hx9, hx10⟩ := zaV hx.1
 obtain ⟨s, u, g, hy1, hy2, hy3, hy4, ⟨py, hy5⟩, ⟨ny, hy6⟩, hy7, hy8, hy9, hy10⟩ := zaV hy.1
 rw [hx1, hy1]
 have HX4 := Aside0.mk hx4
 have HY4 := Aside0.mk hy4
 have HVX := Aside0.mk hx
 have HVY := Aside0.mk hy
 have HX1 := Aside0.mk hx1
 have HY1 := Aside0.mk hy1
 have hy1' : y.f0 = 1 := by omega
 have a1 := hx9 h1
 have a2 := hy9 hy1'
 have a3 := hx7 h1
 have HE := Aside0.mk he
 have he2 : (x.f0 == y.f0) = true := beq_iff_eq.2 he
 have he3 : (x.f0 != y.f0) = false := by rw [bne, he2]; rfl
 clear he
 show Calls _ _ _ _ (fun e w' => e = .returned (.tuple #[thV (truV (x.f1 == 1 || y.f1 == 1)), .int .i64 0]) ∧ Below w.heap.size w w')
 rw [thV_tru]
 clear h1 hy1' hx5
 generalize (x.f1 == 1) = p at *
 generalize (y.f1 == 1) = q at *
 clear hx4 hy4 hx7 hx8 hx9 hx10 hy7 hy8 hy9 hy10 hx hy hx1 hy1
 cases p <;> cases q
 all_goals
  go_enter Try.func78, Try.ntmps78
  go_wp2_with fail
  refine (HX4.out _).mono ?_
  rintro e w1 ⟨rfl, hb1⟩
  have HB1 := Aside0.mk hb1
  clear hb1
  go_wp2_with fail
  refine (HY4.out _).mono ?_
  rintro e w2 ⟨rfl, hb2⟩
  have HB2 := Aside0.mk (zah HB1.out hb2)
  clear hb2
  go_wp2_with fail
  go_quiet (fail)
  go_wp2_with fail
  go_ret2
  exact ⟨rfl, zac (zaa (zaa HB2.out _) _) _⟩
set_option maxHeartbeats 1000000 in
set_option maxRecDepth 100000 in
theorem two_eight_no (x y : SValue) (w : World) (hx : okV x) (hy : okV y) (he : x.f0 = y.f0) (h1 : ¬ x.f0 = 1) : Calls Try.prog 78 #[.int .i64 8, thV x, thV y] w (twoPost (.error 5) w) := by
 obtain ⟨t, v, f, hx1, hx2, hx3, hx4, ⟨px, hx5⟩, ⟨nx, hx6⟩, hx7, hx8, hx9, hx10⟩ := zaV hx.1
 obtain ⟨s, u, g, hy1, hy2, hy3, hy4, ⟨py, hy5⟩, ⟨ny, hy6⟩, hy7, hy8, hy9, hy10⟩ := zaV hy.1
 rw [hx1, hy1]
 have HX4 := Aside0.mk hx4
 have HY4 := Aside0.mk hy4
 have HVX := Aside0.mk hx
 have HVY := Aside0.mk hy
 have HX1 := Aside0.mk hx1
 have HY1 := Aside0.mk hy1
 have HE := Aside0.mk he
 have he2 : (x.f0 == y.f0) = true := beq_iff_eq.2 he
 have he3 : (x.f0 != y.f0) = false := by rw [bne, he2]; rfl
 clear he
 have h1b : (x.f0 == 1) = false := beq_eq_false_iff_ne.2 h1
 clear h1
 clear hx4 hy4 hx7 hx8 hx9 hx10 hy7 hy8 hy9 hy10 hx hy hx1 hy1
 go_enter Try.func78, Try.ntmps78
 go_wp2_with fail
 refine (HX4.out _).mono ?_
 rintro e w1 ⟨rfl, hb1⟩
 have HB1 := Aside0.mk hb1
 clear hb1
 go_wp2_with fail
 refine (HY4.out _).mono ?_
 rintro e w2 ⟨rfl, hb2⟩
 have HB2 := Aside0.mk (zah HB1.out hb2)
 clear hb2
 go_wp2_with fail
 go_ret2
 exact ⟨rfl, zaa (zaa HB2.out _) _⟩
set_option maxHeartbeats 1000000 in
set_option maxRecDepth 100000 in
theorem two_over (x y : SValue) (w : World) (hx : okV x) (hy : okV y) (code : Int) (he : x.f0 = y.f0) (h6 : ¬ code = 6) (h5 : ¬ code = 5) (h78 : ¬ (code = 7 ∨ code = 8)) (h0 : x.f0 = 0) (hs : sumV code x.f1 y.f1 = none) : Calls Try.prog 78 #[.int .i64 code, thV x, thV y] w (twoPost (.error 6) w) := by
 obtain ⟨t, v, f, hx1, hx2, hx3, hx4, ⟨px, hx5⟩, ⟨nx, hx6⟩, hx7, hx8, hx9, hx10⟩ := zaV hx.1
 obtain ⟨s, u, g, hy1, hy2, hy3, hy4, ⟨py, hy5⟩, ⟨ny, hy6⟩, hy7, hy8, hy9, hy10⟩ := zaV hy.1
 rw [hx1, hy1]
 have HX4 := Aside0.mk hx4
 have HY4 := Aside0.mk hy4
 have HVX := Aside0.mk hx
 have HVY := Aside0.mk hy
 have HX1 := Aside0.mk hx1
 have HY1 := Aside0.mk hy1
 have h0b : (x.f0 == 0) = true := beq_iff_eq.2 h0
 have hy0 : y.f0 = 0 := by omega
 have a1 := hx8 h0
 have a2 := hy10 hy0
 have HE := Aside0.mk he
 have he2 : (x.f0 == y.f0) = true := beq_iff_eq.2 he
 have he3 : (x.f0 != y.f0) = false := by rw [bne, he2]; rfl
 clear he
 have h5b : (code == 5) = false := beq_eq_false_iff_ne.2 h5
 have h6b : (code == 6) = false := beq_eq_false_iff_ne.2 h6
 have h7b : (code == 7) = false := beq_eq_false_iff_ne.2 (fun h => h78 (.inl h))
 have h8b : (code == 8) = false := beq_eq_false_iff_ne.2 (fun h => h78 (.inr h))
 clear h5 h6 h78
 obtain ⟨n, hn⟩ := sum_none hx.2 hy.2 hs
 have HS := Aside0.mk hn
 clear hn hs hx6 hy0 h0
 clear hx4 hy4 hx7 hx8 hx9 hx10 hy7 hy8 hy9 hy10 hx hy hx1 hy1
 go_enter Try.func78, Try.ntmps78
 go_wp2_with fail
 refine (HX4.out _).mono ?_
 rintro e w1 ⟨rfl, hb1⟩
 have HB1 := Aside0.mk hb1
 clear hb1
 go_wp2_with fail
 refine (HY4.out _).mono ?_
 rintro e w2 ⟨rfl, hb2⟩
 have HB2 := Aside0.mk (zah HB1.out hb2)
 clear hb2
 go_wp2_with fail
 go_at_call 82
 refine (HS.out _).mono ?_
 rintro e w3 ⟨rfl, hb3⟩
 go_wp2_with fail
 go_ret2
 exact ⟨rfl, zah (zaa (zaa HB2.out _) _) hb3⟩
set_option maxHeartbeats 1000000 in
set_option maxRecDepth 100000 in
theorem two_sum (x y : SValue) (w : World) (hx : okV x) (hy : okV y) (code : Int) (he : x.f0 = y.f0) (h6 : ¬ code = 6) (h5 : ¬ code = 5) (h78 : ¬ (code = 7 ∨ code = 8)) (h0 : x.f0 = 0) {n : Int} (hs : sumV code x.f1 y.f1 = some n) : Calls Try.prog 78 #[.int .i64 code, thV x, thV y] w (twoPost (.ok ⟨0, n, ⟨#[]⟩⟩) w) := by
 obtain ⟨t, v, f, hx1, hx2, hx3, hx4, ⟨px, hx5⟩, ⟨nx, hx6⟩, hx7, hx8, hx9, hx10⟩ := zaV hx.1
 obtain ⟨s, u, g, hy1, hy2, hy3, hy4, ⟨py, hy5⟩, ⟨ny, hy6⟩, hy7, hy8, hy9, hy10⟩ := zaV hy.1
 rw [hx1, hy1]
 have HX4 := Aside0.mk hx4
 have HY4 := Aside0.mk hy4
 have HVX := Aside0.mk hx
 have HVY := Aside0.mk hy
 have HX1 := Aside0.mk hx1
 have HY1 := Aside0.mk hy1
 have h0b : (x.f0 == 0) = true := beq_iff_eq.2 h0
 have hy0 : y.f0 = 0 := by omega
 have a1 := hx8 h0
 have a2 := hy10 hy0
 have HE := Aside0.mk he
 have he2 : (x.f0 == y.f0) = true := beq_iff_eq.2 he
 have he3 : (x.f0 != y.f0) = false := by rw [bne, he2]; rfl
 clear he
 have h5b : (code == 5) = false := beq_eq_false_iff_ne.2 h5
 have h6b : (code == 6) = false := beq_eq_false_iff_ne.2 h6
 have h7b : (code == 7) = false := beq_eq_false_iff_ne.2 (fun h => h78 (.inl h))
 have h8b : (code == 8) = false := beq_eq_false_iff_ne.2 (fun h => h78 (.inr h))
 clear h5 h6 h78
 show Calls _ _ _ _ (fun e w' => e = .returned (.tuple #[thV ⟨0, n, ⟨#[]⟩⟩, .int .i64 0]) ∧ Below w.heap.size w w')
 rw [thV_num]
 have HS := Aside0.mk (sum_some hx.2 hy.2 hs)
 clear hs hx6 hy0 h0
 clear hx4 hy4 hx7 hx8 hx9 hx10 hy7 hy8 hy9 hy10 hx hy hx1 hy1
 go_enter Try.func78, Try.ntmps78
 go_wp2_with fail
 refine (HX4.out _).mono ?_
 rintro e w1 ⟨rfl, hb1⟩
 have HB1 := Aside0.mk hb1
 clear hb1
 go_wp2_with fail
 refine (HY4.out _).mono ?_
 rintro e w2 ⟨rfl, hb2⟩
 have HB2 := Aside0.mk (zah HB1.out hb2)
 clear hb2
 go_wp2_with fail
 go_at_call 82
 refine (HS.out _).mono ?_
 rintro e w3 ⟨rfl, hb3⟩
 go_wp2_with fail
 go_ret2
 exact ⟨rfl, zah (zaa (zaa HB2.out _) _) hb3⟩
set_option maxHeartbeats 1000000 in
set_option maxRecDepth 100000 in
theorem two_type (x y : SValue) (w : World) (hx : okV x) (hy : okV y) (code : Int) (he : x.f0 = y.f0) (h6 : ¬ code = 6) (h5 : ¬ code = 5) (h78 : ¬ (code = 7 ∨ code = 8)) (h0 : ¬ x.f0 = 0) : Calls Try.prog 78 #[.int .i64 code, thV x, thV y] w (twoPost (.error 5) w) := by
 obtain ⟨t, v, f, hx1, hx2, hx3, hx4, ⟨px, hx5⟩, ⟨nx, hx6⟩, hx7, hx8, hx9, hx10⟩ := zaV hx.1
 obtain ⟨s, u, g, hy1, hy2, hy3, hy4, ⟨py, hy5⟩, ⟨ny, hy6⟩, hy7, hy8, hy9, hy10⟩ := zaV hy.1
 rw [hx1, hy1]
 have HX4 := Aside0.mk hx4
 have HY4 := Aside0.mk hy4
 have HVX := Aside0.mk hx
 have HVY := Aside0.mk hy
 have HX1 := Aside0.mk hx1
 have HY1 := Aside0.mk hy1
 have HE := Aside0.mk he
 have he2 : (x.f0 == y.f0) = true := beq_iff_eq.2 he
 have he3 : (x.f0 != y.f0) = false := by rw [bne, he2]; rfl
 clear he
 have h5b : (code == 5) = false := beq_eq_false_iff_ne.2 h5
 have h6b : (code == 6) = false := beq_eq_false_iff_ne.2 h6
 have h7b : (code == 7) = false := beq_eq_false_iff_ne.2 (fun h => h78 (.inl h))
 have h8b : (code == 8) = false := beq_eq_false_iff_ne.2 (fun h => h78 (.inr h))
 clear h5 h6 h78
 have h0b : (x.f0 == 0) = false := beq_eq_false_iff_ne.2 h0
 clear h0
 clear hx4 hy4 hx7 hx8 hx9 hx10 hy7 hy8 hy9 hy10 hx hy hx1 hy1
 go_enter Try.func78, Try.ntmps78
 go_wp2_with fail
 refine (HX4.out _).mono ?_
 rintro e w1 ⟨rfl, hb1⟩
 have HB1 := Aside0.mk hb1
 clear hb1
 go_wp2_with fail
 refine (HY4.out _).mono ?_
 rintro e w2 ⟨rfl, hb2⟩
 have HB2 := Aside0.mk (zah HB1.out hb2)
 clear hb2
 go_wp2_with fail
 go_ret2
 exact ⟨rfl, zaa (zaa HB2.out _) _⟩
theorem two_told (code : Int) (x y : SValue) (w : World) (hx : okV x) (hy : okV y) {r : Except Int SValue} (hr : twoV code x y = r) : Calls Try.prog 78 #[.int .i64 code, thV x, thV y] w (twoPost r w) := by
 unfold twoV at hr
 by_cases he : x.f0 ≠ y.f0
 ·rw [if_pos he] at hr; subst hr; exact two_differ x y w hx hy code he
 rw [if_neg he] at hr
 replace he := Classical.byContradiction he
 by_cases h6 : code = 6
 ·rw [if_pos h6] at hr; subst hr h6; exact two_six x y w hx hy he
 rw [if_neg h6] at hr
 by_cases h5 : code = 5
 ·rw [if_pos h5] at hr; subst h5
  by_cases h1 : x.f0 = 1
  ·rw [if_pos h1] at hr; subst hr; exact two_five_b x y w hx hy he h1
  ·rw [if_neg h1] at hr; subst hr; exact two_five x y w hx hy he h1
 rw [if_neg h5] at hr
 by_cases h78 : code = 7 ∨ code = 8
 ·rw [if_pos h78] at hr
  by_cases h1 : x.f0 = 1
  ·rw [if_pos h1] at hr; subst hr
   rcases h78 with rfl | rfl
   ·exact two_seven x y w hx hy he h1
   ·exact two_eight x y w hx hy he h1
  ·rw [if_neg h1] at hr; subst hr
   rcases h78 with rfl | rfl
   ·exact two_seven_no x y w hx hy he h1
   ·exact two_eight_no x y w hx hy he h1
 rw [if_neg h78] at hr
 by_cases h0 : x.f0 = 0
 ·rw [if_pos h0] at hr
  cases hs : sumV code x.f1 y.f1 with
  | none => rw [hs] at hr; subst hr; exact two_over x y w hx hy code he h6 h5 h78 h0 hs
  | some n => rw [hs] at hr; subst hr; exact two_sum x y w hx hy code he h6 h5 h78 h0 hs
 ·rw [if_neg h0] at hr; subst hr; exact two_type x y w hx hy code he h6 h5 h78 h0
end Go.Proofs.Ytooemobolfoefaa.P

