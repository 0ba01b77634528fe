/- What QueryGrows's row stands on: words, contracts of the functions that it reaches, plain facts, its walk (part 8): no condition but those that each theorem names. -/
import Derived.Test.YtooemobolfoefaaZQueryGrows7
set_option linter.unusedVariables false
set_option linter.unusedSimpArgs false
namespace Go.Proofs.Ytooemobolfoefaa.P
open Go.RowKit Go.Proofs.YtooemobolfoefaaW.PrintWords Go.Proofs.YtooemobolfoefaaW.PrintLast Go.Proofs.YtooemobolfoefaaW.PrintMore
attribute [local go_sem] za1 zaZ zbb zba zaU zaT za0 zaY   -- for this text's walks alone
set_option linter.unusedVariables false
set_option linter.unusedSimpArgs false
structure WrAt (w0 : World) (B : Nat) (xs : List Int) (w : World) : Prop where
 ex : ∃ v, w.heap[B]? = some (.cells #[v] 52 (0, 0)) ∧ Own8 5 w0.heap.size w v xs
 below : Below w0.heap.size w0 w
 hB : w0.heap.size ≤ B
theorem WrAt.grow {w0 w w1 : World} {B : Nat} {xs : List Int} (h : WrAt w0 B xs w) (hb : Below w.heap.size w w1) : WrAt w0 B xs w1 := by
 obtain ⟨⟨v, h1, h2⟩, h3, h4⟩ := h
 exact ⟨⟨v, zak h1 hb, h2.below hb⟩, zah h3 hb, h4⟩
theorem WrAt.lt {w0 w : World} {B : Nat} {xs : List Int} (h : WrAt w0 B xs w) : B < w.heap.size := by
 obtain ⟨⟨v, h1, _⟩, _, _⟩ := h
 exact zay h1
theorem WrAt.put {w0 w : World} {B : Nat} {v0 v : Value} {xs : List Int} (hk : w.heap[B]? = some (.cells #[v0] 52 (0, 0))) (ho : Own8 5 w0.heap.size w v xs) (hb : Below w0.heap.size w0 w) (hB : w0.heap.size ≤ B) : WrAt w0 B xs (w.setCell ⟨B, 0, none⟩ v) :=
 ⟨⟨v, zas hk 0 v rfl, Kd.R_set ho hk (by decide) 0 v⟩, hb.setCell (p := ⟨B, 0, none⟩) hB v, hB⟩
def numsL (l : List Int) : List Int := (l.map fun n => zaK n.toNat).flatten
theorem numsL_snoc (l : List Int) (k : Nat) (h : k < l.length) : numsL (l.take (k + 1)) = numsL (l.take k) ++ zaK (l.getD k 0).toNat := by
 unfold numsL
 rw [take_snoc 0 l k h, List.map_append, List.flatten_append]
 simp
theorem numsL_len : ∀ {l : List Int}, (∀ n ∈ l, 0 ≤ n ∧ n < 9223372036854775808) → (numsL l).length ≤ 10 * l.length
 | [], _ => Nat.le_refl _
 | n :: l, h => by
  have h1 := h n (List.mem_cons_self ..)
  have ih := numsL_len (l := l) (fun y hy => h y (List.mem_cons_of_mem _ hy))
  have h2 := lePut_len (n := n.toNat) (by omega)
  unfold numsL at ih ⊢
  rw [List.map_cons, List.flatten_cons, List.length_append, List.length_cons]
  omega
def Kp (B : Nat) (w w' : World) : Prop := ∀ i cs t, i ≠ B → 5 ≠ t → w.heap[i]? = some (.cells cs t (0, 0)) → w'.heap[i]? = some (.cells cs t (0, 0))
theorem Kp.refl (B : Nat) (w : World) : Kp B w w := fun _ _ _ _ _ h => h
theorem Kp.trans {B : Nat} {a b c : World} (h : Kp B a b) (k : Kp B b c) : Kp B a c := fun i cs t hi ht hh => k i cs t hi ht (h i cs t hi ht hh)
theorem Kp.below {B : Nat} {a b c : World} (h : Kp B a b) (k : Below b.heap.size b c) : Kp B a c := fun i cs t hi ht hh => zak (h i cs t hi ht hh) k
theorem Kp.set {B j : Nat} {a b : World} (h : Kp B a b) (u : Value) : Kp B a (b.setCell ⟨B, j, none⟩ u) := fun i cs t hi ht hh => zaM (h i cs t hi ht hh) (p := ⟨B, j, none⟩) hi u
theorem Kp.grown {B base : Nat} {a b c : World} {v : Value} {xs : List Int} (h : Kp B a b) (hg : b.grownBy c v.ownBlock) (ho : Own8 5 base b v xs) : Kp B a c := fun i cs t hi ht hh => za3 (h i cs t hi ht hh) hg (Own8.ne ho (h i cs t hi ht hh) ht)
def wrPost (w0 : World) (B : Nat) (xs : List Int) (w : World) (e : Ending) (w' : World) : Prop := e = .returned (.tuple #[]) ∧ WrAt w0 B xs w' ∧ Kp B w w'
set_option maxHeartbeats 4000000 in
set_option maxRecDepth 100000 in
theorem zbu (w0 : World) (B : Nat) (xs : List Int) (ns : List Int) (A : Option Addr) (c : Nat) (w : World) (h : WrAt w0 B xs w) (hr : ∀ w', Kp B w w' → Below w0.heap.size w0 w' → Kd.C (Kd.int .i64) w' A ns.length ns) (hns : ∀ n ∈ ns, 0 ≤ n ∧ n < 9223372036854775808) (hl : xs.length ≤ 100000) (hn : ns.length ≤ 1000) :
  Calls Try.prog 24 #[.pointer (some ⟨B, 0, none⟩), .slice A ns.length c] w (wrPost w0 B (xs ++ numsL ns) w) := by
 have HH := Aside0.mk h
 have HR := Aside0.mk hr
 have HNS := Aside0.mk hns
 clear h hr hns
 go_enter Try.func24, Try.ntmps24
 go_wp2_with fail
 go_loopw [5, 8] (fun _ v8 w' => ∃ k : Nat, v8 = .int .i64 k ∧ k ≤ ns.length ∧ WrAt w0 B (xs ++ numsL (ns.take k)) w' ∧ Kp B w w') (fun _ i _ => ns.length - (intOf i).toNat)
 case atStart => exact ⟨0, rfl, Nat.zero_le _, by rw [show xs ++ numsL (ns.take 0) = xs from by simp [numsL]]; exact HH.out, Kp.refl _ _⟩
 case round =>
  obtain ⟨k, rfl, hk, hwr, ho⟩ := hrel
  have HW := Aside0.mk hwr
  have HO := Aside0.mk ho
  by_cases hlt : k < ns.length
  ·obtain ⟨ad, e, hx⟩ := Kd.at_int (HR.out _ ho hwr.below) (k : Int) (by omega) (by omega)
   subst e
   simp only [Int.toNat_natCast] at hx
   have hin := HNS.out _ (getD_in 0 hlt)
   have HSN := Aside0.mk (numsL_snoc ns k hlt)
   have hle := numsL_len (l := ns.take k) (fun n hn => HNS.out n (List.mem_of_mem_take hn))
   rw [List.length_take] at hle
   rw [show rd ns (k : Int) = ns.getD k 0 from rfl] at hx
   obtain ⟨a, ha⟩ := Int.eq_ofNat_of_zero_le hin.1
   obtain ⟨pre, hpre⟩ : ∃ pre, xs ++ numsL (ns.take k) = pre := ⟨_, rfl⟩
   have hpl : pre.length ≤ 110000 := by rw [← hpre, List.length_append]; omega
   have ha2 : a < 18446744073709551616 := by omega
   have HPN : Aside0 (xs ++ numsL (ns.take (k + 1)) = pre ++ zaK a) := ⟨by rw [HSN.out, ha, Int.toNat_natCast, ← List.append_assoc, hpre]⟩
   rw [hpre] at HW hwr
   rw [ha] at hx
   have hal := lePut_len (n := a) ha2
   obtain ⟨q2, hq2⟩ : ∃ q, pre ++ zaK a = q := ⟨_, rfl⟩
   have HQ2 := Aside0.mk hq2
   rw [hq2] at HPN
   have hw64 : IntKind.u64.wrap (a : Int) = (a : Int) := u64_small' ha2
   obtain ⟨⟨v, g1, g2⟩, g3, g4⟩ := hwr
   obtain ⟨k1, k2, k3, k4⟩ := know g1
   have HK := Aside0.mk g1
   have HG := Aside0.mk g2
   have HB := Aside0.mk g3
   have hk1 : k + 1 ≤ ns.length := hlt
   have hdr : ∀ m i, (wr.drewN m).cell? ⟨B, i, none⟩ = #[v][i]? := fun m i => zad (zai HK.out m) i
   clear hin hle hpre ha g1 g2 g3 ho hq2
   go_wp2_with fail
   go_region_law (first
    | (go_simp; go_at_call 41; refine (le_Put.told a _ ha2).mono ?_; rintro e w1 ⟨v1, rfl, ho1, hb1⟩; obtain ⟨A1, c1, rfl, hc1, hr1⟩ := Own8.reads ho1; have HR1 := Aside0.mk hr1; have HB1 := Aside0.mk (zah (zaW HB.out) hb1); have HK1 := Aside0.mk (zak (zaj HK.out) hb1); have HV1 := Aside0.mk (Own8.below (show Own8 _ _ _ _ _ from Kd.R_drew HG.out) hb1); obtain ⟨j1, j2, j3, j4⟩ := know HK1.out; clear ho1 hr1)
    | (refine app8t_step (o := ⟨some 19, _, _, _, _, _⟩) (w0 := w0) w0.heap.size ?hw (.tmp 15) (.tmp 18) 52 25 5 rfl Try.underlying52 Try.underlying25 info5 v pre (zaK a) A1 (zaK a).length c1 ?hs ?hx ?HO ?HR ?HB ?hZ ?hL ?_; (case hw => rfl); (case hs => rfl); (case hx => rfl); (case hL => omega); (case HO => exact HV1.out); (case HR => exact HR1.out); (case HB => exact HB1.out); (case hZ => exact zan HB1.out); intro v2 w2 ho2 hb2 hg2; have HKP := Aside0.mk ((((HO.out.below (zaW (Below.refl _ _))).below hb1).grown hg2 HV1.out)); rw [HQ2.out] at ho2; obtain ⟨A2, c2, hv2⟩ := Kd.R_slice ho2; subst hv2; have HO2 := Aside0.mk ho2; have HB2 := Aside0.mk hb2; have HK2 := Aside0.mk (za3 HK1.out hg2 (Own8.ne HV1.out HK1.out (by decide))); obtain ⟨m1, m2, m3, m4⟩ := know HK2.out; clear ho2 hb2))
   all_goals
    have hwr2 := WrAt.put HK2.out HO2.out HB2.out g4
    have hon := Kp.set (j := 0) HKP.out (.slice A2 q2.length c2)
    go_wp2_with fail
    go_roundw
    case rel => exact ⟨k + 1, by go_num, hk1, by rw [HPN.out]; exact hwr2, hon⟩
    case measure => simp [intOf]; omega
  ·obtain rfl : k = ns.length := by omega
   rw [List.take_length] at HW
   go_wp2_with fail
   go_end0
   exact ⟨rfl, HW.out, HO.out⟩
theorem C_ints {W : World} {b T : Nat} (ns : List Int) (h : W.heap[b]? = some (.cells (ns.map fun n => Value.int .i64 n).toArray T (0, 0))) (hl : ns.length ≤ 1000) : Kd.C (Kd.int .i64) W (some ⟨b, 0, none⟩) ns.length ns := by
 refine ⟨rfl, by omega, fun _ => ⟨_, rfl, fun j x hj => ?_⟩⟩
 refine ⟨[.int .i64 x], rfl, rfl, fun i u hu => ?_⟩
 have hi : i < 1 := by have := (List.getElem?_eq_some_iff.1 hu).1; simpa using this
 obtain rfl : i = 0 := by omega
 rw [show (Kd.int .i64).sz = 1 from rfl, add_plain, zad h]
 rw [List.getElem?_toArray, List.getElem?_map]
 simpa [hj] using hu
set_option maxHeartbeats 1000000 in
set_option maxRecDepth 100000 in
theorem wtext_told (w0 : World) (B : Nat) (xs : List Int) (s : ByteArray) (w : World) (h : WrAt w0 B xs w) (hs : s.size ≤ 12) (hl : xs.length ≤ 90000) :
  Calls Try.prog 22 #[.pointer (some ⟨B, 0, none⟩), .string s] w (wrPost w0 B (xs ++ textL s) w) := by
 have HH := Aside0.mk h
 have hlt := h.lt
 have HBX := Aside0.mk (zaa (Below.refl w.heap.size w) (.cells #[.int .i64 (s.size : Int)] 3))
 have HN := Aside0.mk (zaw w (.cells #[.int .i64 (s.size : Int)] 3))
 have hne : w.heap.size ≠ B := by omega
 have hP : numsL [(s.size : Int)] = zaK s.size := by simp [numsL]
 have hlp := lePut_short (n := s.size) (by omega)
 obtain ⟨P1, hP1⟩ : ∃ P, xs ++ zaK s.size = P := ⟨_, rfl⟩
 have hl1 : P1.length ≤ 90010 := by rw [← hP1, List.length_append]; omega
 have HP1 := Aside0.mk (show xs ++ numsL [(s.size : Int)] = P1 from by rw [hP, hP1])
 have HP2 := Aside0.mk (show xs ++ textL s = P1 ++ bytesOf s from by rw [← hP1]; unfold textL; rw [List.append_assoc])
 obtain ⟨P2, hP2⟩ : ∃ P, P1 ++ bytesOf s = P := ⟨_, rfl⟩
 have HP3 := Aside0.mk hP2
 rw [HP2.out, hP2]
 clear h hP hP1 hP2 hlp
 go_enter Try.func22, Try.ntmps22
 go_wp2_with fail
 go_at_call 24
 refine (zbu w0 B xs [(s.size : Int)] (some ⟨w.heap.size, 0, none⟩) 1 _ (HH.out.grow HBX.out) (fun w' hk _ => C_ints (T := 3) _ (hk _ _ _ hne (by decide) HN.out) (by show 1 ≤ 1000; decide)) (fun n hn => by rw [List.mem_singleton.1 hn]; omega) (by omega) (by show 1 ≤ 1000; decide)).mono ?_
 rintro e w1 ⟨rfl, hwr, hkp⟩
 rw [HP1.out] at hwr
 have HK1 := Aside0.mk (((Kp.refl B w).below HBX.out).trans hkp)
 obtain ⟨⟨v, g1, g2⟩, g3, g4⟩ := hwr
 have HG1 := Aside0.mk g1
 have HG2 := Aside0.mk g2
 have HG3 := Aside0.mk g3
 obtain ⟨k1, k2, k3, k4⟩ := know g1
 clear g1 g2 g3 hkp
 go_wp2_with ((with_reducible refine zaD (b := .append) (xs := #[.tmp 12, .tmp 13]) rfl ?_); at_builtin; refine app8s (w0 := w0) w0.heap.size rfl _ _ 52 9 5 rfl Try.underlying52 Try.underlying9 info5 v P1 s rfl rfl HG2.out HG3.out (zan HG3.out) (by omega) ?_; intro v2 w2 ho2 hb2 hg2; have HKP := Aside0.mk (HK1.out.grown hg2 HG2.out); rw [HP3.out] at ho2; obtain ⟨A2, c2, hv2⟩ := Kd.R_slice ho2; subst hv2; have HO2 := Aside0.mk ho2; have HB2 := Aside0.mk hb2; have HK2 := Aside0.mk (za3 HG1.out hg2 (Own8.ne HG2.out HG1.out (by decide))); obtain ⟨m1, m2, m3, m4⟩ := know HK2.out; clear ho2 hb2)
 go_end0
 exact ⟨rfl, WrAt.put HK2.out HO2.out HB2.out g4, Kp.set (j := 0) HKP.out (.slice A2 P2.length c2)⟩
set_option maxHeartbeats 1000000 in
set_option maxRecDepth 100000 in
theorem wops_told (w0 : World) (B : Nat) (xs : List Int) (l : List SOp) (A : Option Addr) (c : Nat) (w : World) (h : WrAt w0 B xs w) (hr : Kd.C kOp w A l.length l) (hc : l.length ≤ c) (hm : mayO l = true) (hi : ∀ x ∈ l, i64V x.f2) (hl : xs.length ≤ 90000) :
  Calls Try.prog 23 #[.pointer (some ⟨B, 0, none⟩), .slice A l.length c] w (wrPost w0 B (xs ++ zbo l) w) := by
 have HH := Aside0.mk h
 have HR := Aside0.mk hr
 have HC := Aside0.mk hc
 have HM := Aside0.mk hm
 have HI := Aside0.mk hi
 have hlen := bytesO_len hm hi
 obtain ⟨P, hP⟩ : ∃ P, zbo l = P := ⟨_, rfl⟩
 have HP := Aside0.mk hP
 obtain ⟨P2, hP2⟩ : ∃ Q, xs ++ P = Q := ⟨_, rfl⟩
 have HP2 := Aside0.mk hP2
 rw [hP] at hlen ⊢
 rw [hP2]
 clear h hr hc hm hi hP hP2
 go_enter Try.func23, Try.ntmps23
 go_wp2_with fail
 go_at_call 40
 refine (putO_told l A c _ HR.out HC.out HI.out HM.out (show (if true = true then zbo l else []) = P from HP.out)).mono ?_
 rintro e w1 ⟨v1, rfl, ho1, hb1⟩
 obtain ⟨A1, c1, rfl, hc1, hr1⟩ := Own8.reads ho1
 have HR1 := Aside0.mk hr1
 have HK1 := Aside0.mk ((Kp.refl B w).below hb1)
 obtain ⟨⟨v, g1, g2⟩, g3, g4⟩ := HH.out.grow hb1
 have HG1 := Aside0.mk g1
 have HG2 := Aside0.mk g2
 have HG3 := Aside0.mk g3
 obtain ⟨k1, k2, k3, k4⟩ := know g1
 clear g1 g2 g3 hb1 ho1 hr1 hc1
 go_wp2_with ((with_reducible refine zaD (b := .append) (xs := #[.tmp 14, .tmp 15]) rfl ?_); at_builtin; refine app8t (w0 := w0) w0.heap.size rfl _ _ 52 25 5 rfl Try.underlying52 Try.underlying25 info5 v xs P A1 P.length c1 rfl rfl HG2.out HR1.out HG3.out (zan HG3.out) (by omega) ?_; intro v2 w2 ho2 hb2 hg2; have HKP := Aside0.mk (HK1.out.grown hg2 HG2.out); rw [HP2.out] at ho2; obtain ⟨A2, c2, hv2⟩ := Kd.R_slice ho2; subst hv2; have HO2 := Aside0.mk ho2; have HB2 := Aside0.mk hb2; have HK2 := Aside0.mk (za3 HG1.out hg2 (Own8.ne HG2.out HG1.out (by decide))); obtain ⟨m1, m2, m3, m4⟩ := know HK2.out; clear ho2 hb2)
 go_end0
 exact ⟨rfl, WrAt.put HK2.out HO2.out HB2.out g4, Kp.set (j := 0) HKP.out (.slice A2 P2.length c2)⟩
set_option maxHeartbeats 1000000 in
set_option maxRecDepth 100000 in
theorem putQ_no (q : SQuery) (A : Option Addr) (c : Nat) (w : World) (hr : Kd.C kStep w A q.f0.length q.f0) (hc : q.f0.length ≤ c) (hq : okQ q) (hn : q.f0.length < 4611686018427387904) (hm : mayQ q = false) :
  Calls Try.prog 11 #[.agg #[.slice A q.f0.length c, .int .i64 q.f1, .int .i64 q.f2, .int .i64 q.f3, .int .i64 q.f4]] w (bytesPost 5 [] false w) := by
 have HR := Aside0.mk hr
 have HC := Aside0.mk hc
 have HQ := Aside0.mk hq
 have HM := Aside0.mk hm
 clear hr hc hq hm
 go_enter Try.func11, Try.ntmps11
 go_wp2_with fail
 go_at_call 21
 refine (mayQ_told q A c _ (Kd.C_below HR.out (zaa (Below.refl _ _) _)) HC.out HQ.out hn HM.out).mono ?_
 rintro e w1 ⟨rfl, hb1⟩
 go_wp2_with fail
 go_ret2
 exact ⟨_, rfl, Kd.R_nil _ _ _ _ _, zah (zaa (Below.refl _ _) _) hb1⟩
set_option maxHeartbeats 8000000 in
set_option maxRecDepth 100000 in
theorem putQ_go (q : SQuery) (A : Option Addr) (c : Nat) (w : World) (hr : Kd.C kStep w A q.f0.length q.f0) (hc : q.f0.length ≤ c) (hq : okQ q) (hm : mayQ q = true) :
  Calls Try.prog 11 #[.agg #[.slice A q.f0.length c, .int .i64 q.f1, .int .i64 q.f2, .int .i64 q.f3, .int .i64 q.f4]] w (bytesPost 5 (bytesQ q) true w) := by
 have HR := Aside0.mk hr
 have HC := Aside0.mk hc
 have HQ := Aside0.mk hq
 have HM := Aside0.mk hm
 have HST := Aside0.mk (mayQ_steps hm)
 obtain ⟨_, g1, g2, g3, g4, g5, g6, _, g7, g8, g9, g10⟩ := mayQ_iff.1 hm
 have hl0 := lePut_short (n := q.f0.length) (by omega)
 have HSL := Aside0.mk (fun k => stepsL_len (l := q.f0.take k) (fun x hx => ⟨hq x (List.mem_of_mem_take hx), mayQ_steps hm x (List.mem_of_mem_take hx)⟩))
 have HBQ := Aside0.mk (show bytesQ q = zaK q.f0.length ++ zbx q.f0 ++ numsL [q.f1, q.f2, q.f3, q.f4] from by unfold bytesQ numsL; simp)
 obtain ⟨P0, hP0⟩ : ∃ P, zaK q.f0.length = P := ⟨_, rfl⟩
 have HP0 := Aside0.mk (show [] ++ numsL [(q.f0.length : Int)] = P0 from by rw [← hP0]; simp [numsL])
 rw [hP0] at hl0 HBQ
 have HZ := Aside0.mk (zaw w (.cells #[.slice A q.f0.length c, .int .i64 q.f1, .int .i64 q.f2, .int .i64 q.f3, .int .i64 q.f4] 24))
 have HB0 := Aside0.mk (zaa (Below.refl w.heap.size w) (.cells #[.slice A q.f0.length c, .int .i64 q.f1, .int .i64 q.f2, .int .i64 q.f3, .int .i64 q.f4] 24))
 clear hr hc hq hm hP0
 go_enter Try.func11, Try.ntmps11
 go_wp2_with fail
 go_at_call 21
 refine (mayQ_told q A c _ (Kd.C_below HR.out HB0.out) HC.out HQ.out (by omega) HM.out).mono ?_
 rintro e w1 ⟨rfl, hb1⟩
 have HB1 := Aside0.mk (zah HB0.out hb1)
 have hz1 := zak HZ.out hb1
 have HWB := Aside0.mk (zaw w1 (.cells #[.slice none 0 0] 52))
 have HBB := Aside0.mk (zaa HB1.out (.cells #[.slice none 0 0] 52))
 have HW1 : Aside0 (WrAt w w1.heap.size [] (w1.alloc (.cells #[.slice none 0 0] 52))) := ⟨⟨⟨_, HWB.out, Kd.R_nil _ _ _ _ _⟩, HBB.out, HB1.out.size⟩⟩
 have HZ1 := Aside0.mk (zag hz1 (.cells #[.slice none 0 0] 52))
 obtain ⟨z1, z2, z3, z4⟩ := know hz1
 have hzlt := zay hz1
 clear hb1 hz1
 go_upto_region 5 with fail
 generalize hWW : w1.alloc (.cells #[.slice none 0 0] 52) = W2 at HWB HBB HW1 HZ1 ⊢
 clear hWW z1 z2 z3 z4
 generalize w1.heap.size = B at *
 obtain ⟨y1, y2, y3, y4⟩ := know HZ1.out
 have hzne : w.heap.size ≠ B := by omega
 have hbn := zaa (Below.refl W2.heap.size W2) (.cells #[.int .i64 (q.f0.length)] 3)
 have hne_ : W2.heap.size ≠ B := by have := (HW1.out).lt; omega
 go_wp2_with fail
 go_at_call 24
 refine (zbu w B _ [(q.f0.length : Int)] (some ⟨W2.heap.size, 0, none⟩) 1 _ ((HW1.out).grow hbn) (fun w' hk _ => C_ints (T := 3) _ (hk _ _ _ hne_ (by decide) (zaw W2 (.cells #[.int .i64 (q.f0.length)] 3))) (by show 1 ≤ 1000; decide)) (fun n hn => by rw [List.mem_singleton.1 hn]; omega) (by show 0 ≤ 100000; decide) (by show 1 ≤ 1000; decide)).mono ?_
 rintro e wa1 ⟨rfl, hwr, hkp⟩
 rw [HP0.out] at hwr
 have HWwa1 := Aside0.mk hwr
 have HKzwa1 := Aside0.mk (hkp _ _ _ hzne (by decide) (zag (HZ1.out) _))
 obtain ⟨kzwa1a, kzwa1b, kzwa1c, kzwa1d⟩ := know HKzwa1.out
 clear y1 y2 y3 y4
 clear hwr hkp
 clear hbn hne_
 go_wp2_with fail
 go_loopw [8, 22] (fun _ v22 w' => ∃ k : Nat, v22 = .int .i64 k ∧ k ≤ q.f0.length ∧ WrAt w B (P0 ++ zbx (q.f0.take k)) w' ∧ w'.heap[w.heap.size]? = some (.cells #[.slice A q.f0.length c, .int .i64 q.f1, .int .i64 q.f2, .int .i64 q.f3, .int .i64 q.f4] 24 (0, 0))) (fun _ i _ => q.f0.length - (intOf i).toNat)
 case atStart => exact ⟨0, rfl, Nat.zero_le _, by rw [show P0 ++ zbx (q.f0.take 0) = P0 from by simp [zbx]]; exact HWwa1.out, HKzwa1.out⟩
 case round =>
  obtain ⟨k, rfl, hk, hwr, hz⟩ := hrel
  have HWR := Aside0.mk hwr
  have HZR := Aside0.mk hz
  have HBR := Aside0.mk hwr.below
  clear kzwa1a kzwa1b kzwa1c kzwa1d
  by_cases hlt : k < q.f0.length
  ·obtain ⟨ad, A1, c1, A6, c6, e, hx0, hx1, hx2, hx3, hx4, hx5, hx6, hl1, hi1, hl6, hi6⟩ := zbr HR.out (k : Int) (by omega) (by omega)
   subst e
   simp only [Int.toNat_natCast] at hx0 hx1 hx2 hx3 hx4 hx5 hx6
   rw [show zam q.f0 (k : Int) = q.f0.getD k zbm from rfl] at hx0 hx1 hx2 hx3 hx4 hx5 hx6 hl1 hi1 hl6 hi6
   have hin := getD_in zbm hlt
   obtain ⟨fa, fb, hst⟩ := HST.out _ hin
   have HOK := Aside0.mk (HQ.out _ hin)
   have HSN := Aside0.mk (stepsL_snoc q.f0 k hlt)
   have hsl := HSL.out k
   rw [List.length_take] at hsl
   generalize q.f0.getD k zbm = x at *
   replace hx0 := (HBR.out.cell (World.block_lt_of_cell? w _ hx0)).trans hx0
   replace hx1 := (HBR.out.cell (World.block_lt_of_cell? w _ hx1)).trans hx1
   replace hx2 := (HBR.out.cell (World.block_lt_of_cell? w _ hx2)).trans hx2
   replace hx3 := (HBR.out.cell (World.block_lt_of_cell? w _ hx3)).trans hx3
   replace hx4 := (HBR.out.cell (World.block_lt_of_cell? w _ hx4)).trans hx4
   replace hx5 := (HBR.out.cell (World.block_lt_of_cell? w _ hx5)).trans hx5
   replace hx6 := (HBR.out.cell (World.block_lt_of_cell? w _ hx6)).trans hx6
   have HI1 := Aside0.mk hi1
   have HI6 := Aside0.mk hi6
   have HL1 := Aside0.mk hl1
   have HL6 := Aside0.mk hl6
   obtain ⟨hgd, hask, hm1, hm2, hm3, _⟩ := stepB_iff.1 hst
   have has := asked_size hask
   have HAS := Aside0.mk has.1
   have hsz0 := has.2
   obtain ⟨pre, hpre⟩ : ∃ p, P0 ++ zbx (q.f0.take k) = p := ⟨_, rfl⟩
   have HPRE := Aside0.mk hpre
   have hpl : pre.length ≤ 6000 := by rw [← hpre, List.length_append]; omega
   rw [hpre] at HWR hwr
   have HIA := Aside0.mk (i64B_iff.1 HOK.out.1)
   have HIB := Aside0.mk (i64B_iff.1 HOK.out.2)
   have hla := bytesO_len has.1 HIA.out
   have htl := textL_small hsz0
   obtain ⟨p1, hp1⟩ : ∃ p, pre ++ textL x.f0 = p := ⟨_, rfl⟩
   obtain ⟨p2, hp2⟩ : ∃ p, p1 ++ zbo x.f1 = p := ⟨_, rfl⟩
   obtain ⟨p3, hp3⟩ : ∃ p, p2 ++ numsL [x.f2, x.f3] = p := ⟨_, rfl⟩
   have hlm := numsL_len (l := [x.f2, x.f3]) (fun n hn => by simp only [List.mem_cons, List.not_mem_nil, or_false] at hn; rcases hn with rfl | rfl <;> omega)
   rw [show [x.f2, x.f3].length = 2 from rfl] at hlm
   have q1 : p1.length ≤ 6013 := by rw [← hp1, List.length_append]; omega
   have q2 : p2.length ≤ 6700 := by rw [← hp2, List.length_append]; omega
   have q3 : p3.length ≤ 6720 := by rw [← hp3, List.length_append]; omega
   have HP1 := Aside0.mk hp1
   have HP2 := Aside0.mk hp2
   have HP3 := Aside0.mk hp3
   have hbx := zaa (Below.refl wr.heap.size wr) (.cells #[.string x.f0, .slice A1 x.f1.length c1, .int .i64 x.f2, .int .i64 x.f3, .bool x.f4, .string x.f5, .slice A6 x.f6.length c6] 40)
   have HWX := Aside0.mk (hwr.grow hbx)
   have HX := Aside0.mk (zaw wr (.cells #[.string x.f0, .slice A1 x.f1.length c1, .int .i64 x.f2, .int .i64 x.f3, .bool x.f4, .string x.f5, .slice A6 x.f6.length c6] 40))
   have HZX := Aside0.mk (zag hz (.cells #[.string x.f0, .slice A1 x.f1.length c1, .int .i64 x.f2, .int .i64 x.f3, .bool x.f4, .string x.f5, .slice A6 x.f6.length c6] 40))
   have hxne : wr.heap.size ≠ B := by have := hwr.lt; omega
   have hmn : ∀ n ∈ [x.f2, x.f3], 0 ≤ n ∧ n < 9223372036854775808 := fun n hn => by simp only [List.mem_cons, List.not_mem_nil, or_false] at hn; rcases hn with rfl | rfl <;> omega
   have HMN := Aside0.mk hmn
   have hk1 : k + 1 ≤ q.f0.length := hlt
   obtain ⟨kx1, kx2, kx3, kx4⟩ := know HX.out
   clear hpre hi1 hi6 hl1 hl6 hsl hst hask has hla htl hp1 hp2 hp3 hlm hbx hwr hz hmn hin
   go_wp2_with fail
   go_at_call 22
   refine (wtext_told w B _ x.f0 _ (HWX.out) hsz0 (by omega)).mono ?_
   rintro e wb1 ⟨rfl, hwr, hkp⟩
   rw [HP1.out] at hwr
   have HWwb1 := Aside0.mk hwr
   have HKxwb1 := Aside0.mk (hkp _ _ _ hxne (by decide) (HX.out))
   obtain ⟨kxwb1a, kxwb1b, kxwb1c, kxwb1d⟩ := know HKxwb1.out
   have HKzwb1 := Aside0.mk (hkp _ _ _ hzne (by decide) (HZX.out))
   obtain ⟨kzwb1a, kzwb1b, kzwb1c, kzwb1d⟩ := know HKzwb1.out
   clear kx1 kx2 kx3 kx4
   clear hwr hkp
   go_wp2_with fail
   go_at_call 23
   refine (wops_told w B _ x.f1 A1 c1 _ (HWwb1.out) (Kd.C_below HI1.out (HWwb1.out).below) HL1.out HAS.out HIA.out (by omega)).mono ?_
   rintro e wb2 ⟨rfl, hwr, hkp⟩
   rw [HP2.out] at hwr
   have HWwb2 := Aside0.mk hwr
   have HKxwb2 := Aside0.mk (hkp _ _ _ hxne (by decide) (HKxwb1.out))
   obtain ⟨kxwb2a, kxwb2b, kxwb2c, kxwb2d⟩ := know HKxwb2.out
   have HKzwb2 := Aside0.mk (hkp _ _ _ hzne (by decide) (HKzwb1.out))
   obtain ⟨kzwb2a, kzwb2b, kzwb2c, kzwb2d⟩ := know HKzwb2.out
   clear kxwb1a kxwb1b kxwb1c kxwb1d kzwb1a kzwb1b kzwb1c kzwb1d
   clear hwr hkp
   have hbn := zaa (Below.refl wb2.heap.size wb2) (.cells #[.int .i64 (x.f2), .int .i64 (x.f3)] 3)
   have hne_ : wb2.heap.size ≠ B := by have := (HWwb2.out).lt; omega
   go_wp2_with fail
   go_at_call 24
   refine (zbu w B _ [(x.f2 : Int), (x.f3 : Int)] (some ⟨wb2.heap.size, 0, none⟩) 2 _ ((HWwb2.out).grow hbn) (fun w' hk _ => C_ints (T := 3) _ (hk _ _ _ hne_ (by decide) (zaw wb2 (.cells #[.int .i64 (x.f2), .int .i64 (x.f3)] 3))) (by show 2 ≤ 1000; decide)) HMN.out (by omega) (by show 2 ≤ 1000; decide)).mono ?_
   rintro e wb3 ⟨rfl, hwr, hkp⟩
   rw [HP3.out] at hwr
   have HWwb3 := Aside0.mk hwr
   have HKxwb3 := Aside0.mk (hkp _ _ _ hxne (by decide) (zag (HKxwb2.out) _))
   obtain ⟨kxwb3a, kxwb3b, kxwb3c, kxwb3d⟩ := know HKxwb3.out
   have HKzwb3 := Aside0.mk (hkp _ _ _ hzne (by decide) (zag (HKzwb2.out) _))
   obtain ⟨kzwb3a, kzwb3b, kzwb3c, kzwb3d⟩ := know HKzwb3.out
   clear kxwb2a kxwb2b kxwb2c kxwb2d kzwb2a kzwb2b kzwb2c kzwb2d
   clear hwr hkp
   clear hbn hne_
   rcases hgd with ⟨hg, _, hask2⟩ | ⟨hg, hn5, hn6⟩
   ·have has2 := asked_size hask2
    have HAS2 := Aside0.mk has2.1
    have hsz5 := has2.2
    have htl5 := textL_small hsz5
    obtain ⟨p4, hp4⟩ : ∃ p, p3 ++ numsL [(1 : Int)] = p := ⟨_, rfl⟩
    obtain ⟨p5, hp5⟩ : ∃ p, p4 ++ textL x.f5 = p := ⟨_, rfl⟩
    have hl1_ : (numsL [(1 : Int)]).length ≤ 10 := numsL_len (fun n hn => by rw [List.mem_singleton.1 hn]; decide)
    have q4 : p4.length ≤ 6730 := by rw [← hp4, List.length_append]; omega
    have q5 : p5.length ≤ 6750 := by rw [← hp5, List.length_append]; omega
    have HP4 := Aside0.mk hp4
    have HP5 := Aside0.mk hp5
    have HPN : Aside0 (p5 ++ zbo x.f6 = P0 ++ zbx (q.f0.take (k + 1))) := ⟨by rw [HSN.out, ← List.append_assoc, HPRE.out, ← HP5.out, ← HP4.out, ← HP3.out, ← HP2.out, ← HP1.out]; unfold bytesSt numsL; rw [if_pos hg]; simp⟩
    clear hask2 has2 htl5 hp4 hp5 hl1_
    have hbn := zaa (Below.refl wb3.heap.size wb3) (.cells #[.int .i64 (1)] 3)
    have hne_ : wb3.heap.size ≠ B := by have := (HWwb3.out).lt; omega
    go_wp2_with fail
    go_at_call 24
    refine (zbu w B _ [(1 : Int)] (some ⟨wb3.heap.size, 0, none⟩) 1 _ ((HWwb3.out).grow hbn) (fun w' hk _ => C_ints (T := 3) _ (hk _ _ _ hne_ (by decide) (zaw wb3 (.cells #[.int .i64 (1)] 3))) (by show 1 ≤ 1000; decide)) (fun n hn => by rw [List.mem_singleton.1 hn]; decide) (by omega) (by show 1 ≤ 1000; decide)).mono ?_
    rintro e wc1 ⟨rfl, hwr, hkp⟩
    rw [HP4.out] at hwr
    have HWwc1 := Aside0.mk hwr
    have HKxwc1 := Aside0.mk (hkp _ _ _ hxne (by decide) (zag (HKxwb3.out) _))
    obtain ⟨kxwc1a, kxwc1b, kxwc1c, kxwc1d⟩ := know HKxwc1.out
    have HKzwc1 := Aside0.mk (hkp _ _ _ hzne (by decide) (zag (HKzwb3.out) _))
    obtain ⟨kzwc1a, kzwc1b, kzwc1c, kzwc1d⟩ := know HKzwc1.out
    clear kxwb3a kxwb3b kxwb3c kxwb3d kzwb3a kzwb3b kzwb3c kzwb3d
    clear hwr hkp
    clear hbn hne_
    go_wp2_with fail
    go_at_call 22
    refine (wtext_told w B _ x.f5 _ (HWwc1.out) hsz5 (by omega)).mono ?_
    rintro e wc2 ⟨rfl, hwr, hkp⟩
    rw [HP5.out] at hwr
    have HWwc2 := Aside0.mk hwr
    have HKxwc2 := Aside0.mk (hkp _ _ _ hxne (by decide) (HKxwc1.out))
    obtain ⟨kxwc2a, kxwc2b, kxwc2c, kxwc2d⟩ := know HKxwc2.out
    have HKzwc2 := Aside0.mk (hkp _ _ _ hzne (by decide) (HKzwc1.out))
    obtain ⟨kzwc2a, kzwc2b, kzwc2c, kzwc2d⟩ := know HKzwc2.out
    clear kxwc1a kxwc1b kxwc1c kxwc1d kzwc1a kzwc1b kzwc1c kzwc1d
    clear hwr hkp
    go_wp2_with fail
    go_at_call 23
    refine (wops_told w B _ x.f6 A6 c6 _ (HWwc2.out) (Kd.C_below HI6.out (HWwc2.out).below) HL6.out HAS2.out HIB.out (by omega)).mono ?_
    rintro e wc3 ⟨rfl, hwr, hkp⟩
    rw [HPN.out] at hwr
    have HWwc3 := Aside0.mk hwr
    have HKxwc3 := Aside0.mk (hkp _ _ _ hxne (by decide) (HKxwc2.out))
    obtain ⟨kxwc3a, kxwc3b, kxwc3c, kxwc3d⟩ := know HKxwc3.out
    have HKzwc3 := Aside0.mk (hkp _ _ _ hzne (by decide) (HKzwc2.out))
    obtain ⟨kzwc3a, kzwc3b, kzwc3c, kzwc3d⟩ := know HKzwc3.out
    clear kxwc2a kxwc2b kxwc2c kxwc2d kzwc2a kzwc2b kzwc2c kzwc2d
    clear hwr hkp
    go_wp2_with fail
    go_roundw
    case rel => exact ⟨k + 1, by go_num, hk1, HWwc3.out, HKzwc3.out⟩
    case measure => simp [intOf]; omega
   ·have HPN : Aside0 (p3 ++ numsL [(0 : Int)] = P0 ++ zbx (q.f0.take (k + 1))) := ⟨by rw [HSN.out, ← List.append_assoc, HPRE.out, ← HP3.out, ← HP2.out, ← HP1.out]; unfold bytesSt numsL; rw [if_neg (by rw [hg]; decide)]; simp⟩
    have hbn := zaa (Below.refl wb3.heap.size wb3) (.cells #[.int .i64 (0)] 3)
    have hne_ : wb3.heap.size ≠ B := by have := (HWwb3.out).lt; omega
    go_wp2_with fail
    go_at_call 24
    refine (zbu w B _ [(0 : Int)] (some ⟨wb3.heap.size, 0, none⟩) 1 _ ((HWwb3.out).grow hbn) (fun w' hk _ => C_ints (T := 3) _ (hk _ _ _ hne_ (by decide) (zaw wb3 (.cells #[.int .i64 (0)] 3))) (by show 1 ≤ 1000; decide)) (fun n hn => by rw [List.mem_singleton.1 hn]; decide) (by omega) (by show 1 ≤ 1000; decide)).mono ?_
    rintro e wd1 ⟨rfl, hwr, hkp⟩
    rw [HPN.out] at hwr
    have HWwd1 := Aside0.mk hwr
    have HKxwd1 := Aside0.mk (hkp _ _ _ hxne (by decide) (zag (HKxwb3.out) _))
    obtain ⟨kxwd1a, kxwd1b, kxwd1c, kxwd1d⟩ := know HKxwd1.out
    have HKzwd1 := Aside0.mk (hkp _ _ _ hzne (by decide) (zag (HKzwb3.out) _))
    obtain ⟨kzwd1a, kzwd1b, kzwd1c, kzwd1d⟩ := know HKzwd1.out
    clear kxwb3a kxwb3b kxwb3c kxwb3d kzwb3a kzwb3b kzwb3c kzwb3d
    clear hwr hkp
    clear hbn hne_
    go_wp2_with fail
    go_roundw
    case rel => exact ⟨k + 1, by go_num, hk1, HWwd1.out, HKzwd1.out⟩
    case measure => simp [intOf]; omega
  ·obtain rfl : k = q.f0.length := by omega
   rw [List.take_length] at HWR hwr
   have hsl := HSL.out q.f0.length
   rw [List.take_length] at hsl
   have hpl : (P0 ++ zbx q.f0).length ≤ 6000 := by rw [List.length_append]; omega
   obtain ⟨y1, y2, y3, y4⟩ := know hz
   have HNS : Aside0 (∀ n ∈ [q.f1, q.f2, q.f3, q.f4], 0 ≤ n ∧ n < 9223372036854775808) := ⟨fun n hn => by simp only [List.mem_cons, List.not_mem_nil, or_false] at hn; rcases hn with rfl | rfl | rfl | rfl <;> omega⟩
   clear hsl hwr hz
   have hbn := zaa (Below.refl wr.heap.size wr) (.cells #[.int .i64 (q.f1), .int .i64 (q.f2), .int .i64 (q.f3), .int .i64 (q.f4)] 3)
   have hne_ : wr.heap.size ≠ B := by have := (HWR.out).lt; omega
   go_wp2_with fail
   go_at_call 24
   refine (zbu w B _ [(q.f1 : Int), (q.f2 : Int), (q.f3 : Int), (q.f4 : Int)] (some ⟨wr.heap.size, 0, none⟩) 4 _ ((HWR.out).grow hbn) (fun w' hk _ => C_ints (T := 3) _ (hk _ _ _ hne_ (by decide) (zaw wr (.cells #[.int .i64 (q.f1), .int .i64 (q.f2), .int .i64 (q.f3), .int .i64 (q.f4)] 3))) (by show 4 ≤ 1000; decide)) HNS.out (by omega) (by show 4 ≤ 1000; decide)).mono ?_
   rintro e we1 ⟨rfl, hwr, hkp⟩
   rw [← HBQ.out] at hwr
   have HWwe1 := Aside0.mk hwr
   have HKzwe1 := Aside0.mk (hkp _ _ _ hzne (by decide) (zag (HZR.out) _))
   obtain ⟨kzwe1a, kzwe1b, kzwe1c, kzwe1d⟩ := know HKzwe1.out
   clear y1 y2 y3 y4
   clear hwr hkp
   clear hbn hne_
   obtain ⟨⟨v, h1, h2⟩, h3, h4⟩ := HWwe1.out
   obtain ⟨m1, m2, m3, m4⟩ := know h1
   have H2 := Aside0.mk h2
   have H3 := Aside0.mk h3
   clear h1 h2 h3
   go_wp2_with fail
   go_ret2
   exact ⟨_, rfl, H2.out, H3.out⟩
theorem putQ_told (q : SQuery) (A : Option Addr) (c : Nat) (w : World) (hr : Kd.C kStep w A q.f0.length q.f0) (hc : q.f0.length ≤ c) (hq : okQ q) (hn : q.f0.length < 4611686018427387904) {b : Bool} (hm : mayQ q = b) {P : List Int} (hP : (if b then bytesQ q else []) = P) :
  Calls Try.prog 11 #[.agg #[.slice A q.f0.length c, .int .i64 q.f1, .int .i64 q.f2, .int .i64 q.f3, .int .i64 q.f4]] w (bytesPost 5 P b w) := by
 subst hP
 cases b with
 | false => exact putQ_no q A c w hr hc hq hn hm
 | true => exact putQ_go q A c w hr hc hq hm
structure RdAt (w0 : World) (B : Nat) (s : Option (List Int)) (w : World) : Prop where
 ex : ∃ A c l bad, w.heap[B]? = some (.cells #[.slice A l.length c, .bool bad] 58 (0, 0)) ∧ l.length ≤ c ∧ Kd.C (Kd.int .u8) w0 A l.length l ∧ za5 l ∧ l.length < 4611686018427387904 ∧ s = (if bad = true then none else some l)
 below : Below w0.heap.size w0 w
 hB : w0.heap.size ≤ B
theorem RdAt.grow {w0 w w1 : World} {B : Nat} {s : Option (List Int)} (h : RdAt w0 B s w) (hb : Below w.heap.size w w1) : RdAt w0 B s w1 := by
 obtain ⟨⟨A, c, l, bad, h1, h2⟩, h3, h4⟩ := h
 exact ⟨⟨A, c, l, bad, zak h1 hb, h2⟩, zah h3 hb, h4⟩
theorem RdAt.lt {w0 w : World} {B : Nat} {s : Option (List Int)} (h : RdAt w0 B s w) : B < w.heap.size := by
 obtain ⟨⟨A, c, l, bad, h1, h2⟩, h3, h4⟩ := h
 exact zay h1
def rdPost (w0 : World) (B : Nat) (s : Option (List Int)) (v : Value) (w : World) (e : Ending) (w' : World) : Prop := e = .returned v ∧ RdAt w0 B s w' ∧ Only B w w'
set_option maxHeartbeats 1000000 in
set_option maxRecDepth 100000 in
theorem skip_told (w0 : World) (B : Nat) (s : Option (List Int)) (n : Nat) (is : Bool) (w : World) (h : RdAt w0 B s w) (hn : n < 4611686018427387904) :
  Calls Try.prog 43 #[.pointer (some ⟨B, 0, none⟩), .int .i64 (n : Int), .bool is] w (rdPost w0 B (s.bind (skipR n is)) (.tuple #[]) w) := by
 have hlt := h.lt
 obtain ⟨⟨A, c, l, bad, h1, h2, h3, h4, h5, rfl⟩, h6, h7⟩ := h
 have HK := Aside0.mk h1
 have HR := Aside0.mk h3
 have HBY := Aside0.mk h4
 have HB := Aside0.mk h6
 have HC := Aside0.mk h2
 cases bad with
 | true =>
  obtain ⟨k1, k2, k3, k4⟩ := know h1
  clear h1 h2 h3 h4 h6
  go_enter Try.func43, Try.ntmps43
  go_wp2_with fail
  go_end0
  have hk := zas HK.out 1 (Value.bool true) rfl
  exact ⟨rfl, ⟨⟨A, c, l, true, hk, HC.out, HR.out, HBY.out, h5, rfl⟩, zaf HB.out h7, h7⟩, Only.set (Only.refl _ _) _⟩
 | false =>
  rw [if_neg (by decide), Option.bind_some]
  unfold skipR
  cases is with
  | false =>
   rw [if_neg (fun h => by cases h.1)]
   obtain ⟨k1, k2, k3, k4⟩ := know h1
   clear h1 h2 h3 h4 h6
   go_enter Try.func43, Try.ntmps43
   go_wp2_with fail
   go_end0
   have hk := zas HK.out 1 (Value.bool true) rfl
   exact ⟨rfl, ⟨⟨A, c, l, true, hk, HC.out, HR.out, HBY.out, h5, rfl⟩, zaf HB.out h7, h7⟩, Only.set (Only.refl _ _) _⟩
  | true =>
   by_cases hl : n ≤ l.length
   ·rw [if_pos ⟨rfl, hl⟩]
    obtain ⟨i0, hi0, _, hsz0, _⟩ := info_parts info5
    obtain ⟨A', hcut, hC', hlc⟩ := drop_row (P := Try.prog) (d := Kd.int .u8) Try.underlying25 hi0 hsz0 A c l n (n : Int) rfl hl h2
    have HR2 := Aside0.mk (hC' w0 h3)
    have HLC := Aside0.mk hlc
    obtain ⟨k1, k2, k3, k4⟩ := know h1
    have k5 := zas h1 1 (Value.bool false) rfl
    obtain ⟨j1, j2, j3, j4⟩ := know k5
    have hgt : ¬ (n : Int) > (l.length : Int) := by omega
    have hgtd : decide ((l.length : Int) < (n : Int)) = false := decide_eq_false (by omega)
    clear h1 h2 h3 h4 h6 hC' hlc hi0 hsz0
    go_enter Try.func43, Try.ntmps43
    go_wp2_with fail
    go_end0
    have hk := zas (zas HK.out 1 (Value.bool false) rfl) 0 (Value.slice A' (l.length - n) (c - n)) rfl
    exact ⟨rfl, ⟨⟨A', c - n, l.drop n, false, by rw [List.length_drop]; exact hk, HLC.out, HR2.out, zbv HBY.out n, by rw [List.length_drop]; omega, rfl⟩, zaf (zaf HB.out h7) h7, h7⟩, Only.set (Only.set (Only.refl _ _) _) _⟩
   ·rw [if_neg (fun h => hl h.2)]
    obtain ⟨k1, k2, k3, k4⟩ := know h1
    have k5 := zas h1 1 (Value.bool true) rfl
    obtain ⟨j1, j2, j3, j4⟩ := know k5
    have hgt : (n : Int) > (l.length : Int) := by omega
    have hgtd : decide ((l.length : Int) < (n : Int)) = true := decide_eq_true (by omega)
    clear h1 h2 h3 h4 h6
    go_enter Try.func43, Try.ntmps43
    go_wp2_with fail
    go_end0
    exact ⟨rfl, ⟨⟨A, c, l, true, k5, HC.out, HR.out, HBY.out, h5, rfl⟩, zaf HB.out h7, h7⟩, Only.set (Only.refl _ _) _⟩
def le_Get.l0 : Nat → List Int → Int → Int → Int → Option (Int × Int × Bool)
 | 0, _, _, _, _ => none
 | k + 1, x0, x5, x10, x11 => if x11 < x10 then (if 0 ≤ x11 then (if x11 < (x0.length : Int) then (if 0 ≤ (wrap64 (7 * x11)) then (if (IntKind.u64.wrap (rd x0 x11)) ≥ 128 then (le_Get.l0 k x0 (Go.bits .or .u64 x5 (shl .u64 (Go.bits .andNot .u64 (IntKind.u64.wrap (rd x0 x11)) 128) (wrap64 (7 * x11)))) x10 (wrap64 (x11 + 1))) else (if x11 > 0 then (if (IntKind.u64.wrap (rd x0 x11)) = 0 then (some (0, 0, false)) else (if x11 = 9 then (if (IntKind.u64.wrap (rd x0 x11)) > 1 then (some (0, 0, false)) else (some (Go.bits .or .u64 x5 (shl .u64 (Go.bits .andNot .u64 (IntKind.u64.wrap (rd x0 x11)) 128) (wrap64 (7 * x11))), wrap64 (x11 + 1), true))) else (some (Go.bits .or .u64 x5 (shl .u64 (Go.bits .andNot .u64 (IntKind.u64.wrap (rd x0 x11)) 128) (wrap64 (7 * x11))), wrap64 (x11 + 1), true)))) else (if x11 = 9 then (if (IntKind.u64.wrap (rd x0 x11)) > 1 then (some (0, 0, false)) else (some (Go.bits .or .u64 x5 (shl .u64 (Go.bits .andNot .u64 (IntKind.u64.wrap (rd x0 x11)) 128) (wrap64 (7 * x11))), wrap64 (x11 + 1), true))) else (some (Go.bits .or .u64 x5 (shl .u64 (Go.bits .andNot .u64 (IntKind.u64.wrap (rd x0 x11)) 128) (wrap64 (7 * x11))), wrap64 (x11 + 1), true))))) else (none)) else (none)) else (none)) else (some (0, 0, false))
def le_Get.f (k : Nat) (l0 : List Int) : Option (Int × Int × Bool) := le_Get.l0 k l0 0 (mn (l0.length : Int) 10) 0
set_option maxHeartbeats 8000000 in
set_option maxRecDepth 100000 in
theorem le_Get.calls (k : Nat) (A0 : Option Addr) (c0 : Nat) (l0 : List Int) (r1 : Int) (r2 : Int) (r3 : Bool) (w : World) (hr0 : Kd.C (Kd.int .u8) w A0 l0.length l0) (hc0 : l0.length ≤ c0) (h : le_Get.f k l0 = some (r1, r2, r3)) :
  Calls Try.prog 42 #[.slice A0 l0.length c0] w fun e w' => e = .returned (.tuple #[.int .u64 r1, .int .i64 r2, .bool r3]) ∧ Below w.heap.size w w' := by
 have HR0 := Aside0.mk hr0
 have HC0 := Aside0.mk hc0
 clear hr0 hc0
 have HB := Aside0.mk (Below.refl w.heap.size w)
 have H : (le_Get.l0 k l0 0 (mn (l0.length : Int) 10) 0) = some (r1, r2, r3) := h
 clear h
 obtain ⟨ji2, hji2⟩ : ∃ j_ : Int, (mn (l0.length : Int) 10) = j_ := ⟨_, rfl⟩
 replace H : (le_Get.l0 k l0 0 ji2 0) = some (r1, r2, r3) := by first | (rw [hji2] at H; exact H) | (simp only [hji2] at H ⊢; exact H)
 (try (have hji2h : ji2 ≤ 10 := by (rw [← hji2]; unfold mn; (repeat' split) <;> omega)))
 (try (have hji2g : ji2 ≤ 64 := by omega))
 (try (have hji2l : 0 ≤ ji2 := by (rw [← hji2]; unfold mn; (repeat' split) <;> omega)))
 (try (have hji2m : 0 ≤ ji2 := by omega))
 have hji2_ : (if 10 < (l0.length : Int) then 10 else (l0.length : Int)) = ji2 := hji2
 have H' := Aside0.mk H
 clear H
 go_enter Try.func42, Try.ntmps42
 go_wp2
 go_loopg [5, 11] k (fun kq v5 v11 w' => ∃ (x5_1 : Int) (x11_1 : Int), v5 = .int .u64 x5_1 ∧ v11 = .int .i64 x11_1 ∧ Aside0 (le_Get.l0 kq l0 x5_1 ji2 x11_1 = some (r1, r2, r3)) ∧ Aside0 (kq ≤ k) ∧ Aside0 (Below w.heap.size w w'))
 case atStart => exact ⟨(0), (0), (by first | rfl | (simp; done) | (simp [*]; done)), (by first | rfl | (simp; done) | (simp [*]; done)), H', ⟨Nat.le_refl _⟩, ⟨by repeat (first | (with_reducible first | exact HB.out | apply zaa | apply zac | apply zae) | exact HB.out)⟩⟩
 case round =>
  clear H'
  try clear p2
  obtain ⟨x5_1, x11_1, rfl, rfl, HA, HK1, HB⟩ := hrel
  cases gk with
  | zero => exact absurd HA.out (by simp [le_Get.l0])
  | succ k1 =>
   have H := HA.out
   clear HA
   simp only [le_Get.l0] at H
   by_cases c3 : x11_1 < ji2
   ·rw [if_pos c3] at H
    have c3b0 : decide (x11_1 < ji2) = true := decide_eq_true c3
    clear c3
    by_cases c4 : 0 ≤ x11_1
    ·rw [if_pos c4] at H
     have c4b0 : decide (0 ≤ x11_1) = true := decide_eq_true c4
     clear c4
     by_cases c5 : x11_1 < (l0.length : Int)
     ·rw [if_pos c5] at H
      have c5b0 : decide (x11_1 < (l0.length : Int)) = true := decide_eq_true c5
      clear c5
      obtain ⟨ji6, hji6⟩ : ∃ j_ : Int, (wrap64 (7 * x11_1)) = j_ := ⟨_, rfl⟩
      replace H : (if 0 ≤ (ji6) then (if (IntKind.u64.wrap (rd l0 x11_1)) ≥ 128 then (le_Get.l0 k1 l0 (Go.bits .or .u64 x5_1 (shl .u64 (Go.bits .andNot .u64 (IntKind.u64.wrap (rd l0 x11_1)) 128) (ji6))) ji2 (wrap64 (x11_1 + 1))) else (if x11_1 > 0 then (if (IntKind.u64.wrap (rd l0 x11_1)) = 0 then (some (0, 0, false)) else (if x11_1 = 9 then (if (IntKind.u64.wrap (rd l0 x11_1)) > 1 then (some (0, 0, false)) else (some (Go.bits .or .u64 x5_1 (shl .u64 (Go.bits .andNot .u64 (IntKind.u64.wrap (rd l0 x11_1)) 128) (ji6)), wrap64 (x11_1 + 1), true))) else (some (Go.bits .or .u64 x5_1 (shl .u64 (Go.bits .andNot .u64 (IntKind.u64.wrap (rd l0 x11_1)) 128) (ji6)), wrap64 (x11_1 + 1), true)))) else (if x11_1 = 9 then (if (IntKind.u64.wrap (rd l0 x11_1)) > 1 then (some (0, 0, false)) else (some (Go.bits .or .u64 x5_1 (shl .u64 (Go.bits .andNot .u64 (IntKind.u64.wrap (rd l0 x11_1)) 128) (ji6)), wrap64 (x11_1 + 1), true))) else (some (Go.bits .or .u64 x5_1 (shl .u64 (Go.bits .andNot .u64 (IntKind.u64.wrap (rd l0 x11_1)) 128) (ji6)), wrap64 (x11_1 + 1), true))))) else (none)) = some (r1, r2, r3) := by first | (rw [hji6] at H; exact H) | (simp only [hji6] at H ⊢; exact H)
      have hji6w : (IntKind.i64.wrap (7 * x11_1)) = ji6 := (zaE _).trans hji6
      by_cases c7 : 0 ≤ (ji6)
      ·rw [if_pos c7] at H
       have c7b0 := eq_true c7
       have c7b1 : decide (0 ≤ (ji6)) = true := decide_eq_true c7
       clear c7
       obtain ⟨ji8, hji8⟩ : ∃ j_ : Int, (shl .u64 (Go.bits .andNot .u64 (IntKind.u64.wrap (rd l0 x11_1)) 128) (ji6)) = j_ := ⟨_, rfl⟩
       replace H : (if (IntKind.u64.wrap (rd l0 x11_1)) ≥ 128 then (le_Get.l0 k1 l0 (Go.bits .or .u64 x5_1 (ji8)) ji2 (wrap64 (x11_1 + 1))) else (if x11_1 > 0 then (if (IntKind.u64.wrap (rd l0 x11_1)) = 0 then (some (0, 0, false)) else (if x11_1 = 9 then (if (IntKind.u64.wrap (rd l0 x11_1)) > 1 then (some (0, 0, false)) else (some (Go.bits .or .u64 x5_1 (ji8), wrap64 (x11_1 + 1), true))) else (some (Go.bits .or .u64 x5_1 (ji8), wrap64 (x11_1 + 1), true)))) else (if x11_1 = 9 then (if (IntKind.u64.wrap (rd l0 x11_1)) > 1 then (some (0, 0, false)) else (some (Go.bits .or .u64 x5_1 (ji8), wrap64 (x11_1 + 1), true))) else (some (Go.bits .or .u64 x5_1 (ji8), wrap64 (x11_1 + 1), true))))) = some (r1, r2, r3) := by first | (rw [hji8] at H; exact H) | (simp only [hji8] at H ⊢; exact H)
       have hji8_ : (IntKind.u64.wrap ((Go.bits .andNot .u64 (IntKind.u64.wrap (rd l0 x11_1)) 128) * 2 ^ min (ji6).toNat 64)) = ji8 := hji8
       have hji8z : (ji6) ≤ 64 → (IntKind.u64.wrap ((Go.bits .andNot .u64 (IntKind.u64.wrap (rd l0 x11_1)) 128) * 2 ^ (ji6).toNat)) = ji8 := shl_small hji8
       by_cases c9 : (IntKind.u64.wrap (rd l0 x11_1)) ≥ 128
       ·rw [if_pos c9] at H
        have c9b0 : decide (128 ≤ (IntKind.u64.wrap (rd l0 x11_1))) = true := decide_eq_true c9
        clear c9
        have H' := Aside0.mk H
        clear H
        have p123 : 0 ≤ (x11_1 : Int) := of_decide_eq_true (by first | (with_reducible assumption) | assumption)
        have q123 : x11_1 < (l0.length : Int) := of_decide_eq_true (by first | (with_reducible assumption) | assumption)
        obtain ⟨ad123, e123, hx123_0⟩ := Kd.at_int HR0.out x11_1 p123 q123
        cases e123
        replace hx123_0 := (HB.out.cell (World.block_lt_of_cell? w _ hx123_0)).trans hx123_0
        replace p123 := eq_true p123
        replace q123 := eq_true q123
        go_wp2
        go_roundg k1
        case measure => have := HK1.out; omega
        case rel => exact ⟨(Go.bits .or .u64 x5_1 (ji8)), (wrap64 (x11_1 + 1)), (by first | rfl | (simp; done) | (simp only [← hji8] <;> (first | rfl | simp)) | (simp [*]; done)), (by first | rfl | (simp; done) | (simp [*]; done)), H', ⟨by have := HK1.out; omega⟩, ⟨by repeat (first | (with_reducible first | exact HB.out | apply zaa | apply zac | apply zae) | exact HB.out)⟩⟩
       ·rw [if_neg c9] at H
        have c9b0 : decide (128 ≤ (IntKind.u64.wrap (rd l0 x11_1))) = false := decide_eq_false c9
        clear c9
        by_cases c10 : x11_1 > 0
        ·rw [if_pos c10] at H
         have c10b0 : decide (0 < x11_1) = true := decide_eq_true c10
         clear c10
         by_cases c11 : (IntKind.u64.wrap (rd l0 x11_1)) = 0
         ·rw [if_pos c11] at H
          have c11b0 : ((IntKind.u64.wrap (rd l0 x11_1)) == 0) = true := beq_iff_eq.mpr c11
          have c11b1 : ((IntKind.u64.wrap (rd l0 x11_1)) != 0) = false := bne_eq_false_iff_eq.mpr c11
          clear c11
          simp only [Option.some.injEq, Prod.mk.injEq] at H
          obtain ⟨rfl, rfl, rfl⟩ := H
          have p123 : 0 ≤ (x11_1 : Int) := of_decide_eq_true (by first | (with_reducible assumption) | assumption)
          have q123 : x11_1 < (l0.length : Int) := of_decide_eq_true (by first | (with_reducible assumption) | assumption)
          obtain ⟨ad123, e123, hx123_0⟩ := Kd.at_int HR0.out x11_1 p123 q123
          cases e123
          replace hx123_0 := (HB.out.cell (World.block_lt_of_cell? w _ hx123_0)).trans hx123_0
          replace p123 := eq_true p123
          replace q123 := eq_true q123
          go_wp2
          go_ret3
          exact ⟨by first | rfl | (simp [zap, zao] <;> rfl) | (simp only [← hji2, ← hji6, ← hji8]; first | rfl | (simp [zap, zao] <;> rfl)) | (simp [*, zap, zao] <;> rfl), by repeat (first | (with_reducible first | exact HB.out | apply zaa | apply zac | apply zae) | exact HB.out)⟩
         ·rw [if_neg c11] at H
          have c11b0 : ((IntKind.u64.wrap (rd l0 x11_1)) == 0) = false := beq_eq_false_iff_ne.mpr c11
          have c11b1 : ((IntKind.u64.wrap (rd l0 x11_1)) != 0) = true := bne_iff_ne.mpr c11
          by_cases c12 : x11_1 = 9
          ·rw [if_pos c12] at H
           have c12b0 : (x11_1 == 9) = true := beq_iff_eq.mpr c12
           have c12b1 : (x11_1 != 9) = false := bne_eq_false_iff_eq.mpr c12
           clear c12
           by_cases c13 : (IntKind.u64.wrap (rd l0 x11_1)) > 1
           ·rw [if_pos c13] at H
            have c13b0 : decide (1 < (IntKind.u64.wrap (rd l0 x11_1))) = true := decide_eq_true c13
            clear c13
            simp only [Option.some.injEq, Prod.mk.injEq] at H
            obtain ⟨rfl, rfl, rfl⟩ := H
            have p123 : 0 ≤ (x11_1 : Int) := of_decide_eq_true (by first | (with_reducible assumption) | assumption)
            have q123 : x11_1 < (l0.length : Int) := of_decide_eq_true (by first | (with_reducible assumption) | assumption)
            obtain ⟨ad123, e123, hx123_0⟩ := Kd.at_int HR0.out x11_1 p123 q123
            cases e123
            replace hx123_0 := (HB.out.cell (World.block_lt_of_cell? w _ hx123_0)).trans hx123_0
            replace p123 := eq_true p123
            replace q123 := eq_true q123
            go_wp2
            go_ret3
            exact ⟨by first | rfl | (simp [zap, zao] <;> rfl) | (simp only [← hji2, ← hji6, ← hji8]; first | rfl | (simp [zap, zao] <;> rfl)) | (simp [*, zap, zao] <;> rfl), by repeat (first | (with_reducible first | exact HB.out | apply zaa | apply zac | apply zae) | exact HB.out)⟩
           ·rw [if_neg c13] at H
            have c13b0 : decide (1 < (IntKind.u64.wrap (rd l0 x11_1))) = false := decide_eq_false c13
            clear c13
            simp only [Option.some.injEq, Prod.mk.injEq] at H
            obtain ⟨rfl, rfl, rfl⟩ := H
            have p123 : 0 ≤ (x11_1 : Int) := of_decide_eq_true (by first | (with_reducible assumption) | assumption)
            have q123 : x11_1 < (l0.length : Int) := of_decide_eq_true (by first | (with_reducible assumption) | assumption)
            obtain ⟨ad123, e123, hx123_0⟩ := Kd.at_int HR0.out x11_1 p123 q123
            cases e123
            replace hx123_0 := (HB.out.cell (World.block_lt_of_cell? w _ hx123_0)).trans hx123_0
            replace p123 := eq_true p123
            replace q123 := eq_true q123
            go_wp2
            go_ret3
            exact ⟨by first | rfl | (simp [zap, zao] <;> rfl) | (simp only [← hji2, ← hji6, ← hji8]; first | rfl | (simp [zap, zao] <;> rfl)) | (simp [*, zap, zao] <;> rfl), by repeat (first | (with_reducible first | exact HB.out | apply zaa | apply zac | apply zae) | exact HB.out)⟩
          ·rw [if_neg c12] at H
           have c12b0 : (x11_1 == 9) = false := beq_eq_false_iff_ne.mpr c12
           have c12b1 : (x11_1 != 9) = true := bne_iff_ne.mpr c12
           simp only [Option.some.injEq, Prod.mk.injEq] at H
           obtain ⟨rfl, rfl, rfl⟩ := H
           have p123 : 0 ≤ (x11_1 : Int) := of_decide_eq_true (by first | (with_reducible assumption) | assumption)
           have q123 : x11_1 < (l0.length : Int) := of_decide_eq_true (by first | (with_reducible assumption) | assumption)
           obtain ⟨ad123, e123, hx123_0⟩ := Kd.at_int HR0.out x11_1 p123 q123
           cases e123
           replace hx123_0 := (HB.out.cell (World.block_lt_of_cell? w _ hx123_0)).trans hx123_0
           replace p123 := eq_true p123
           replace q123 := eq_true q123
           go_wp2
           go_ret3
           exact ⟨by first | rfl | (simp [zap, zao] <;> rfl) | (simp only [← hji2, ← hji6, ← hji8]; first | rfl | (simp [zap, zao] <;> rfl)) | (simp [*, zap, zao] <;> rfl), by repeat (first | (with_reducible first | exact HB.out | apply zaa | apply zac | apply zae) | exact HB.out)⟩
        ·rw [if_neg c10] at H
         have c10b0 : decide (0 < x11_1) = false := decide_eq_false c10
         clear c10
         by_cases c14 : x11_1 = 9
         ·rw [if_pos c14] at H
          have c14b0 : (x11_1 == 9) = true := beq_iff_eq.mpr c14
          have c14b1 : (x11_1 != 9) = false := bne_eq_false_iff_eq.mpr c14
          clear c14
          by_cases c15 : (IntKind.u64.wrap (rd l0 x11_1)) > 1
          ·rw [if_pos c15] at H
           have c15b0 : decide (1 < (IntKind.u64.wrap (rd l0 x11_1))) = true := decide_eq_true c15
           clear c15
           simp only [Option.some.injEq, Prod.mk.injEq] at H
           obtain ⟨rfl, rfl, rfl⟩ := H
           have p123 : 0 ≤ (x11_1 : Int) := of_decide_eq_true (by first | (with_reducible assumption) | assumption)
           have q123 : x11_1 < (l0.length : Int) := of_decide_eq_true (by first | (with_reducible assumption) | assumption)
           obtain ⟨ad123, e123, hx123_0⟩ := Kd.at_int HR0.out x11_1 p123 q123
           cases e123
           replace hx123_0 := (HB.out.cell (World.block_lt_of_cell? w _ hx123_0)).trans hx123_0
           replace p123 := eq_true p123
           replace q123 := eq_true q123
           go_wp2
           go_ret3
           exact ⟨by first | rfl | (simp [zap, zao] <;> rfl) | (simp only [← hji2, ← hji6, ← hji8]; first | rfl | (simp [zap, zao] <;> rfl)) | (simp [*, zap, zao] <;> rfl), by repeat (first | (with_reducible first | exact HB.out | apply zaa | apply zac | apply zae) | exact HB.out)⟩
          ·rw [if_neg c15] at H
           have c15b0 : decide (1 < (IntKind.u64.wrap (rd l0 x11_1))) = false := decide_eq_false c15
           clear c15
           simp only [Option.some.injEq, Prod.mk.injEq] at H
           obtain ⟨rfl, rfl, rfl⟩ := H
           have p123 : 0 ≤ (x11_1 : Int) := of_decide_eq_true (by first | (with_reducible assumption) | assumption)
           have q123 : x11_1 < (l0.length : Int) := of_decide_eq_true (by first | (with_reducible assumption) | assumption)
           obtain ⟨ad123, e123, hx123_0⟩ := Kd.at_int HR0.out x11_1 p123 q123
           cases e123
           replace hx123_0 := (HB.out.cell (World.block_lt_of_cell? w _ hx123_0)).trans hx123_0
           replace p123 := eq_true p123
           replace q123 := eq_true q123
           go_wp2
           go_ret3
           exact ⟨by first | rfl | (simp [zap, zao] <;> rfl) | (simp only [← hji2, ← hji6, ← hji8]; first | rfl | (simp [zap, zao] <;> rfl)) | (simp [*, zap, zao] <;> rfl), by repeat (first | (with_reducible first | exact HB.out | apply zaa | apply zac | apply zae) | exact HB.out)⟩
         ·rw [if_neg c14] at H
          have c14b0 : (x11_1 == 9) = false := beq_eq_false_iff_ne.mpr c14
          have c14b1 : (x11_1 != 9) = true := bne_iff_ne.mpr c14
          simp only [Option.some.injEq, Prod.mk.injEq] at H
          obtain ⟨rfl, rfl, rfl⟩ := H
          have p123 : 0 ≤ (x11_1 : Int) := of_decide_eq_true (by first | (with_reducible assumption) | assumption)
          have q123 : x11_1 < (l0.length : Int) := of_decide_eq_true (by first | (with_reducible assumption) | assumption)
          obtain ⟨ad123, e123, hx123_0⟩ := Kd.at_int HR0.out x11_1 p123 q123
          cases e123
          replace hx123_0 := (HB.out.cell (World.block_lt_of_cell? w _ hx123_0)).trans hx123_0
          replace p123 := eq_true p123
          replace q123 := eq_true q123
          go_wp2
          go_ret3
          exact ⟨by first | rfl | (simp [zap, zao] <;> rfl) | (simp only [← hji2, ← hji6, ← hji8]; first | rfl | (simp [zap, zao] <;> rfl)) | (simp [*, zap, zao] <;> rfl), by repeat (first | (with_reducible first | exact HB.out | apply zaa | apply zac | apply zae) | exact HB.out)⟩
      ·rw [if_neg c7] at H
       exact absurd H (by simp)
     ·rw [if_neg c5] at H
      exact absurd H (by simp)
    ·rw [if_neg c4] at H
     exact absurd H (by simp)
   ·rw [if_neg c3] at H
    have c3b0 : decide (x11_1 < ji2) = false := decide_eq_false c3
    clear c3
    simp only [Option.some.injEq, Prod.mk.injEq] at H
    obtain ⟨rfl, rfl, rfl⟩ := H
    go_wp2
    go_ret3
    exact ⟨by first | rfl | (simp [zap, zao] <;> rfl) | (simp only [← hji2]; first | rfl | (simp [zap, zao] <;> rfl)) | (simp [*, zap, zao] <;> rfl), by repeat (first | (with_reducible first | exact HB.out | apply zaa | apply zac | apply zae) | exact HB.out)⟩
theorem u64_small {n : Nat} (h : n < 18446744073709551616) : IntKind.wrap .u64 (n : Int) = (n : Int) := by simp [IntKind.wrap, IntKind.bits, IntKind.signed]; omega
theorem or_nat {a b : Nat} (ha : a < 18446744073709551616) (hb : b < 18446744073709551616) : Go.bits .or .u64 (a : Int) (b : Int) = ((a ||| b : Nat) : Int) := by
 have e1 : (BitVec.ofInt 64 (a : Int)).toNat = a := by rw [BitVec.ofInt_natCast, BitVec.toNat_ofNat, Nat.mod_eq_of_lt ha]
 have e2 : (BitVec.ofInt 64 (b : Int)).toNat = b := by rw [BitVec.ofInt_natCast, BitVec.toNat_ofNat, Nat.mod_eq_of_lt hb]
 show IntKind.wrap .u64 (((BitVec.ofInt 64 (a : Int) ||| BitVec.ofInt 64 (b : Int)).toNat : Nat) : Int) = _
 rw [BitVec.toNat_or, e1, e2]
 exact u64_small (Nat.or_lt_two_pow (n := 64) ha hb)
theorem or_sum {a x s : Nat} (ha : a < 2 ^ s) (hx : x * 2 ^ s < 18446744073709551616) (hs : s < 64) : Go.bits .or .u64 (a : Int) ((x * 2 ^ s : Nat) : Int) = ((a + x * 2 ^ s : Nat) : Int) := by
  have h64 : 2 ^ s < 2 ^ 64 := Nat.pow_lt_pow_right (by decide) hs
  rw [or_nat (by have : (2:Nat) ^ 64 = 18446744073709551616 := by decide
                 omega) hx]
  congr 1
  rw [Nat.or_comm, ← Nat.shiftLeft_eq, ← Nat.shiftLeft_add_eq_or_of_lt ha, Nat.add_comm]
theorem low_seven {c : Nat} (h : c < 256) : Go.bits .andNot .u64 (IntKind.wrap .u64 (c : Int)) 128 = ((c % 128 : Nat) : Int) := by
 have h0 : ∀ b : Fin 256, Go.bits .andNot .u64 (IntKind.wrap .u64 ((b.val : Nat) : Int)) 128 = ((b.val % 128 : Nat) : Int) := by decide +kernel
 exact h0 ⟨c, h⟩
theorem shl_nat {x s : Nat} (hs : s < 64) (h : x * 2 ^ s < 18446744073709551616) : shl .u64 (x : Int) (s : Int) = ((x * 2 ^ s : Nat) : Int) := by
 unfold shl
 rw [Int.toNat_natCast, Nat.min_eq_left (show s ≤ IntKind.bits .u64 from by show s ≤ 64; omega)]
 rw [show (x : Int) * 2 ^ s = ((x * 2 ^ s : Nat) : Int) from by push_cast; rfl]
 exact u64_small h
theorem le_Get_loop (l : List Int) (hl : ∀ c ∈ l, 0 ≤ c ∧ c < 256) (hlen : l.length < 4611686018427387904) : ∀ (d i k : Nat) (acc : Int) (a : Nat), i + d = 10 → d < k → i ≤ l.length → (i ≤ 9 → acc = (a : Int) ∧ a < 128 ^ i) →
  le_Get.l0 k l acc (mn (l.length : Int) 10) (i : Int) = some (tellN (zbg i a (l.drop i))) := by
 have hmn : mn (l.length : Int) 10 = ((min l.length 10 : Nat) : Int) := by unfold mn; split <;> omega
 rw [hmn]
 intro d
 induction d with
 | zero =>
  intro i k acc a hi hk hil _
  obtain ⟨k, rfl⟩ := zaP hk
  simp only [le_Get.l0]
  rw [if_neg (by omega), getNAux_late _ _ (by omega)]
  rfl
 | succ d ih =>
  intro i k acc a hi hk hil hA
  obtain ⟨k, rfl⟩ := zaP hk
  obtain ⟨rfl, ha⟩ := hA (by omega)
  simp only [le_Get.l0]
  by_cases h : i < l.length
  ·have hc := hl (l.getD i 0) (by simp [List.getD, h])
   have hd : l.drop i = l.getD i 0 :: l.drop (i + 1) := by rw [List.drop_eq_getElem_cons h]; simp [List.getD, h]
   rw [if_pos (by omega), if_pos (by omega), if_pos (by omega), show rd l (i : Int) = l.getD i 0 from by simp [rd], hd]
   have ew : wrap64 (7 * (i : Int)) = ((7 * i : Nat) : Int) := by unfold wrap64; omega
   rw [ew, if_pos (by omega), zbs (by omega)]
   obtain ⟨c, hce⟩ := Int.eq_ofNat_of_zero_le hc.1
   rw [hce] at hc ⊢
   have hc2 : c < 256 := by omega
   rw [low_seven hc2, u64_small (show c < 18446744073709551616 from by omega)]
   have hp : (2 : Nat) ^ (7 * i) = 128 ^ i := by rw [Nat.pow_mul]
   have hG : zbg i a (((c : Nat) : Int) :: l.drop (i + 1)) = if 128 ≤ ((c : Nat) : Int) then zbg (i + 1) (a + ((c : Nat) : Int).toNat % 128 * 128 ^ i) (l.drop (i + 1)) else if (0 < i ∧ ((c : Nat) : Int) = 0) ∨ (i = 9 ∧ 1 < ((c : Nat) : Int)) then none else some (a + ((c : Nat) : Int).toNat * 128 ^ i, i + 1) := by
    rw [zbg, if_neg (by omega)]
   rw [hG]
   have hpl : 128 ^ i ≤ 128 ^ 9 := Nat.pow_le_pow_right (by decide) (by omega)
   have h9 : (128 : Nat) ^ 9 = 9223372036854775808 := by decide
   have hsum : ∀ x : Nat, x * 128 ^ i < 18446744073709551616 → Go.bits .or .u64 (a : Int) (shl .u64 (x : Int) ((7 * i : Nat) : Int)) = ((a + x * 128 ^ i : Nat) : Int) := by
    intro x hx
    rw [shl_nat (by omega) (by rw [hp]; exact hx), or_sum (by rw [hp]; exact ha) (by rw [hp]; exact hx) (by omega), hp]
   by_cases h128 : (c : Int) ≥ 128
   ·rw [if_pos h128, if_pos (show (128 : Int) ≤ ((c : Nat) : Int) from h128)]
    refine ih (i + 1) k _ (a + ((c : Nat) : Int).toNat % 128 * 128 ^ i) (by omega) (by omega) (by omega) (fun h8 => ?_)
    have hpl8 : 128 ^ i ≤ 128 ^ 8 := Nat.pow_le_pow_right (by decide) (by omega)
    have h88 : (128 : Nat) ^ 8 = 72057594037927936 := by decide
    have hx : c % 128 * 128 ^ i ≤ 127 * 128 ^ i := Nat.mul_le_mul_right _ (by omega)
    rw [hsum _ (by omega)]
    refine ⟨rfl, ?_⟩
    show a + c % 128 * 128 ^ i < 128 ^ (i + 1)
    rw [Nat.pow_succ]
    omega
   ·have hcm : c % 128 = c := Nat.mod_eq_of_lt (by omega)
    rw [if_neg h128, if_neg (show ¬ (128 : Int) ≤ ((c : Nat) : Int) from h128), hcm]
    have hlow : ∀ (hx : c * 128 ^ i < 18446744073709551616), some (Go.bits .or .u64 (a : Int) (shl .u64 (c : Int) ((7 * i : Nat) : Int)), ((i + 1 : Nat) : Int), true) = some (tellN (some (a + ((c : Nat) : Int).toNat * 128 ^ i, i + 1))) := by
     intro hx
     rw [hsum _ hx]
     rfl
    have hsmall : i ≠ 9 → c * 128 ^ i < 18446744073709551616 := by
     intro h8
     have hpl8 : 128 ^ i ≤ 128 ^ 8 := Nat.pow_le_pow_right (by decide) (by omega)
     have h88 : (128 : Nat) ^ 8 = 72057594037927936 := by decide
     have hx : c * 128 ^ i ≤ 127 * 128 ^ i := Nat.mul_le_mul_right _ (by omega)
     omega
    have hone : c ≤ 1 → c * 128 ^ i < 18446744073709551616 := by
     intro h1
     have hx : c * 128 ^ i ≤ 1 * 128 ^ i := Nat.mul_le_mul_right _ h1
     omega
    by_cases h0 : (i : Int) > 0
    ·rw [if_pos h0]
     by_cases hc0 : (c : Int) = 0
     ·rw [if_pos hc0, if_pos (.inl ⟨by omega, hc0⟩)]
      rfl
     ·rw [if_neg hc0]
      by_cases hi9 : (i : Int) = 9
      ·rw [if_pos hi9]
       by_cases hc1 : (c : Int) > 1
       ·rw [if_pos hc1, if_pos (.inr ⟨by omega, hc1⟩)]
        rfl
       ·rw [if_neg hc1, if_neg (by omega)]
        exact hlow (hone (by omega))
      ·rw [if_neg hi9, if_neg (by omega)]
       exact hlow (hsmall (by omega))
    ·rw [if_neg h0, if_neg (by omega), if_neg (by omega)]
     exact hlow (hsmall (by omega))
  ·rw [if_neg (by omega), List.drop_of_length_le (by omega)]
   rfl
theorem le_Get_is (l : List Int) (hl : ∀ c ∈ l, 0 ≤ c ∧ c < 256) (hlen : l.length < 4611686018427387904) {k : Nat} (hk : 10 < k) : le_Get.f k l = some (tellN (getN l)) :=
 le_Get_loop l hl hlen 10 0 k 0 0 (by omega) (by omega) (by omega) (fun _ => ⟨rfl, by decide⟩)
theorem le_Get.told (A0 : Option Addr) (c0 : Nat) (l0 : List Int) (w : World) (hb : za5 l0) (hlen : l0.length < 4611686018427387904) (hr0 : Kd.C (Kd.int .u8) w A0 l0.length l0) (hc0 : l0.length ≤ c0) :
  Calls Try.prog 42 #[.slice A0 l0.length c0] w (getPost l0 w) := by
 have h := le_Get_is l0 hb hlen (k := 11) (by decide)
 cases hg : tellN (getN l0) with
 | mk n p =>
  obtain ⟨u, b⟩ := p
  rw [hg] at h
  refine (le_Get.calls 11 A0 c0 l0 n u b w hr0 hc0 h).mono ?_
  rintro e w' ⟨rfl, h3⟩
  unfold getPost
  rw [hg]
  exact ⟨rfl, h3⟩
theorem le_Get.yes (A0 : Option Addr) (c0 : Nat) (l0 : List Int) (w : World) {n u : Nat} (hg : getN l0 = some (n, u)) (hb : za5 l0) (hlen : l0.length < 4611686018427387904) (hr0 : Kd.C (Kd.int .u8) w A0 l0.length l0) (hc0 : l0.length ≤ c0) : Calls Try.prog 42 #[.slice A0 l0.length c0] w (numYes n u w) :=
 (le_Get.told A0 c0 l0 w hb hlen hr0 hc0).mono fun e w' h => by unfold getPost at h; rw [hg] at h; exact h
theorem le_Get.no (A0 : Option Addr) (c0 : Nat) (l0 : List Int) (w : World) (hg : getN l0 = none) (hb : za5 l0) (hlen : l0.length < 4611686018427387904) (hr0 : Kd.C (Kd.int .u8) w A0 l0.length l0) (hc0 : l0.length ≤ c0) : Calls Try.prog 42 #[.slice A0 l0.length c0] w (numNo w) :=
 (le_Get.told A0 c0 l0 w hb hlen hr0 hc0).mono fun e w' h => by unfold getPost at h; rw [hg] at h; exact h
set_option maxHeartbeats 1000000 in
set_option maxRecDepth 100000 in
theorem zbe (w0 : World) (B : Nat) (s : Option (List Int)) (m : Nat) (w : World) (h : RdAt w0 B s w) (hm : m ≤ 1125899906842624) :
  Calls Try.prog 25 #[.pointer (some ⟨B, 0, none⟩), .int .i64 (m : Int)] w (rdPost w0 B (zaB s (rN m)) (.int .i64 (wasO 0 s (rN m) : Nat)) w) := by
 have HH := Aside0.mk h
 obtain ⟨⟨A, c, l, bad, h1, h2, h3, h4, h5, hs⟩, h6, h7⟩ := h
 have HR := Aside0.mk h3
 have HC := Aside0.mk h2
 have hwm : IntKind.u64.wrap (m : Int) = (m : Int) := u64_small' (by omega)
 obtain ⟨k1, k2, k3, k4⟩ := know h1
 have HB := Aside0.mk h6
 cases hg : getN l with
 | none =>
  have HN := Aside0.mk (le_Get.no A c l w hg h4 h5 (Kd.C_below h3 h6) h2)
  have e1 : zaB s (rN m) = s.bind (skipR 0 false) := by
   rw [hs]
   cases bad
   ·show ((some l).bind (rN m)).map (·.2) = (some l).bind (skipR 0 false)
    rw [Option.bind_some, Option.bind_some, rN_none hg]
    rfl
   ·rfl
  have e2 : wasO 0 s (rN m) = 0 := by
   rw [hs]
   cases bad
   ·show (((some l).bind (rN m)).map (·.1)).getD 0 = 0
    rw [Option.bind_some, rN_none hg]
    rfl
   ·rfl
  have e3 : s.bind (skipR 0 false) = none := by
   rw [hs]
   cases bad
   ·rfl
   ·rfl
  rw [e1, e2]
  have HE3 := Aside0.mk e3
  clear h1 h2 h3 h4 h6 hs hg e1 e2 e3
  go_enter Try.func25, Try.ntmps25
  go_wp2_with fail
  go_at_call 42
  refine HN.out.mono ?_
  rintro e w1 ⟨rfl, hb1⟩
  have HH1 := Aside0.mk (HH.out.grow hb1)
  have HO1 := Aside0.mk (Only.of_below hb1 (Nat.le_of_lt HH.out.lt))
  clear hb1 k1 k2 k3 k4
  go_wp2_with fail
  go_at_call 43
  refine (skip_told w0 B s 0 false _ HH1.out (by decide)).mono ?_
  rintro e w2 ⟨rfl, hrd, ho⟩
  have HRD := Aside0.mk hrd
  have HO2 := Aside0.mk (HO1.out.trans ho)
  obtain ⟨⟨A2, c2, l2, bad2, g1, _, _, _, _, g2⟩, _, _⟩ := hrd
  rw [HE3.out] at g2
  have hbad : bad2 = true := by
   cases bad2
   ·cases g2
   ·rfl
  subst hbad
  obtain ⟨j1, j2, j3, j4⟩ := know g1
  clear g1 g2 ho
  go_wp2_with fail
  go_ret
  exact ⟨rfl, HRD.out, HO2.out⟩
 | some p =>
  obtain ⟨a, u⟩ := p
  have hlt := (getN_some h4 hg).1
  have hu := getN_used hg
  have HN := Aside0.mk (le_Get.yes A c l w hg h4 h5 (Kd.C_below h3 h6) h2)
  have e1 : zaB s (rN m) = s.bind (skipR u (decide (a ≤ m))) := by
   rw [hs]
   cases bad
   ·show ((some l).bind (rN m)).map (·.2) = (some l).bind (skipR u (decide (a ≤ m)))
    rw [Option.bind_some, Option.bind_some, rN_some hg]
    unfold skipR
    by_cases hle : a ≤ m
    ·rw [if_pos hle, if_pos ⟨decide_eq_true hle, hu.2.1⟩]; rfl
    ·rw [if_neg hle, if_neg (fun h => hle (of_decide_eq_true h.1))]; rfl
   ·rfl
  have e2 : wasO 0 s (rN m) = if (s.bind (skipR u (decide (a ≤ m)))).isSome then a else 0 := by
   rw [hs]
   cases bad
   ·show (((some l).bind (rN m)).map (·.1)).getD 0 = if ((some l).bind (skipR u (decide (a ≤ m)))).isSome then a else 0
    rw [Option.bind_some, Option.bind_some, rN_some hg]
    unfold skipR
    by_cases hle : a ≤ m
    ·have h9 : (if decide (a ≤ m) = true ∧ u ≤ l.length then some (l.drop u) else none) = some (l.drop u) := if_pos ⟨decide_eq_true hle, hu.2.1⟩
     rw [if_pos hle, h9]; rfl
    ·have h9 : (if decide (a ≤ m) = true ∧ u ≤ l.length then some (l.drop u) else none) = none := if_neg (fun h => hle (of_decide_eq_true h.1))
     rw [if_neg hle, h9]; rfl
   ·rfl
  have hle2 : (s.bind (skipR u (decide (a ≤ m)))).isSome = true → a ≤ m := by
   intro hh
   by_cases hle : a ≤ m
   ·exact hle
   ·exfalso
    rw [decide_eq_false hle] at hh
    cases s with
    | none => cases hh
    | some x => simp [skipR] at hh
  rw [e1, e2]
  have hle1 : decide ((a : Int) ≤ (m : Int)) = decide (a ≤ m) := by rw [decide_eq_decide]; omega
  obtain ⟨q, hq⟩ : ∃ q, decide (a ≤ m) = q := ⟨_, rfl⟩
  rw [hq] at hle1 hle2 ⊢
  obtain ⟨s1, hs1⟩ : ∃ s1, s.bind (skipR u q) = s1 := ⟨_, rfl⟩
  have HS1 := Aside0.mk hs1
  rw [hs1] at hle2 ⊢
  have HLE := Aside0.mk hle2
  obtain ⟨z, hz⟩ : ∃ z : Nat, (if s1.isSome then a else 0) = z := ⟨_, rfl⟩
  rw [hz]
  have HZ := Aside0.mk hz
  clear hz
  have hu63 : u < 4611686018427387904 := by omega
  clear h1 h2 h3 h4 h6 hs hg e1 e2 hs1 hle2 hu hlt h5
  go_enter Try.func25, Try.ntmps25
  go_wp2_with fail
  go_at_call 42
  refine HN.out.mono ?_
  rintro e w1 ⟨rfl, hb1⟩
  have HH1 := Aside0.mk (HH.out.grow hb1)
  have HO1 := Aside0.mk (Only.of_below hb1 (Nat.le_of_lt HH.out.lt))
  clear hb1 k1 k2 k3 k4
  go_wp2_with fail
  go_at_call 43
  refine (skip_told w0 B s u q _ HH1.out hu63).mono ?_
  rintro e w2 ⟨rfl, hrd, ho⟩
  rw [HS1.out] at hrd
  have HRD := Aside0.mk hrd
  have HO2 := Aside0.mk (HO1.out.trans ho)
  obtain ⟨⟨A2, c2, l2, bad2, g1, _, _, _, _, g2⟩, _, _⟩ := hrd
  obtain ⟨j1, j2, j3, j4⟩ := know g1
  clear g1 ho
  cases bad2 with
  | true =>
   rw [if_pos rfl] at g2
   subst g2
   obtain rfl : 0 = z := HZ.out
   go_wp2_with fail
   go_ret
   exact ⟨rfl, HRD.out, HO2.out⟩
  | false =>
   rw [if_neg (by decide)] at g2
   subst g2
   have ham := HLE.out rfl
   obtain rfl : a = z := HZ.out
   have hwa : IntKind.i64.wrap (a : Int) = (a : Int) := IntWalk.i64_in _ (by omega)
   clear ham
   go_wp2_with fail
   go_ret
   exact ⟨rfl, HRD.out, HO2.out⟩
set_option maxHeartbeats 1000000 in
set_option maxRecDepth 100000 in
theorem text_told (w0 : World) (B : Nat) (s : Option (List Int)) (w : World) (h : RdAt w0 B s w) :
  Calls Try.prog 44 #[.pointer (some ⟨B, 0, none⟩)] w (rdPost w0 B (zaB s rT) (.string (wasO ⟨#[]⟩ s rT)) w) := by
 have HH := Aside0.mk h
 obtain ⟨s1, hs1⟩ : ∃ s1, zaB s (rN 12) = s1 := ⟨_, rfl⟩
 obtain ⟨m, hm⟩ : ∃ m, wasO 0 s (rN 12) = m := ⟨_, rfl⟩
 have hm12 : m ≤ 12 := hm ▸ wasO_rN_le s 12
 have hm63 : m < 4611686018427387904 := by omega
 have HS1 := Aside0.mk hs1
 have HM := Aside0.mk hm
 obtain ⟨s2, hs2⟩ : ∃ s2, s1.bind (skipR m true) = s2 := ⟨_, rfl⟩
 have HS2 := Aside0.mk hs2
 have HE := Aside0.mk (show zaB s rT = s2 from by rw [restO_rT, hs1, hm, hs2])
 obtain ⟨t, ht⟩ : ∃ t, wasO (⟨#[]⟩ : ByteArray) s rT = t := ⟨_, rfl⟩
 have HT := Aside0.mk ht
 rw [HE.out, ht]
 clear h hs1 hm hs2 ht hm12
 go_enter Try.func44, Try.ntmps44
 go_wp2_with fail
 go_at_call 25
 refine (zbe w0 B s 12 _ HH.out (by decide)).mono ?_
 rintro e w1 ⟨rfl, hrd, ho⟩
 rw [HS1.out] at hrd
 rw [HM.out]
 have HR1 := Aside0.mk hrd
 have HO1 := Aside0.mk ho
 obtain ⟨⟨A, c, l, bad, g1, g2, g3, g4, g5, g6⟩, g7, g8⟩ := hrd
 obtain ⟨k1, k2, k3, k4⟩ := know g1
 have HC := Aside0.mk g2
 have HL := Aside0.mk g3
 have HBY := Aside0.mk g4
 have HG6 := Aside0.mk g6
 clear g1 g2 g3 g4 g6 g7 ho
 go_wp2_with fail
 go_at_call 43
 refine (skip_told w0 B s1 m true _ HR1.out hm63).mono ?_
 rintro e w2 ⟨rfl, hrd, ho⟩
 rw [HS2.out] at hrd
 have HR2 := Aside0.mk hrd
 have HO2 := Aside0.mk (HO1.out.trans ho)
 obtain ⟨⟨A2, c2, l2, bad2, q1, q2, q3, q4, q5, q6⟩, q7, q8⟩ := hrd
 obtain ⟨j1, j2, j3, j4⟩ := know q1
 have HQ7 := Aside0.mk q7
 clear q1 q2 q3 q4 q7 ho k1 k2 k3 k4
 cases bad2 with
 | true =>
  rw [if_pos rfl] at q6
  subst q6
  have he : t = ⟨#[]⟩ := by
   rw [← HT.out]
   cases hz : s1 with
   | none => exact wasO_rT_none (HS1.out.trans hz)
   | some r =>
    rw [wasO_rT_some (HS1.out.trans hz), HM.out]
    have hz2 := HS2.out
    rw [hz, Option.bind_some] at hz2
    unfold skipR at hz2
    by_cases hle : m ≤ r.length
    ·rw [if_pos ⟨rfl, hle⟩] at hz2; cases hz2
    ·rw [if_neg hle]
  subst he
  go_wp2_with fail
  go_ret
  exact ⟨rfl, HR2.out, HO2.out⟩
 | false =>
  rw [if_neg (by decide)] at q6
  have hs : s1 = some l ∧ m ≤ l.length ∧ t = strOfNums (l.take m) := by
   cases hz : s1 with
   | none =>
    have hz2 := HS2.out
    rw [hz, q6] at hz2
    cases hz2
   | some r =>
    have hz2 := HS2.out
    rw [hz, q6, Option.bind_some] at hz2
    unfold skipR at hz2
    have h6 := HG6.out
    rw [hz] at h6
    cases bad with
    | true => rw [if_pos rfl] at h6; cases h6
    | false =>
     rw [if_neg (by decide)] at h6
     obtain rfl := Option.some.inj h6
     by_cases hle : m ≤ r.length
     ·refine ⟨rfl, hle, ?_⟩
      rw [← HT.out, wasO_rT_some (HS1.out.trans hz), HM.out, if_pos hle]
     ·rw [if_neg (fun hh => hle hh.2)] at hz2; cases hz2
  obtain ⟨hs1, hml, rfl⟩ := hs
  obtain ⟨i0, hi0, _, hsz0, _⟩ := info_parts info5
  obtain ⟨hcut, hcC⟩ := take_row (P := Try.prog) (d := Kd.int .u8) Try.underlying25 hi0 A c l m (m : Int) rfl hml HC.out
  have hrow := hcC _ (Kd.C_below HL.out HQ7.out)
  have hlt : (l.take m).length = m := by rw [List.length_take]; omega
  have hconv := Kd.C_string (P := Try.prog) (c := c) Try.underlying25 Try.underlying5 Try.underlying9 hrow
  rw [← hlt] at hconv
  try simp only [hlt] at hconv
  clear hcC hrow hlt hi0 hsz0 hs1 q6 HG6
  go_wp2_with fail
  go_ret
  exact ⟨rfl, HR2.out, HO2.out⟩
def le_Zag.f (a0 : Int) : Option (Int) := some (Go.bits .xor .i64 (wrap64 (a0 / 2)) (wrap64 (-(wrap64 (Go.bits .and .u64 a0 1)))))
set_option maxHeartbeats 8000000 in
set_option maxRecDepth 100000 in
theorem le_Zag.calls (a0 : Int) (r : Int) (w : World) (h : le_Zag.f a0 = some r) :
  Calls Try.prog 79 #[.int .u64 a0] w fun e w' => e = .returned (.int .i64 r) ∧ Drawn0 w w' := by
 have H : (some (Go.bits .xor .i64 (wrap64 (a0 / 2)) (wrap64 (-(wrap64 (Go.bits .and .u64 a0 1)))))) = some r := h
 clear h
 obtain rfl := Option.some.inj H
 go_enter Try.func79, Try.ntmps79
 go_wp2
 go_ret
 exact ⟨by first | rfl | (simp; done) | (simp [*]; done), by repeat (first | exact Drawn0.refl _ | apply Drawn0.step)⟩
theorem zag_is {m : Nat} (h : m < 18446744073709551616) : le_Zag.f (m : Int) = some (zagN m) := by
 unfold le_Zag.f zagN
 have hand : Go.bits .and .u64 (m : Int) 1 = ((m % 2 : Nat) : Int) := by
  show IntKind.wrap .u64 (((BitVec.ofInt 64 (m : Int) &&& BitVec.ofInt 64 1).toNat : Nat) : Int) = _
  rw [BitVec.toNat_and, ofInt_u64 (by omega) (by omega), show (BitVec.ofInt 64 1).toNat = 1 from by decide, Int.toNat_natCast, Nat.and_one_is_mod, wrap_u64]
  omega
 rw [hand]
 have e1 : wrap64 ((m : Int) / 2) = ((m / 2 : Nat) : Int) := by unfold wrap64; omega
 rw [e1]
 by_cases h2 : m % 2 = 0
 ·rw [if_pos h2, h2, show wrap64 (-wrap64 ((0 : Nat) : Int)) = 0 from by unfold wrap64; decide]
  rw [xor_zeroI _ (by rw [ofInt_u64 (by omega) (by omega), wrap_i64]; unfold wrap64; omega)]
 ·rw [if_neg h2, show m % 2 = 1 from by omega, show wrap64 (-wrap64 ((1 : Nat) : Int)) = -1 from by unfold wrap64; decide]
  show some (IntKind.wrap .i64 (((BitVec.ofInt 64 ((m / 2 : Nat) : Int) ^^^ BitVec.ofInt 64 (-1)).toNat : Nat) : Int)) = _
  rw [show BitVec.ofInt 64 (-1) = BitVec.allOnes 64 from by decide, not64, ofInt_u64 (by omega) (by omega), wrap_i64]
  congr 1
  unfold wrap64
  omega
set_option maxHeartbeats 4000000 in
set_option maxRecDepth 100000 in
theorem value_Get.told (w : World) (A : Option Addr) (c : Nat) (l : List Int) (hr0 : Kd.C (Kd.int .u8) w A l.length l) (hc0 : l.length ≤ c) (hb : za5 l) (hl : l.length < 4611686018427387904) {x : SValue} {m : Nat} {b : Bool} (hq : gotV (getV l) = (x, m, b)) :
  Calls Try.prog 73 #[.slice A l.length c] w (valPost3 x m b w) := by
 have HR := Aside0.mk hr0
 have HC := Aside0.mk hc0
 clear hr0
 cases l with
 | nil =>
  obtain ⟨rfl, rfl, rfl⟩ : x = ⟨0, 0, ⟨#[]⟩⟩ ∧ m = 0 ∧ b = false := by
   have h : ((⟨0, 0, ⟨#[]⟩⟩ : SValue), 0, false) = (x, m, b) := hq
   simp only [Prod.mk.injEq] at h
   exact ⟨h.1.symm, h.2.1.symm, h.2.2.symm⟩
  clear hq hl
  show Calls _ _ #[.slice A 0 c] w _
  have HKr := Aside0.mk (zag (zaw w (.cells #[.int .i64 0, .int .i64 0, .string ⟨#[]⟩] 73)) (.cells #[.int .i64 0, .int .i64 0, .string ⟨#[]⟩] 73))
  have HB := Aside0.mk (show Below w.heap.size w ((w.alloc (.cells #[.int .i64 0, .int .i64 0, .string ⟨#[]⟩] 73)).alloc (.cells #[.int .i64 0, .int .i64 0, .string ⟨#[]⟩] 73)) from zaa (zaa (Below.refl _ _) _) _)
  go_enter Try.func73, Try.ntmps73
  go_wp2
  exact bodyPost_ret (v := .tuple #[.agg #[.int .i64 0, .int .i64 0, .string ⟨#[]⟩], .int .i64 0, .bool false]) (by simp [results, Try.results73, go_sem]) rfl ⟨rfl, HB.out⟩
 | cons k r =>
  have hk := hb k (by simp)
  obtain ⟨hk0, hk1⟩ := hk
  have HBR := Aside0.mk (show za5 r from fun c hc => hb c (by simp [hc]))
  clear hb
  obtain ⟨i0, hi0, _, hsz0, _⟩ := info_parts info5
  obtain ⟨A1, hcut1, hD1, hlc1⟩ := drop_row (P := Try.prog) (d := Kd.int .u8) Try.underlying25 hi0 hsz0 A c (k :: r) 1 1 rfl (by simp) HC.out
  rw [List.drop_succ_cons, List.drop_zero] at hD1 hlc1
  simp only [List.drop_succ_cons, List.drop_zero] at hcut1
  have HD1 := Aside0.mk (hD1 w HR.out)
  have HL1 := Aside0.mk hlc1
  obtain ⟨ad, had, hx⟩ := Kd.at_int HR.out 0 (by omega) (by simp)
  subst had
  replace hx : w.cell? ad = some (.int .u8 k) := hx
  have HX := Aside0.mk hx
  have hlr : r.length + 1 < 4611686018427387904 := by simpa using hl
  have hln : (k :: r).length = r.length + 1 := rfl
  rw [hln] at hcut1 hc0 ⊢
  have HLN := Aside0.mk hln
  clear hD1 hlc1 hx hl hln
  have hw0 : IntKind.wrap .i64 k = k := IntWalk.i64_in _ (by omega)
  cases hg : getN r with
  | none =>
   obtain ⟨rfl, rfl, rfl⟩ : x = ⟨0, 0, ⟨#[]⟩⟩ ∧ m = 0 ∧ b = false := by
    have h : gotV (getV (k :: r)) = ((⟨0, 0, ⟨#[]⟩⟩ : SValue), 0, false) := by unfold getV; simp only [hg]; rfl
    rw [h] at hq
    simp only [Prod.mk.injEq] at hq
    exact ⟨hq.1.symm, hq.2.1.symm, hq.2.2.symm⟩
   have HG := Aside0.mk hg
   clear hg hq hw0
   go_enter Try.func73, Try.ntmps73
   go_wp2_with (go_at_call 42; refine (le_Get.no A1 _ r _ HG.out HBR.out (by omega) (Kd.C_below HD1.out (zaa (zaa (Below.refl _ _) _) _)) HL1.out).mono ?_; rintro e w1 ⟨rfl, hb1⟩; have HB1 := Aside0.mk (zah (zaa (zaa (Below.refl _ _) _) _) hb1); have HKr1 := Aside0.mk (zak (zag (zaw w (.cells #[.int .i64 0, .int .i64 0, .string ⟨#[]⟩] 73)) (.cells #[.int .i64 0, .int .i64 0, .string ⟨#[]⟩] 73)) hb1); obtain ⟨kr1, kr2, kr3, kr4⟩ := know HKr1.out; have HKn1 := Aside0.mk (zak (zbh w (.cells #[.int .i64 0, .int .i64 0, .string ⟨#[]⟩] 73) (.cells #[.int .i64 0, .int .i64 0, .string ⟨#[]⟩] 73)) hb1); obtain ⟨kn1, kn2, kn3, kn4⟩ := know HKn1.out; clear hb1)
   have hz := zbB HKr1.out (.int .i64 0) (.int .i64 0) (.string ⟨#[]⟩)
   have hbz := below_put3 HB1.out (Nat.le_refl _) (.int .i64 0) (.int .i64 0) (.string ⟨#[]⟩)
   generalize World.setCell (World.setCell (World.setCell _ _ _) _ _) _ _ = W3 at hz hbz ⊢
   have hz0 : W3.cell? ⟨w.heap.size, 0, none⟩ = some (.int .i64 0) := zad hz 0
   have hz1 : W3.cell? ⟨w.heap.size, 1, none⟩ = some (.int .i64 0) := zad hz 1
   have hz2 : W3.cell? ⟨w.heap.size, 2, none⟩ = some (.string ⟨#[]⟩) := zad hz 2
   exact bodyPost_ret (v := .tuple #[.agg #[.int .i64 0, .int .i64 0, .string ⟨#[]⟩], .int .i64 0, .bool false]) (by simp [results, Try.results73, go_sem, hz0, hz1, hz2]) rfl ⟨rfl, hbz⟩
  | some p =>
   obtain ⟨n, u⟩ := p
   have hu := (getN_used hg).2
   have hnb : n < 18446744073709551616 := (getN_some HBR.out hg).1
   have HG := Aside0.mk hg
   by_cases hk3 : k = 0
   ·subst hk3
    obtain ⟨rfl, rfl, rfl⟩ : x = ⟨0, zagN n, ⟨#[]⟩⟩ ∧ m = u + 1 ∧ b = true := by
     have h : gotV (getV (0 :: r)) = ((⟨0, zagN n, ⟨#[]⟩⟩ : SValue), u + 1, true) := by unfold getV; simp only [hg]; rfl
     rw [h] at hq
     simp only [Prod.mk.injEq] at hq
     exact ⟨hq.1.symm, hq.2.1.symm, hq.2.2.symm⟩
    have HZ := Aside0.mk (zag_is hnb)
    have HZB := Aside0.mk (zag_in hnb)
    have HM := Aside0.mk (show mayV ⟨0, zagN n, ⟨#[]⟩⟩ = true from mayV_iff.2 (.inl ⟨rfl, (by decide +kernel : (⟨#[]⟩ : ByteArray).toList = [])⟩))
    generalize zagN n = z at *
    clear hg hq hw0
    go_enter Try.func73, Try.ntmps73
    go_wp2_with (first
     | (go_at_call 42; refine (le_Get.yes A1 _ r _ HG.out HBR.out (by omega) (Kd.C_below HD1.out (zaa (zaa (Below.refl _ _) _) _)) HL1.out).mono ?_; rintro e w1 ⟨rfl, hb1⟩; have HB1 := Aside0.mk (zah (zaa (zaa (Below.refl _ _) _) _) hb1); have HKr1 := Aside0.mk (zak (zag (zaw w (.cells #[.int .i64 0, .int .i64 0, .string ⟨#[]⟩] 73)) (.cells #[.int .i64 0, .int .i64 0, .string ⟨#[]⟩] 73)) hb1); obtain ⟨kr1, kr2, kr3, kr4⟩ := know HKr1.out; have HKn1 := Aside0.mk (zak (zbh w (.cells #[.int .i64 0, .int .i64 0, .string ⟨#[]⟩] 73) (.cells #[.int .i64 0, .int .i64 0, .string ⟨#[]⟩] 73)) hb1); obtain ⟨kn1, kn2, kn3, kn4⟩ := know HKn1.out; have hx1 := zaH HB1.out HX.out; clear hb1)
     | (go_at_call 79; refine (le_Zag.calls (n : Int) _ _ HZ.out).mono ?_; rintro e w2 ⟨rfl, hd2⟩; have hb2 := hd2.below; have HB2 := Aside0.mk (zah (zaa HB1.out _) hb2); have HKr2 := Aside0.mk (zak (zag HKr1.out _) hb2); have HKv2 := Aside0.mk (zak (zaw w1 (.cells #[.int .i64 0, .int .i64 0, .string ⟨#[]⟩] 73)) hb2); have hcv2 := za8 HKv2.out; have hfv2 := frozen_of HKv2.out; clear hb2 hd2)
     | (go_at_call 66; refine (zbz ⟨0, z, ⟨#[]⟩⟩ _ HZB.out HM.out).mono ?_; rintro e w3 ⟨rfl, hb3⟩; have HB3 := Aside0.mk (zah (zaf (j := 1) (v := Value.int .i64 z) (g := w1.heap.size) HB2.out (zan HB1.out)) hb3); have HKr3 := Aside0.mk (zak (zaM HKr2.out (p := ⟨w1.heap.size, 1, none⟩) (Nat.ne_of_lt (zay HKr1.out)) (Value.int .i64 z)) hb3); have HKv3 := Aside0.mk (zak (blk_set HKv2.out 1 (Value.int .i64 z)) hb3); have hcr3 := za8 HKr3.out; have hfr3 := frozen_of HKr3.out; have hcv3 := za8 HKv3.out; clear hb3))
    have hz := zbB HKr3.out (.int .i64 0) (.int .i64 z) (.string ⟨#[]⟩)
    have hbz := below_put3 HB3.out (Nat.le_refl _) (.int .i64 0) (.int .i64 z) (.string ⟨#[]⟩)
    generalize World.setCell (World.setCell (World.setCell _ _ _) _ _) _ _ = W3 at hz hbz ⊢
    have hz0 : W3.cell? ⟨w.heap.size, 0, none⟩ = some (.int .i64 0) := zad hz 0
    have hz1 : W3.cell? ⟨w.heap.size, 1, none⟩ = some (.int .i64 z) := zad hz 1
    have hz2 : W3.cell? ⟨w.heap.size, 2, none⟩ = some (.string ⟨#[]⟩) := zad hz 2
    exact bodyPost_ret (v := .tuple #[.agg #[.int .i64 0, .int .i64 z, .string ⟨#[]⟩], .int .i64 ((u + 1 : Nat) : Int), .bool true]) (by simp [results, Try.results73, go_sem, hz0, hz1, hz2]) rfl ⟨rfl, hbz⟩
   ·by_cases hk4 : k = 2
    ·subst hk4
     have hq2 : gotV (getV (2 :: r)) = if n ≤ 40 ∧ n ≤ r.length - u then (⟨2, 0, strOfNums ((r.drop u).take n)⟩, u + 1 + n, true) else (⟨0, 0, ⟨#[]⟩⟩, 0, false) := by
      have h : getV (2 :: r) = if n ≤ 40 ∧ n ≤ r.length - u then some (⟨2, 0, strOfNums ((r.drop u).take n)⟩, u + 1 + n) else none := by
       unfold getV
       simp only [hg]
       rfl
      rw [h]
      split <;> rfl
     rw [hq2] at hq
     clear hq2 hk3
     have hwe : IntKind.wrap .u64 ((r.length : Int) + 1 - ((u : Int) + 1)) = (r.length : Int) + 1 - ((u : Int) + 1) := by rw [wrap_u64]; omega
     by_cases hfit : n ≤ r.length - u
     ·have hwn : IntKind.wrap .i64 (n : Int) = (n : Int) := IntWalk.i64_in _ (by omega)
      obtain ⟨A2, hcut2, hD2, hln2⟩ := mid_row (P := Try.prog) (d := Kd.int .u8) Try.underlying25 hi0 hsz0 (some ad) c (2 :: r) (u + 1) n ((u : Int) + 1) (((u : Int) + 1) + (n : Int)) (by omega) (by omega) (by rw [HLN.out]; omega) HC.out
      rw [List.drop_succ_cons] at hD2 hln2
      rw [HLN.out] at hcut2
      have HD2 := Aside0.mk (hD2 w (by rw [HLN.out]; exact HR.out))
      have hstr := fun (W : World) (h : Below w.heap.size w W) => Kd.C_string (P := Try.prog) (c := c - (u + 1)) Try.underlying25 Try.underlying5 Try.underlying9 (Kd.C_below HD2.out h)
      have hsz : (strOfNums ((r.drop u).take n)).size = n := by rw [strOfNums_size]; exact hln2
      have HSTR := Aside0.mk hstr
      have HSZ := Aside0.mk hsz
      have hf1 : (n : Int) ≤ (r.length : Int) + 1 - ((u : Int) + 1) := by omega
      clear hD2 hln2 hstr hsz
      by_cases h40 : n ≤ 40
      ·skip
       obtain ⟨rfl, rfl, rfl⟩ : x = ⟨2, 0, strOfNums ((r.drop u).take n)⟩ ∧ m = u + 1 + n ∧ b = true := by
        rw [if_pos ⟨h40, hfit⟩] at hq
        simp only [Prod.mk.injEq] at hq
        exact ⟨hq.1.symm, hq.2.1.symm, hq.2.2.symm⟩
       have HM := Aside0.mk (show mayV ⟨2, 0, strOfNums ((r.drop u).take n)⟩ = true from by exact mayV_iff.2 (.inr (.inr (.inl ⟨rfl, rfl, by rw [HSZ.out]; omega⟩))))
       generalize strOfNums ((r.drop u).take n) = t at *
       clear hg hq hi0 hsz0
       go_enter Try.func73, Try.ntmps73
       go_wp2_with (first
        | (go_at_call 42; refine (le_Get.yes A1 _ r _ HG.out HBR.out (by omega) (Kd.C_below HD1.out (zaa (zaa (Below.refl _ _) _) _)) HL1.out).mono ?_; rintro e w1 ⟨rfl, hb1⟩; have HB1 := Aside0.mk (zah (zaa (zaa (Below.refl _ _) _) _) hb1); have HKr1 := Aside0.mk (zak (zag (zaw w (.cells #[.int .i64 0, .int .i64 0, .string ⟨#[]⟩] 73)) (.cells #[.int .i64 0, .int .i64 0, .string ⟨#[]⟩] 73)) hb1); obtain ⟨kr1, kr2, kr3, kr4⟩ := know HKr1.out; have HKn1 := Aside0.mk (zak (zbh w (.cells #[.int .i64 0, .int .i64 0, .string ⟨#[]⟩] 73) (.cells #[.int .i64 0, .int .i64 0, .string ⟨#[]⟩] 73)) hb1); obtain ⟨kn1, kn2, kn3, kn4⟩ := know HKn1.out; have hx1 := zaH HB1.out HX.out; have hstr1 := HSTR.out _ (zaa HB1.out (.cells #[.int .i64 2, .int .i64 0, .string ⟨#[]⟩] 73)); clear hb1)
        | (go_at_call 66; refine (zbz ⟨2, 0, t⟩ _ zero_i64 HM.out).mono ?_; rintro e w3 ⟨rfl, hb3⟩; have HB3 := Aside0.mk (zah (zaa HB1.out _) hb3); have HKr3 := Aside0.mk (zak (zag HKr1.out _) hb3); have HKv3 := Aside0.mk (zak (zaw w1 (.cells #[.int .i64 2, .int .i64 0, .string t] 73)) hb3); have hcr3 := za8 HKr3.out; have hfr3 := frozen_of HKr3.out; have hcv3 := za8 HKv3.out; have HKn3 := Aside0.mk (zak (zag HKn1.out _) hb3); have hcn3 := za8 HKn3.out; clear hb3))
       have hz := zbB HKr3.out (.int .i64 2) (.int .i64 0) (.string t)
       have hbz := below_put3 HB3.out (Nat.le_refl _) (.int .i64 2) (.int .i64 0) (.string t)
       generalize World.setCell (World.setCell (World.setCell _ _ _) _ _) _ _ = W3 at hz hbz ⊢
       have hz0 : W3.cell? ⟨w.heap.size, 0, none⟩ = some (.int .i64 2) := zad hz 0
       have hz1 : W3.cell? ⟨w.heap.size, 1, none⟩ = some (.int .i64 0) := zad hz 1
       have hz2 : W3.cell? ⟨w.heap.size, 2, none⟩ = some (.string t) := zad hz 2
       exact bodyPost_ret (v := .tuple #[.agg #[.int .i64 2, .int .i64 0, .string t], .int .i64 ((u + 1 + n : Nat) : Int), .bool true]) (by simp [results, Try.results73, go_sem, hz0, hz1, hz2]) rfl ⟨rfl, hbz⟩
      skip
      ·skip
       obtain ⟨rfl, rfl, rfl⟩ : x = ⟨0, 0, ⟨#[]⟩⟩ ∧ m = 0 ∧ b = false := by
        rw [if_neg (by omega)] at hq
        simp only [Prod.mk.injEq] at hq
        exact ⟨hq.1.symm, hq.2.1.symm, hq.2.2.symm⟩
       have HM := Aside0.mk (show mayV ⟨2, 0, strOfNums ((r.drop u).take n)⟩ = false from by rw [← Bool.not_eq_true, mayV_iff]; simp only [HSZ.out]; omega)
       generalize strOfNums ((r.drop u).take n) = t at *
       clear hg hq hi0 hsz0
       go_enter Try.func73, Try.ntmps73
       go_wp2_with (first
        | (go_at_call 42; refine (le_Get.yes A1 _ r _ HG.out HBR.out (by omega) (Kd.C_below HD1.out (zaa (zaa (Below.refl _ _) _) _)) HL1.out).mono ?_; rintro e w1 ⟨rfl, hb1⟩; have HB1 := Aside0.mk (zah (zaa (zaa (Below.refl _ _) _) _) hb1); have HKr1 := Aside0.mk (zak (zag (zaw w (.cells #[.int .i64 0, .int .i64 0, .string ⟨#[]⟩] 73)) (.cells #[.int .i64 0, .int .i64 0, .string ⟨#[]⟩] 73)) hb1); obtain ⟨kr1, kr2, kr3, kr4⟩ := know HKr1.out; have HKn1 := Aside0.mk (zak (zbh w (.cells #[.int .i64 0, .int .i64 0, .string ⟨#[]⟩] 73) (.cells #[.int .i64 0, .int .i64 0, .string ⟨#[]⟩] 73)) hb1); obtain ⟨kn1, kn2, kn3, kn4⟩ := know HKn1.out; have hx1 := zaH HB1.out HX.out; have hstr1 := HSTR.out _ (zaa HB1.out (.cells #[.int .i64 2, .int .i64 0, .string ⟨#[]⟩] 73)); clear hb1)
        | (go_at_call 66; refine (zbz ⟨2, 0, t⟩ _ zero_i64 HM.out).mono ?_; rintro e w3 ⟨rfl, hb3⟩; have HB3 := Aside0.mk (zah (zaa HB1.out _) hb3); have HKr3 := Aside0.mk (zak (zag HKr1.out _) hb3); have HKv3 := Aside0.mk (zak (zaw w1 (.cells #[.int .i64 2, .int .i64 0, .string t] 73)) hb3); have hcr3 := za8 HKr3.out; have hfr3 := frozen_of HKr3.out; have hcv3 := za8 HKv3.out; have HKn3 := Aside0.mk (zak (zag HKn1.out _) hb3); have hcn3 := za8 HKn3.out; clear hb3))
       have hz := zbB HKr3.out (.int .i64 0) (.int .i64 0) (.string ⟨#[]⟩)
       have hbz := below_put3 HB3.out (Nat.le_refl _) (.int .i64 0) (.int .i64 0) (.string ⟨#[]⟩)
       generalize World.setCell (World.setCell (World.setCell _ _ _) _ _) _ _ = W3 at hz hbz ⊢
       have hz0 : W3.cell? ⟨w.heap.size, 0, none⟩ = some (.int .i64 0) := zad hz 0
       have hz1 : W3.cell? ⟨w.heap.size, 1, none⟩ = some (.int .i64 0) := zad hz 1
       have hz2 : W3.cell? ⟨w.heap.size, 2, none⟩ = some (.string ⟨#[]⟩) := zad hz 2
       exact bodyPost_ret (v := .tuple #[.agg #[.int .i64 0, .int .i64 0, .string ⟨#[]⟩], .int .i64 0, .bool false]) (by simp [results, Try.results73, go_sem, hz0, hz1, hz2]) rfl ⟨rfl, hbz⟩
     ·obtain ⟨rfl, rfl, rfl⟩ : x = ⟨0, 0, ⟨#[]⟩⟩ ∧ m = 0 ∧ b = false := by
       rw [if_neg (by omega)] at hq
       simp only [Prod.mk.injEq] at hq
       exact ⟨hq.1.symm, hq.2.1.symm, hq.2.2.symm⟩
      have hf1 : (r.length : Int) + 1 - ((u : Int) + 1) < (n : Int) := by omega
      clear hg hq hi0 hsz0
      go_enter Try.func73, Try.ntmps73
      go_wp2_with (go_at_call 42; refine (le_Get.yes A1 _ r _ HG.out HBR.out (by omega) (Kd.C_below HD1.out (zaa (zaa (Below.refl _ _) _) _)) HL1.out).mono ?_; rintro e w1 ⟨rfl, hb1⟩; have HB1 := Aside0.mk (zah (zaa (zaa (Below.refl _ _) _) _) hb1); have HKr1 := Aside0.mk (zak (zag (zaw w (.cells #[.int .i64 0, .int .i64 0, .string ⟨#[]⟩] 73)) (.cells #[.int .i64 0, .int .i64 0, .string ⟨#[]⟩] 73)) hb1); obtain ⟨kr1, kr2, kr3, kr4⟩ := know HKr1.out; have HKn1 := Aside0.mk (zak (zbh w (.cells #[.int .i64 0, .int .i64 0, .string ⟨#[]⟩] 73) (.cells #[.int .i64 0, .int .i64 0, .string ⟨#[]⟩] 73)) hb1); obtain ⟨kn1, kn2, kn3, kn4⟩ := know HKn1.out; have hx1 := zaH HB1.out HX.out; clear hb1)
      have hz := zbB (zag HKr1.out (.cells #[.int .i64 2, .int .i64 0, .string ⟨#[]⟩] 73)) (.int .i64 0) (.int .i64 0) (.string ⟨#[]⟩)
      have hbz := below_put3 (zaa HB1.out (.cells #[.int .i64 2, .int .i64 0, .string ⟨#[]⟩] 73)) (Nat.le_refl _) (.int .i64 0) (.int .i64 0) (.string ⟨#[]⟩)
      generalize World.setCell (World.setCell (World.setCell _ _ _) _ _) _ _ = W3 at hz hbz ⊢
      have hz0 : W3.cell? ⟨w.heap.size, 0, none⟩ = some (.int .i64 0) := zad hz 0
      have hz1 : W3.cell? ⟨w.heap.size, 1, none⟩ = some (.int .i64 0) := zad hz 1
      have hz2 : W3.cell? ⟨w.heap.size, 2, none⟩ = some (.string ⟨#[]⟩) := zad hz 2
      exact bodyPost_ret (v := .tuple #[.agg #[.int .i64 0, .int .i64 0, .string ⟨#[]⟩], .int .i64 0, .bool false]) (by simp [results, Try.results73, go_sem, hz0, hz1, hz2]) rfl ⟨rfl, hbz⟩
    ·have hq2 := getV_rest hg hk3 hk4 hnb
     rw [hq] at hq2
     clear hq
     have hqb : -9223372036854775808 ≤ IntKind.wrap .i64 (n : Int) ∧ IntKind.wrap .i64 (n : Int) ≤ 9223372036854775807 := by rw [wrap_i64]; unfold wrap64; omega
     obtain ⟨q, hwn⟩ : ∃ q, IntKind.wrap .i64 (n : Int) = q := ⟨_, rfl⟩
     rw [hwn] at hq2 hqb
     have HQB := Aside0.mk hqb
     have e0 : (k == 0) = false := by simpa using hk3
     have e2 : (k == 2) = false := by simpa using hk4
     clear hqb hg hi0 hsz0 hk3 hk4
     cases hm : mayV ⟨k, q, ⟨#[]⟩⟩ with
     | false =>
      rw [hm] at hq2
      obtain ⟨rfl, rfl, rfl⟩ : x = ⟨0, 0, ⟨#[]⟩⟩ ∧ m = 0 ∧ b = false := by
       have h : (x, m, b) = ((⟨0, 0, ⟨#[]⟩⟩ : SValue), 0, false) := hq2
       simp only [Prod.mk.injEq] at h
       exact h
      have HM := Aside0.mk hm
      clear hm hq2
      go_enter Try.func73, Try.ntmps73
      go_wp2_with (first
       | (go_at_call 42; refine (le_Get.yes A1 _ r _ HG.out HBR.out (by omega) (Kd.C_below HD1.out (zaa (zaa (Below.refl _ _) _) _)) HL1.out).mono ?_; rintro e w1 ⟨rfl, hb1⟩; have HB1 := Aside0.mk (zah (zaa (zaa (Below.refl _ _) _) _) hb1); have HKr1 := Aside0.mk (zak (zag (zaw w (.cells #[.int .i64 0, .int .i64 0, .string ⟨#[]⟩] 73)) (.cells #[.int .i64 0, .int .i64 0, .string ⟨#[]⟩] 73)) hb1); obtain ⟨kr1, kr2, kr3, kr4⟩ := know HKr1.out; have HKn1 := Aside0.mk (zak (zbh w (.cells #[.int .i64 0, .int .i64 0, .string ⟨#[]⟩] 73) (.cells #[.int .i64 0, .int .i64 0, .string ⟨#[]⟩] 73)) hb1); obtain ⟨kn1, kn2, kn3, kn4⟩ := know HKn1.out; have hx1 := zaH HB1.out HX.out; clear hb1)
       | (go_at_call 66; refine (zbz ⟨k, q, ⟨#[]⟩⟩ _ HQB.out HM.out).mono ?_; rintro e w3 ⟨rfl, hb3⟩; have HB3 := Aside0.mk (zah (zaa HB1.out _) hb3); have HKr3 := Aside0.mk (zak (zag HKr1.out _) hb3); have HKv3 := Aside0.mk (zak (zaw w1 (.cells #[.int .i64 k, .int .i64 q, .string ⟨#[]⟩] 73)) hb3); have hcr3 := za8 HKr3.out; have hfr3 := frozen_of HKr3.out; have hcv3 := za8 HKv3.out; have HKn3 := Aside0.mk (zak (zag HKn1.out _) hb3); have hcn3 := za8 HKn3.out; clear hb3))
      have hz := zbB HKr3.out (.int .i64 0) (.int .i64 0) (.string ⟨#[]⟩)
      have hbz := below_put3 HB3.out (Nat.le_refl _) (.int .i64 0) (.int .i64 0) (.string ⟨#[]⟩)
      generalize World.setCell (World.setCell (World.setCell _ _ _) _ _) _ _ = W3 at hz hbz ⊢
      have hz0 : W3.cell? ⟨w.heap.size, 0, none⟩ = some (.int .i64 0) := zad hz 0
      have hz1 : W3.cell? ⟨w.heap.size, 1, none⟩ = some (.int .i64 0) := zad hz 1
      have hz2 : W3.cell? ⟨w.heap.size, 2, none⟩ = some (.string ⟨#[]⟩) := zad hz 2
      exact bodyPost_ret (v := .tuple #[.agg #[.int .i64 0, .int .i64 0, .string ⟨#[]⟩], .int .i64 0, .bool false]) (by simp [results, Try.results73, go_sem, hz0, hz1, hz2]) rfl ⟨rfl, hbz⟩
     | true =>
      rw [hm] at hq2
      obtain ⟨rfl, rfl, rfl⟩ : x = ⟨k, q, ⟨#[]⟩⟩ ∧ m = u + 1 ∧ b = true := by
       have h : (x, m, b) = ((⟨k, q, ⟨#[]⟩⟩ : SValue), u + 1, true) := hq2
       simp only [Prod.mk.injEq] at h
       exact h
      have HM := Aside0.mk hm
      clear hm hq2
      go_enter Try.func73, Try.ntmps73
      go_wp2_with (first
       | (go_at_call 42; refine (le_Get.yes A1 _ r _ HG.out HBR.out (by omega) (Kd.C_below HD1.out (zaa (zaa (Below.refl _ _) _) _)) HL1.out).mono ?_; rintro e w1 ⟨rfl, hb1⟩; have HB1 := Aside0.mk (zah (zaa (zaa (Below.refl _ _) _) _) hb1); have HKr1 := Aside0.mk (zak (zag (zaw w (.cells #[.int .i64 0, .int .i64 0, .string ⟨#[]⟩] 73)) (.cells #[.int .i64 0, .int .i64 0, .string ⟨#[]⟩] 73)) hb1); obtain ⟨kr1, kr2, kr3, kr4⟩ := know HKr1.out; have HKn1 := Aside0.mk (zak (zbh w (.cells #[.int .i64 0, .int .i64 0, .string ⟨#[]⟩] 73) (.cells #[.int .i64 0, .int .i64 0, .string ⟨#[]⟩] 73)) hb1); obtain ⟨kn1, kn2, kn3, kn4⟩ := know HKn1.out; have hx1 := zaH HB1.out HX.out; clear hb1)
       | (go_at_call 66; refine (zbz ⟨k, q, ⟨#[]⟩⟩ _ HQB.out HM.out).mono ?_; rintro e w3 ⟨rfl, hb3⟩; have HB3 := Aside0.mk (zah (zaa HB1.out _) hb3); have HKr3 := Aside0.mk (zak (zag HKr1.out _) hb3); have HKv3 := Aside0.mk (zak (zaw w1 (.cells #[.int .i64 k, .int .i64 q, .string ⟨#[]⟩] 73)) hb3); have hcr3 := za8 HKr3.out; have hfr3 := frozen_of HKr3.out; have hcv3 := za8 HKv3.out; have HKn3 := Aside0.mk (zak (zag HKn1.out _) hb3); have hcn3 := za8 HKn3.out; clear hb3))
      have hz := zbB HKr3.out (.int .i64 k) (.int .i64 q) (.string ⟨#[]⟩)
      have hbz := below_put3 HB3.out (Nat.le_refl _) (.int .i64 k) (.int .i64 q) (.string ⟨#[]⟩)
      generalize World.setCell (World.setCell (World.setCell _ _ _) _ _) _ _ = W3 at hz hbz ⊢
      have hz0 : W3.cell? ⟨w.heap.size, 0, none⟩ = some (.int .i64 k) := zad hz 0
      have hz1 : W3.cell? ⟨w.heap.size, 1, none⟩ = some (.int .i64 q) := zad hz 1
      have hz2 : W3.cell? ⟨w.heap.size, 2, none⟩ = some (.string ⟨#[]⟩) := zad hz 2
      exact bodyPost_ret (v := .tuple #[.agg #[.int .i64 k, .int .i64 q, .string ⟨#[]⟩], .int .i64 ((u + 1 : Nat) : Int), .bool true]) (by simp [results, Try.results73, go_sem, hz0, hz1, hz2]) rfl ⟨rfl, hbz⟩
def cellsP (x : SOp) : Array Value := #[.int .i64 x.f0, .int .i64 x.f1, .int .i64 x.f2.f0, .int .i64 x.f2.f1, .string x.f2.f2]
def partBPost (r : Option (SOp × Nat)) (w : World) (e : Ending) (w' : World) : Prop := (match r with
 | some (x, n) => e = .returned (.tuple #[.agg (cellsP x), .int .i64 (n : Int), .bool true])
 | none => ∃ (x : SOp) (n : Int), e = .returned (.tuple #[.agg (cellsP x), .int .i64 n, .bool false])) ∧ Below w.heap.size w w'
theorem blk_put5 {W : World} {g : Nat} {t : TypeId} {a b c d e : Value} (h : W.heap[g]? = some (.cells #[a, b, c, d, e] t (0, 0))) (x y z u v : Value) : (((((W.setCell ⟨g, 0, none⟩ x).setCell ⟨g, 1, none⟩ y).setCell ⟨g, 2, none⟩ z).setCell ⟨g, 3, none⟩ u).setCell ⟨g, 4, none⟩ v).heap[g]? = some (.cells #[x, y, z, u, v] t (0, 0)) :=
 zas (zas (zas (zas (zas h 0 x rfl) 1 y rfl) 2 z rfl) 3 u rfl) 4 v rfl
theorem below_put5 {B : Nat} {w W : World} {g : Nat} (h : Below B w W) (hg : B ≤ g) (x y z u v : Value) : Below B w (((((W.setCell ⟨g, 0, none⟩ x).setCell ⟨g, 1, none⟩ y).setCell ⟨g, 2, none⟩ z).setCell ⟨g, 3, none⟩ u).setCell ⟨g, 4, none⟩ v) :=
 ((((h.setCell (p := ⟨g, 0, none⟩) hg x).setCell (p := ⟨g, 1, none⟩) hg y).setCell (p := ⟨g, 2, none⟩) hg z).setCell (p := ⟨g, 3, none⟩) hg u).setCell (p := ⟨g, 4, none⟩) hg v
set_option maxHeartbeats 1000000 in
set_option maxRecDepth 100000 in
theorem partb_nil (A : Option Addr) (c : Nat) (w : World) : Calls Try.prog 70 #[.slice A 0 c] w (partBPost none w) := by
 go_enter Try.func70, Try.ntmps70
 go_wp2_with fail
 exact bodyPost_ret (v := .tuple #[.agg #[.int .i64 0, .int .i64 0, .int .i64 0, .int .i64 0, .string ⟨#[]⟩], .int .i64 0, .bool false]) (by simp [results, Try.results70, go_sem]) rfl ⟨⟨⟨0, 0, ⟨0, 0, ⟨#[]⟩⟩⟩, 0, rfl⟩, zaa (Below.refl _ _) _⟩
set_option maxHeartbeats 1000000 in
set_option maxRecDepth 100000 in
theorem partb_code (k : Int) (r : List Int) (A : Option Addr) (c : Nat) (w : World) (hr : Kd.C (Kd.int .u8) w A (r.length + 1) (k :: r)) (hc : r.length + 1 ≤ c) (hb : za5 (k :: r)) (hl : (k :: r).length < 4611686018427387904) (h0 : ¬ k = 0) (h1 : ¬ k = 1) : Calls Try.prog 70 #[.slice A (r.length + 1) c] w (partBPost (some (⟨k, 0, zeroV⟩, 1)) w) := by
 obtain ⟨ad, e, z0⟩ := Kd.at_int hr 0 (by decide) (by omega)
 subst e
 have z1 : w.cell? ad = some (.int .u8 k) := by have h := z0; rw [show (0 : Int).toNat = 0 from rfl, zbd] at h; exact h
 have z2 : w.cell? (ad.add 0) = some (.int .u8 k) := z0
 have z3 : ∀ o, (w.alloc o).cell? ad = some (.int .u8 k) := fun o => zax o z1
 have z4 : ∀ o, (w.alloc o).cell? (ad.add 0) = some (.int .u8 k) := fun o => zax o z2
 obtain ⟨hk0, hk1⟩ := hb k (by simp)
 have hwk : IntKind.i64.wrap k = k := IntWalk.i64_in _ (by omega)
 have hlen : (((r.length + 1 : Nat) : Int) == 0) = false := beq_eq_false_iff_ne.2 (by omega)
 have hlen2 : ((r.length : Int) + 1 == 0) = false := beq_eq_false_iff_ne.2 (by omega)
 have hlen3 : ¬ (r.length : Int) + 1 = 0 := by omega
 have h0b : (k == 0) = false := beq_eq_false_iff_ne.2 h0
 have h1b : (k == 1) = false := beq_eq_false_iff_ne.2 h1
 clear z0 hr hc hb hl h0 h1
 go_enter Try.func70, Try.ntmps70
 go_wp2_with fail
 exact bodyPost_ret (v := .tuple #[.agg #[.int .i64 k, .int .i64 0, .int .i64 0, .int .i64 0, .string ⟨#[]⟩], .int .i64 1, .bool true]) (by simp [results, Try.results70, go_sem]) rfl ⟨rfl, zaa (zaa (Below.refl _ _) _) _⟩
set_option maxHeartbeats 1000000 in
set_option maxRecDepth 100000 in
theorem partb_short (k : Int) (r : List Int) (A : Option Addr) (c : Nat) (w : World) (hr : Kd.C (Kd.int .u8) w A (r.length + 1) (k :: r)) (hc : r.length + 1 ≤ c) (hb : za5 (k :: r)) (hl : (k :: r).length < 4611686018427387904) (h1 : k = 1) (h2 : r = []) : Calls Try.prog 70 #[.slice A (r.length + 1) c] w (partBPost none w) := by
 obtain ⟨ad, e, z0⟩ := Kd.at_int hr 0 (by decide) (by omega)
 subst e
 have z1 : w.cell? ad = some (.int .u8 k) := by have h := z0; rw [show (0 : Int).toNat = 0 from rfl, zbd] at h; exact h
 have z2 : w.cell? (ad.add 0) = some (.int .u8 k) := z0
 have z3 : ∀ o, (w.alloc o).cell? ad = some (.int .u8 k) := fun o => zax o z1
 have z4 : ∀ o, (w.alloc o).cell? (ad.add 0) = some (.int .u8 k) := fun o => zax o z2
 obtain ⟨hk0, hk1⟩ := hb k (by simp)
 have hwk : IntKind.i64.wrap k = k := IntWalk.i64_in _ (by omega)
 have hlen : (((r.length + 1 : Nat) : Int) == 0) = false := beq_eq_false_iff_ne.2 (by omega)
 have hlen2 : ((r.length : Int) + 1 == 0) = false := beq_eq_false_iff_ne.2 (by omega)
 have hlen3 : ¬ (r.length : Int) + 1 = 0 := by omega
 subst h1 h2
 clear z0 hr hc hb hl hlen hlen2 hlen3
 go_enter Try.func70, Try.ntmps70
 go_wp2_with fail
 exact bodyPost_ret (v := .tuple #[.agg #[.int .i64 1, .int .i64 0, .int .i64 0, .int .i64 0, .string ⟨#[]⟩], .int .i64 0, .bool false]) (by simp [results, Try.results70, go_sem]) rfl ⟨⟨⟨1, 0, ⟨0, 0, ⟨#[]⟩⟩⟩, 0, rfl⟩, zaa (zaa (Below.refl _ _) _) _⟩
set_option maxHeartbeats 1000000 in
set_option maxRecDepth 100000 in
theorem partb_load (a : Int) (r : List Int) (A : Option Addr) (c : Nat) (w : World) (hr : Kd.C (Kd.int .u8) w A (r.length + 1 + 1) (1 :: a :: r)) (hc : r.length + 1 + 1 ≤ c) (hb : za5 (1 :: a :: r)) (hl : (1 :: a :: r).length < 4611686018427387904) : Calls Try.prog 70 #[.slice A (r.length + 1 + 1) c] w (partBPost (some (⟨1, a, zeroV⟩, 2)) w) := by
 obtain ⟨ad, e, z0⟩ := Kd.at_int hr 0 (by decide) (by omega)
 subst e
 have z1 : w.cell? ad = some (.int .u8 1) := by have h := z0; rw [show (0 : Int).toNat = 0 from rfl, zbd] at h; exact h
 have z2 : w.cell? (ad.add 0) = some (.int .u8 1) := z0
 have z3 : ∀ o, (w.alloc o).cell? ad = some (.int .u8 1) := fun o => zax o z1
 have z4 : ∀ o, (w.alloc o).cell? (ad.add 0) = some (.int .u8 1) := fun o => zax o z2
 obtain ⟨hk0, hk1⟩ := hb a (by simp)
 have hwk : IntKind.i64.wrap a = a := IntWalk.i64_in _ (by omega)
 have hlen : (((r.length + 1 + 1 : Nat) : Int) == 0) = false := beq_eq_false_iff_ne.2 (by omega)
 have hlen2 : ((r.length : Int) + 1 + 1 == 0) = false := beq_eq_false_iff_ne.2 (by omega)
 have hlen3 : ¬ (r.length : Int) + 1 + 1 = 0 := by omega
 obtain ⟨ad2, e2, y0⟩ := Kd.at_int hr 1 (by decide) (by omega)
 cases e2
 have y1 : w.cell? ⟨ad.block, ad.off + 1, none⟩ = some (.int .u8 a) := by have h := y0; rw [show (1 : Int).toNat = 1 from rfl, zaA _ _ 1 (by omega)] at h; exact h
 have y2 : w.cell? (ad.add 1) = some (.int .u8 a) := y0
 have y3 : ∀ o o2, ((w.alloc o).alloc o2).cell? ⟨ad.block, ad.off + 1, none⟩ = some (.int .u8 a) := fun o o2 => zax o2 (zax o y1)
 have y4 : ∀ o o2, ((w.alloc o).alloc o2).cell? (ad.add 1) = some (.int .u8 a) := fun o o2 => zax o2 (zax o y2)
 have hw1 : IntKind.i64.wrap 1 = 1 := by decide
 have hge : ¬ (r.length : Int) + 1 + 1 < 2 := by omega
 have hged : decide ((r.length : Int) + 1 + 1 < 2) = false := decide_eq_false hge
 have hlt1 : (1 : Int) < (r.length : Int) + 1 + 1 := by omega
 clear z0 hr hc hb hl y0
 go_enter Try.func70, Try.ntmps70
 go_wp2_with fail
 exact bodyPost_ret (v := .tuple #[.agg #[.int .i64 1, .int .i64 a, .int .i64 0, .int .i64 0, .string ⟨#[]⟩], .int .i64 2, .bool true]) (by simp [results, Try.results70, go_sem]) rfl ⟨rfl, zaa (zaa (Below.refl _ _) _) _⟩
set_option maxHeartbeats 1000000 in
set_option maxRecDepth 100000 in
theorem partb_push {x : SValue} {m : Nat} (r : List Int) (A : Option Addr) (c : Nat) (w : World) (hr : Kd.C (Kd.int .u8) w A (r.length + 1) (0 :: r)) (hc : r.length + 1 ≤ c) (hb : za5 (0 :: r)) (hl : (0 :: r).length < 4611686018427387904) (hg : gotV (getV r) = (x, m, true)) : Calls Try.prog 70 #[.slice A (r.length + 1) c] w (partBPost (some (⟨0, 0, x⟩, m + 1)) w) := by
 obtain ⟨ad, e, z0⟩ := Kd.at_int hr 0 (by decide) (by omega)
 subst e
 have z1 : w.cell? ad = some (.int .u8 0) := by have h := z0; rw [show (0 : Int).toNat = 0 from rfl, zbd] at h; exact h
 have z2 : w.cell? (ad.add 0) = some (.int .u8 0) := z0
 have z3 : ∀ o, (w.alloc o).cell? ad = some (.int .u8 0) := fun o => zax o z1
 have z4 : ∀ o, (w.alloc o).cell? (ad.add 0) = some (.int .u8 0) := fun o => zax o z2
 obtain ⟨hk0, hk1⟩ := hb 0 (by simp)
 have hwk : IntKind.i64.wrap 0 = 0 := IntWalk.i64_in _ (by omega)
 have hlen : (((r.length + 1 : Nat) : Int) == 0) = false := beq_eq_false_iff_ne.2 (by omega)
 have hlen2 : ((r.length : Int) + 1 == 0) = false := beq_eq_false_iff_ne.2 (by omega)
 have hlen3 : ¬ (r.length : Int) + 1 = 0 := by omega
 obtain ⟨i0, hi0, _, hsz0, _⟩ := info_parts info5
 obtain ⟨A', hcut, hC', hlc⟩ := drop_row (P := Try.prog) (d := Kd.int .u8) Try.underlying25 hi0 hsz0 (some ad) c (0 :: r) 1 1 rfl (by simp) (by simpa using hc)
 have HROW := Aside0.mk (hC' w hr)
 have HLC := Aside0.mk hlc
 have hcut2 : ∀ W : World, (Instr.slice 25 (.slice (some ad) (r.length + 1) c) (some (.int .i64 1)) none none).run Try.prog W = .ok (.slice A' r.length (c - 1)) W := hcut
 have HBY := Aside0.mk (show za5 r from fun z hz => hb z (by simp [hz]))
 have hlr : r.length < 4611686018427387904 := by simp only [List.length_cons] at hl; omega
 have hm := gotV_len hg
 have hwm : IntKind.i64.wrap ((m : Int) + 1) = ((m + 1 : Nat) : Int) := by rw [IntWalk.i64_in _ (by omega)]; rfl
 have HG := Aside0.mk hg
 clear z0 hr hc hb hl hC' hi0 hsz0 hcut hlc hg
 go_enter Try.func70, Try.ntmps70
 go_wp2_with fail
 go_at_call 73
 refine (value_Get.told _ A' (c - 1) r (Kd.C_below HROW.out (zaa (zaa (Below.refl _ _) _) _)) HLC.out HBY.out hlr HG.out).mono ?_
 rintro e w1 ⟨rfl, hb1⟩
 have HB1 := Aside0.mk (zah (zaa (zaa (Below.refl _ _) _) _) hb1)
 have HT := Aside0.mk (zag (zak (zag (zaw w (.cells #[.int .i64 0, .int .i64 0, .int .i64 0, .int .i64 0, .string ⟨#[]⟩] 75)) (.cells #[.int .i64 0, .int .i64 0, .int .i64 0, .int .i64 0, .string ⟨#[]⟩] 75)) hb1) (.cells #[.int .i64 x.f0, .int .i64 x.f1, .string x.f2] 73))
 have HX := Aside0.mk (zag (zak (zbh w (.cells #[.int .i64 0, .int .i64 0, .int .i64 0, .int .i64 0, .string ⟨#[]⟩] 75) (.cells #[.int .i64 0, .int .i64 0, .int .i64 0, .int .i64 0, .string ⟨#[]⟩] 75)) hb1) (.cells #[.int .i64 x.f0, .int .i64 x.f1, .string x.f2] 73))
 have HBV := Aside0.mk (zaa HB1.out (.cells #[.int .i64 x.f0, .int .i64 x.f1, .string x.f2] 73))
 clear hb1
 go_upto_region 7 with fail
 go_cut [] (fun wx => wx.heap[w.heap.size]? = some (.cells #[.int .i64 0, .int .i64 0, .int .i64 0, .int .i64 0, .string ⟨#[]⟩] 75) ∧ wx.heap[w.heap.size + 1]? = some (.cells #[.int .i64 0, .int .i64 0, .int .i64 x.f0, .int .i64 x.f1, .string x.f2] 75) ∧ Below w.heap.size w wx)
 case first =>
  obtain ⟨k1, _, k3, _⟩ := know HX.out
  go_wp2_with fail
  go_meet
  exact ⟨zaM (zaM (zaM HT.out (p := ⟨w.heap.size + 1, 2, none⟩) (show w.heap.size ≠ w.heap.size + 1 by omega) (.int .i64 x.f0)) (p := ⟨w.heap.size + 1, 3, none⟩) (show w.heap.size ≠ w.heap.size + 1 by omega) (.int .i64 x.f1)) (p := ⟨w.heap.size + 1, 4, none⟩) (show w.heap.size ≠ w.heap.size + 1 by omega) (.string x.f2), zas (zas (zas HX.out 2 (.int .i64 x.f0) rfl) 3 (.int .i64 x.f1) rfl) 4 (.string x.f2) rfl, Below.setCell (p := ⟨w.heap.size + 1, 4, none⟩) (Below.setCell (p := ⟨w.heap.size + 1, 3, none⟩) (Below.setCell (p := ⟨w.heap.size + 1, 2, none⟩) HBV.out (Nat.le_succ _) _) (Nat.le_succ _) _) (Nat.le_succ _) _⟩
 case rest =>
 obtain ⟨hkt, hkx, hbw⟩ := hcut
 obtain ⟨w9, rfl⟩ : ∃ w9, w9 = wc := ⟨_, rfl⟩
 have HKT := Aside0.mk hkt
 have HBW := Aside0.mk hbw
 obtain ⟨j1, _, j3, _⟩ := know hkx
 obtain ⟨i1, _, i3, _⟩ := know hkt
 clear hkt hkx hbw
 have hfz := blk_put5 (HKT.out) (.int .i64 0) (.int .i64 0) (.int .i64 x.f0) (.int .i64 x.f1) (.string x.f2)
 have hz0 := zad hfz 0
 have hz1 := zad hfz 1
 have hz2 := zad hfz 2
 have hz3 := zad hfz 3
 have hz4 := zad hfz 4
 go_wp2_with fail
 exact bodyPost_ret (v := .tuple #[.agg #[.int .i64 0, .int .i64 0, .int .i64 x.f0, .int .i64 x.f1, .string x.f2], .int .i64 ((m + 1 : Nat) : Int), .bool true]) (by simp [results, Try.results70, go_sem, hz0, hz1, hz2, hz3, hz4]) rfl ⟨rfl, below_put5 (HBW.out) (Nat.le_refl _) _ _ _ _ _⟩
set_option maxHeartbeats 1000000 in
set_option maxRecDepth 100000 in
theorem partb_bad {x : SValue} {m : Nat} (r : List Int) (A : Option Addr) (c : Nat) (w : World) (hr : Kd.C (Kd.int .u8) w A (r.length + 1) (0 :: r)) (hc : r.length + 1 ≤ c) (hb : za5 (0 :: r)) (hl : (0 :: r).length < 4611686018427387904) (hg : gotV (getV r) = (x, m, false)) : Calls Try.prog 70 #[.slice A (r.length + 1) c] w (partBPost none w) := by
 obtain ⟨ad, e, z0⟩ := Kd.at_int hr 0 (by decide) (by omega)
 subst e
 have z1 : w.cell? ad = some (.int .u8 0) := by have h := z0; rw [show (0 : Int).toNat = 0 from rfl, zbd] at h; exact h
 have z2 : w.cell? (ad.add 0) = some (.int .u8 0) := z0
 have z3 : ∀ o, (w.alloc o).cell? ad = some (.int .u8 0) := fun o => zax o z1
 have z4 : ∀ o, (w.alloc o).cell? (ad.add 0) = some (.int .u8 0) := fun o => zax o z2
 obtain ⟨hk0, hk1⟩ := hb 0 (by simp)
 have hwk : IntKind.i64.wrap 0 = 0 := IntWalk.i64_in _ (by omega)
 have hlen : (((r.length + 1 : Nat) : Int) == 0) = false := beq_eq_false_iff_ne.2 (by omega)
 have hlen2 : ((r.length : Int) + 1 == 0) = false := beq_eq_false_iff_ne.2 (by omega)
 have hlen3 : ¬ (r.length : Int) + 1 = 0 := by omega
 obtain ⟨i0, hi0, _, hsz0, _⟩ := info_parts info5
 obtain ⟨A', hcut, hC', hlc⟩ := drop_row (P := Try.prog) (d := Kd.int .u8) Try.underlying25 hi0 hsz0 (some ad) c (0 :: r) 1 1 rfl (by simp) (by simpa using hc)
 have HROW := Aside0.mk (hC' w hr)
 have HLC := Aside0.mk hlc
 have hcut2 : ∀ W : World, (Instr.slice 25 (.slice (some ad) (r.length + 1) c) (some (.int .i64 1)) none none).run Try.prog W = .ok (.slice A' r.length (c - 1)) W := hcut
 have HBY := Aside0.mk (show za5 r from fun z hz => hb z (by simp [hz]))
 have hlr : r.length < 4611686018427387904 := by simp only [List.length_cons] at hl; omega
 have hm := gotV_len hg
 have hwm : IntKind.i64.wrap ((m : Int) + 1) = ((m + 1 : Nat) : Int) := by rw [IntWalk.i64_in _ (by omega)]; rfl
 have HG := Aside0.mk hg
 clear z0 hr hc hb hl hC' hi0 hsz0 hcut hlc hg
 go_enter Try.func70, Try.ntmps70
 go_wp2_with fail
 go_at_call 73
 refine (value_Get.told _ A' (c - 1) r (Kd.C_below HROW.out (zaa (zaa (Below.refl _ _) _) _)) HLC.out HBY.out hlr HG.out).mono ?_
 rintro e w1 ⟨rfl, hb1⟩
 have HB1 := Aside0.mk (zah (zaa (zaa (Below.refl _ _) _) _) hb1)
 have HT := Aside0.mk (zag (zak (zag (zaw w (.cells #[.int .i64 0, .int .i64 0, .int .i64 0, .int .i64 0, .string ⟨#[]⟩] 75)) (.cells #[.int .i64 0, .int .i64 0, .int .i64 0, .int .i64 0, .string ⟨#[]⟩] 75)) hb1) (.cells #[.int .i64 x.f0, .int .i64 x.f1, .string x.f2] 73))
 have HX := Aside0.mk (zag (zak (zbh w (.cells #[.int .i64 0, .int .i64 0, .int .i64 0, .int .i64 0, .string ⟨#[]⟩] 75) (.cells #[.int .i64 0, .int .i64 0, .int .i64 0, .int .i64 0, .string ⟨#[]⟩] 75)) hb1) (.cells #[.int .i64 x.f0, .int .i64 x.f1, .string x.f2] 73))
 have HBV := Aside0.mk (zaa HB1.out (.cells #[.int .i64 x.f0, .int .i64 x.f1, .string x.f2] 73))
 clear hb1
 go_upto_region 7 with fail
 go_cut [] (fun wx => wx.heap[w.heap.size]? = some (.cells #[.int .i64 0, .int .i64 0, .int .i64 0, .int .i64 0, .string ⟨#[]⟩] 75) ∧ wx.heap[w.heap.size + 1]? = some (.cells #[.int .i64 0, .int .i64 0, .int .i64 x.f0, .int .i64 x.f1, .string x.f2] 75) ∧ Below w.heap.size w wx)
 case first =>
  obtain ⟨k1, _, k3, _⟩ := know HX.out
  go_wp2_with fail
  go_meet
  exact ⟨zaM (zaM (zaM HT.out (p := ⟨w.heap.size + 1, 2, none⟩) (show w.heap.size ≠ w.heap.size + 1 by omega) (.int .i64 x.f0)) (p := ⟨w.heap.size + 1, 3, none⟩) (show w.heap.size ≠ w.heap.size + 1 by omega) (.int .i64 x.f1)) (p := ⟨w.heap.size + 1, 4, none⟩) (show w.heap.size ≠ w.heap.size + 1 by omega) (.string x.f2), zas (zas (zas HX.out 2 (.int .i64 x.f0) rfl) 3 (.int .i64 x.f1) rfl) 4 (.string x.f2) rfl, Below.setCell (p := ⟨w.heap.size + 1, 4, none⟩) (Below.setCell (p := ⟨w.heap.size + 1, 3, none⟩) (Below.setCell (p := ⟨w.heap.size + 1, 2, none⟩) HBV.out (Nat.le_succ _) _) (Nat.le_succ _) _) (Nat.le_succ _) _⟩
 case rest =>
 obtain ⟨hkt, hkx, hbw⟩ := hcut
 obtain ⟨w9, rfl⟩ : ∃ w9, w9 = wc := ⟨_, rfl⟩
 have HKT := Aside0.mk hkt
 have HBW := Aside0.mk hbw
 obtain ⟨j1, _, j3, _⟩ := know hkx
 obtain ⟨i1, _, i3, _⟩ := know hkt
 clear hkt hkx hbw
 have hfz := blk_put5 (HKT.out) (.int .i64 0) (.int .i64 0) (.int .i64 x.f0) (.int .i64 x.f1) (.string x.f2)
 have hz0 := zad hfz 0
 have hz1 := zad hfz 1
 have hz2 := zad hfz 2
 have hz3 := zad hfz 3
 have hz4 := zad hfz 4
 go_wp2_with fail
 exact bodyPost_ret (v := .tuple #[.agg #[.int .i64 0, .int .i64 0, .int .i64 x.f0, .int .i64 x.f1, .string x.f2], .int .i64 ((m + 1 : Nat) : Int), .bool false]) (by simp [results, Try.results70, go_sem, hz0, hz1, hz2, hz3, hz4]) rfl ⟨⟨⟨0, 0, x⟩, _, rfl⟩, below_put5 (HBW.out) (Nat.le_refl _) _ _ _ _ _⟩
theorem partb_told (l : List Int) (A : Option Addr) (c : Nat) (w : World) (hr : Kd.C (Kd.int .u8) w A l.length l) (hc : l.length ≤ c) (hb : za5 l) (hl : l.length < 4611686018427387904) {r : Option (SOp × Nat)} (hq : getP l = r) : Calls Try.prog 70 #[.slice A l.length c] w (partBPost r w) := by
 cases l with
 | nil =>
  subst hq
  exact partb_nil A c w
 | cons k r' =>
  simp only [getP] at hq
  by_cases h0 : k = 0
  ·subst h0
   rw [if_pos rfl] at hq
   obtain ⟨⟨x, m, b⟩, hg⟩ : ∃ q, gotV (getV r') = q := ⟨_, rfl⟩
   cases hv : getV r' with
   | none =>
    rw [hv] at hq hg
    subst hq
    simp only [gotV, Prod.mk.injEq] at hg
    obtain ⟨rfl, rfl, rfl⟩ := hg
    exact partb_bad r' A c w hr hc hb hl (by rw [hv]; rfl)
   | some p =>
    obtain ⟨y, j⟩ := p
    rw [hv] at hq hg
    subst hq
    simp only [gotV, Prod.mk.injEq] at hg
    obtain ⟨rfl, rfl, rfl⟩ := hg
    exact partb_push r' A c w hr hc hb hl (by rw [hv]; rfl)
  ·rw [if_neg h0] at hq
   by_cases h1 : k = 1
   ·rw [if_pos h1] at hq
    subst h1
    cases r' with
    | nil => subst hq; exact partb_short 1 [] A c w hr hc hb hl rfl rfl
    | cons a r'' => subst hq; exact partb_load a r'' A c w hr hc hb hl
   ·rw [if_neg h1] at hq
    subst hq
    exact partb_code k r' A c w hr hc hb hl h0 h1
def getORel (l : List Int) (n : Nat) (w : World) (k : Nat) (at_ v8 : Value) (w' : World) : Prop := ∃ (a : Nat) (fs : List SOp), at_ = .int .i64 (a : Int) ∧ k ≤ n ∧ a ≤ l.length ∧ fs.length = k ∧ (∀ x ∈ fs, i64V x.f2) ∧ getO l = contO l (n - k) a fs ∧ Kd.R kOp 75 w' w.heap.size (fun _ => True) v8 fs ∧ Below w.heap.size w w'
def opsPostR (x : List SOp) (n : Nat) (b : Bool) (w : World) (e : Ending) (w' : World) : Prop := ∃ v, e = .returned (.tuple #[v, .int .i64 (n : Int), .bool b]) ∧ Kd.R kOp 75 w' w.heap.size (fun _ => True) v x ∧ Below w.heap.size w w'
theorem none_opsR {w : World} {e : Ending} {w' : World} (he : e = .returned (.tuple #[.slice none 0 0, .int .i64 0, .bool false])) (hb : Below w.heap.size w w') : opsPostR [] 0 false w e w' := ⟨_, he, Kd.R_nil _ _ _ _ _, hb⟩
set_option maxHeartbeats 1000000 in
set_option maxRecDepth 100000 in
theorem getO_no1 (w : World) (A : Option Addr) (c : Nat) (l : List Int) (hr : Kd.C (Kd.int .u8) w A l.length l) (hc : l.length ≤ c) (hb : za5 l) (hl : l.length < 4611686018427387904) (hg : getN l = none) : Calls Try.prog 60 #[.slice A l.length c] w (opsPostR [] 0 false w) := by
 go_enter Try.func60, Try.ntmps60
 go_wp2_with fail
 go_at_call 42
 refine (le_Get.no A c l _ hg hb hl hr hc).mono ?_
 rintro e w1 ⟨rfl, hb1⟩
 go_wp2_with fail
 go_ret3
 exact none_opsR rfl hb1
end Go.Proofs.Ytooemobolfoefaa.P



namespace Go.Proofs.Ytooemobolfoefaa.P
open Go.RowKit Go.Proofs.YtooemobolfoefaaW.PrintWords Go.Proofs.YtooemobolfoefaaW.PrintLast Go.Proofs.YtooemobolfoefaaW.PrintMore
attribute [local go_sem] za1 zaZ zbb zba zaU zaT za0 zaY   -- for this text's walks alone
set_option linter.unusedVariables false
set_option linter.unusedSimpArgs false
set_option maxHeartbeats 1000000 in
set_option maxRecDepth 100000 in
theorem getO_no2 (w : World) (A : Option Addr) (c : Nat) (l : List Int) (hr : Kd.C (Kd.int .u8) w A l.length l) (hc : l.length ≤ c) (hb : za5 l) (hl : l.length < 4611686018427387904) {n u : Nat} (hg : getN l = some (n, u)) (hn : ¬ n ≤ 12) : Calls Try.prog 60 #[.slice A l.length c] w (opsPostR [] 0 false w) := by
 have hgt : (n : Int) > 12 := by omega
 have hgt2 : (12 : Int) < (n : Int) := by omega
 have hd : decide ((12 : Int) < (n : Int)) = true := decide_eq_true hgt2
 go_enter Try.func60, Try.ntmps60
 go_wp2_with fail
 go_at_call 42
 refine (le_Get.yes A c l _ hg hb hl hr hc).mono ?_
 rintro e w1 ⟨rfl, hb1⟩
 go_wp2_with fail
 go_ret3
 exact none_opsR rfl hb1
set_option maxHeartbeats 8000000 in
set_option maxRecDepth 100000 in
theorem getO_go (w : World) (A : Option Addr) (c : Nat) (l : List Int) (hr : Kd.C (Kd.int .u8) w A l.length l) (hc : l.length ≤ c) (hb : za5 l) (hl : l.length < 4611686018427387904) {n u : Nat} (hg : getN l = some (n, u)) (hn : n ≤ 12) {x : List SOp} {m : Nat} {b : Bool} (hq : gotO (getO l) = (x, m, b)) : Calls Try.prog 60 #[.slice A l.length c] w (opsPostR x m b w) := by
 obtain ⟨i0, hi0, _, hsz0, _⟩ := info_parts info5
 have HR := Aside0.mk hr
 have HC := Aside0.mk hc
 have HBY := Aside0.mk hb
 have HG := Aside0.mk hg
 have HQ := Aside0.mk hq
 have hngt : ¬ (12 : Int) < (n : Int) := by omega
 have hd : decide ((12 : Int) < (n : Int)) = false := decide_eq_false hngt
 have hul := (getN_used hg).2.1
 have HST := Aside0.mk (getO_some (show getM l 12 = some (n, u) from by rw [getM_some hg, if_pos hn]))
 clear hr hc hb hg hq
 go_enter Try.func60, Try.ntmps60
 go_wp2_with fail
 go_at_call 42
 refine (le_Get.yes A c l _ HG.out HBY.out hl HR.out HC.out).mono ?_
 rintro e w1 ⟨rfl, hb1⟩
 have HB1 := Aside0.mk hb1
 clear hb1
 go_wp2_with fail
 go_loopw [6, 8, 9, 10, 11, 25] (fun v6 v8 _ _ _ v25 w' => ∃ k : Nat, v25 = .int .u64 (k : Int) ∧ getORel l n w k v6 v8 w') (fun _ _ _ _ _ i _ => n - (intOf i).toNat)
 case atStart => exact ⟨0, rfl, u, [], rfl, Nat.zero_le _, hul, rfl, (fun _ h => by cases h), by rw [Nat.sub_zero]; exact HST.out, Kd.R_nil _ _ _ _ _, HB1.out⟩
 case round =>
  obtain ⟨k, rfl, a, fs, rfl, hk, ha, hfl, hfi, hcont, ho, hbw⟩ := hrel
  have HO := Aside0.mk ho
  have HB := Aside0.mk hbw
  have HFI := Aside0.mk hfi
  have HCT := Aside0.mk hcont
  have HFL := Aside0.mk hfl
  have hfl12 : fs.length ≤ 12 := by omega
  clear ho hbw hfi hcont HB1 hfl
  by_cases hlt : k < n
  ·obtain ⟨A4, hcut4, hD4, hlc4⟩ := drop_row (P := Try.prog) (d := Kd.int .u8) Try.underlying25 hi0 hsz0 A c l a (a : Int) rfl ha HC.out
   have HD4 := Aside0.mk (hD4 w HR.out)
   have HL4 := Aside0.mk hlc4
   have hln4 : a + (l.drop a).length = l.length := by rw [List.length_drop]; omega
   have hstep := contO_step l (n - k - 1) a fs
   rw [show n - k - 1 + 1 = n - k from by omega] at hstep
   have HBD := Aside0.mk (zbv HBY.out a)
   have hld : (l.drop a).length < 4611686018427387904 := by omega
   have hlti : (k : Int) < (n : Int) := by omega
   have hltd : decide ((k : Int) < (n : Int)) = true := decide_eq_true hlti
   clear hD4 hlc4
   cases hg4 : getP (l.drop a) with
   | none =>
    have HN : Aside0 (getO l = none) := ⟨by rw [HCT.out, hstep, hg4]⟩
    have HG4 := Aside0.mk hg4
    have hq2 := HQ.out
    rw [HN.out] at hq2
    simp only [gotO, Prod.mk.injEq] at hq2
    obtain ⟨rfl, rfl, rfl⟩ := hq2
    clear hg4 hstep hi0 hsz0
    generalize l.drop a = ld4 at *
    go_wp2_with fail
    go_at_call 70
    refine (partb_told ld4 A4 _ _ (Kd.C_below HD4.out HB.out) HL4.out HBD.out hld HG4.out).mono ?_
    rintro e w4 ⟨⟨z, zn, rfl⟩, hb4⟩
    unfold cellsP
    go_wp2_with fail
    go_ret3
    exact none_opsR rfl (zaa (zah HB.out hb4) _)
   | some p4 =>
    obtain ⟨z, zn⟩ := p4
    obtain ⟨hz1, hz2, hz3⟩ := getP_used HBD.out hg4
    rw [hg4] at hstep
    simp only at hstep
    have HST4 := Aside0.mk (HCT.out.trans hstep)
    have HG4 := Aside0.mk hg4
    have HZ1 := Aside0.mk hz1
    have hsum : IntKind.i64.wrap ((a : Int) + (zn : Int)) = ((a + zn : Nat) : Int) := by rw [IntWalk.i64_in _ (by omega)]; rfl
    have hwk : IntKind.u64.wrap ((k : Int) + 1) = ((k + 1 : Nat) : Int) := by rw [show (k : Int) + 1 = ((k + 1 : Nat) : Int) from rfl]; exact u64_small' (by omega)
    clear hg4 hstep hi0 hsz0 hz1
    generalize l.drop a = ld4 at *
    go_wp2_with fail
    go_at_call 70
    refine (partb_told ld4 A4 _ _ (Kd.C_below HD4.out HB.out) HL4.out HBD.out hld HG4.out).mono ?_
    rintro e w4 ⟨rfl, hb4⟩
    unfold cellsP
    have HB4 := Aside0.mk (zaa (zah HB.out hb4) (.cells #[.int .i64 z.f0, .int .i64 z.f1, .int .i64 z.f2.f0, .int .i64 z.f2.f1, .string z.f2.f2] 75))
    have HO4 := Aside0.mk (Kd.R_alloc (Kd.R_below HO.out hb4) (.cells #[.int .i64 z.f0, .int .i64 z.f1, .int .i64 z.f2.f0, .int .i64 z.f2.f1, .string z.f2.f2] 75))
    have HS4 := Aside0.mk (World.size_alloc w4 (.cells #[.int .i64 z.f0, .int .i64 z.f1, .int .i64 z.f2.f0, .int .i64 z.f2.f1, .string z.f2.f2] 75))
    clear hb4
    go_wp2_with ((with_reducible refine zaD (b := .append) (xs := #[.tmp 37, .tmp 39]) rfl ?_); at_builtin; refine Kd.R_append kOp (w0 := w) w.heap.size rfl (.tmp 37) (.tmp 39) 38 75 (.agg #[.int .i64 0, .int .i64 0, .int .i64 0, .int .i64 0, .string ⟨#[]⟩]) 48 rfl Try.underlying38 infoOp rfl ?h1 ?h2 u8 fs z [.int .i64 z.f0, .int .i64 z.f1, .int .i64 z.f2.f0, .int .i64 z.f2.f1, .string z.f2.f2] (fun _ => True) (fun _ => False) ?hs ?hx ?aP (fun _ hk => hk.elim) (fun _ _ => trivial) ?aO ?aB ?aS ?aL ?_; (case h1 => decide); (case h2 => decide); (case hs => rfl); (case hx => first | rfl | (show Value.slice (some ⟨w4.heap.size + 1, 0, none⟩) 1 1 = _; rw [World.size_alloc])); (case aP => exact kOp_mkM _ _ _ z); (case aO => exact HO4.out); (case aB => exact HB4.out); (case aS => exact zan HB4.out); (case aL => omega); intro v5 w5 ho5 hb5 hg5 hat5; have HO5 := Aside0.mk ho5; have HB5 := Aside0.mk hb5; clear ho5 hb5 hg5 hat5)
    go_roundw
    case rel => exact ⟨k + 1, by first | go_num | (rw [hwk]) | rfl, a + zn, fs ++ [z], by first | go_num | rfl, by omega, by omega, by rw [List.length_append, HFL.out]; rfl, fun y hy => by rcases List.mem_append.1 hy with h | h; exact HFI.out y h; rw [List.mem_singleton.1 h]; exact HZ1.out, by rw [show n - (k + 1) = n - k - 1 from by omega]; exact HST4.out, HO5.out, HB5.out⟩
    case measure => simp [intOf]; omega
  ·obtain rfl : k = n := by omega
   have hnl : ¬ (k : Int) < (k : Int) := by omega
   have hcte := HCT.out
   rw [Nat.sub_self, contO_end] at hcte
   obtain ⟨A5, c5, rfl, hc5, hr5⟩ := Kd.R_reads HO.out
   have HC5 := Aside0.mk hc5
   have HR5 := Aside0.mk hr5
   have hq2 := HQ.out
   rw [hcte] at hq2
   clear hc5 hr5 hcte hi0 hsz0
   cases hmf : mayO fs with
   | false =>
    rw [hmf, if_neg (by decide)] at hq2
    simp only [gotO, Prod.mk.injEq] at hq2
    obtain ⟨rfl, rfl, rfl⟩ := hq2
    have HMF := Aside0.mk hmf
    clear hmf
    go_wp2_with fail
    go_at_call 58
    refine (mayO_told fs A5 c5 _ HR5.out HC5.out HFI.out HMF.out).mono ?_
    rintro e w6 ⟨rfl, hb6⟩
    go_wp2_with fail
    go_ret3
    exact none_opsR rfl (zah HB.out hb6)
   | true =>
    rw [hmf, if_pos rfl] at hq2
    simp only [gotO, Prod.mk.injEq] at hq2
    obtain ⟨rfl, rfl, rfl⟩ := hq2
    have HMF := Aside0.mk hmf
    clear hmf
    go_wp2_with fail
    go_at_call 58
    refine (mayO_told fs A5 c5 _ HR5.out HC5.out HFI.out HMF.out).mono ?_
    rintro e w6 ⟨rfl, hb6⟩
    go_wp2_with fail
    go_ret3
    exact ⟨_, rfl, Kd.R_below HO.out hb6, zah HB.out hb6⟩
theorem getO_toldR (w : World) (A : Option Addr) (c : Nat) (l : List Int) (hr : Kd.C (Kd.int .u8) w A l.length l) (hc : l.length ≤ c) (hb : za5 l) (hl : l.length < 4611686018427387904) {x : List SOp} {m : Nat} {b : Bool} (hq : gotO (getO l) = (x, m, b)) : Calls Try.prog 60 #[.slice A l.length c] w (opsPostR x m b w) := by
 cases hg : getN l with
 | none =>
  rw [getO_none (getM_none hg)] at hq
  simp only [gotO, Prod.mk.injEq] at hq
  obtain ⟨rfl, rfl, rfl⟩ := hq
  exact getO_no1 w A c l hr hc hb hl hg
 | some p =>
  obtain ⟨n, u⟩ := p
  by_cases hn : n ≤ 12
  ·exact getO_go w A c l hr hc hb hl hg hn hq
  ·rw [getO_none (show getM l 12 = none from by rw [getM_some hg, if_neg hn])] at hq
   simp only [gotO, Prod.mk.injEq] at hq
   obtain ⟨rfl, rfl, rfl⟩ := hq
   exact getO_no2 w A c l hr hc hb hl hg hn
def opsPost9 (w0 : World) (B : Nat) (s : Option (List Int)) (w : World) (e : Ending) (w' : World) : Prop := ∃ v x, e = .returned v ∧ Kd.R kOp 75 w' w.heap.size (fun _ => True) v x ∧ (∀ y ∈ x, i64V y.f2) ∧ x.length ≤ 12 ∧ (∀ y r, s.bind rO = some (y, r) → x = y) ∧ RdAt w0 B (zaB s rO) w' ∧ Only B w w'
set_option maxHeartbeats 1000000 in
set_option maxRecDepth 100000 in
theorem ops_told (w0 : World) (B : Nat) (s : Option (List Int)) (w : World) (h : RdAt w0 B s w) :
  Calls Try.prog 45 #[.pointer (some ⟨B, 0, none⟩)] w (opsPost9 w0 B s w) := by
 have HH := Aside0.mk h
 obtain ⟨⟨A, c, l, bad, h1, h2, h3, h4, h5, hs⟩, h6, h7⟩ := h
 have HR := Aside0.mk (Kd.C_below h3 h6)
 have HC := Aside0.mk h2
 have HBY := Aside0.mk h4
 obtain ⟨k1, k2, k3, k4⟩ := know h1
 obtain ⟨x, m, b, hg⟩ : ∃ x m b, gotO (getO l) = (x, m, b) := ⟨_, _, _, rfl⟩
 have hx : (∀ y ∈ x, i64V y.f2) ∧ m ≤ l.length ∧ x.length ≤ 12 := by
  cases hz : getO l with
  | none =>
   rw [hz] at hg
   simp only [gotO, Prod.mk.injEq] at hg
   obtain ⟨rfl, rfl, _⟩ := hg
   exact ⟨(fun _ h => by cases h), Nat.zero_le _, by decide⟩
  | some p =>
   obtain ⟨y, k⟩ := p
   rw [hz] at hg
   simp only [gotO, Prod.mk.injEq] at hg
   obtain ⟨rfl, rfl, _⟩ := hg
   have ht := getO_take h4 hz
   exact ⟨ht.2.2.2, ht.2.1, (mayO_iff.1 ht.1).1⟩
 have hsl : s = none ∨ s = some l := by
  rw [hs]
  cases bad
  ·exact .inr rfl
  ·exact .inl rfl
 have HE := Aside0.mk (restO_rO s hg hsl (fun _ => hx.2.1))
 have HX := Aside0.mk (show ∀ y r, s.bind rO = some (y, r) → x = y from by
  intro y r hy
  rcases hsl with rfl | rfl
  ·cases hy
  ·rw [Option.bind_some] at hy
   unfold rO at hy
   cases hz : getO l with
   | none => rw [hz] at hy; cases hy
   | some p =>
    obtain ⟨z, k⟩ := p
    rw [hz] at hy hg
    simp only [gotO, Option.some.injEq, Prod.mk.injEq] at hy hg
    rw [← hg.1, hy.1])
 have HG := Aside0.mk hg
 have HI := Aside0.mk hx.1
 have HX12 := Aside0.mk hx.2.2
 have hm63 : m < 4611686018427387904 := by omega
 clear h1 h2 h3 h4 h6 hs hsl hg hx
 go_enter Try.func45, Try.ntmps45
 go_wp2_with fail
 go_at_call 60
 refine (getO_toldR w A c l HR.out HC.out HBY.out h5 HG.out).mono ?_
 rintro e w1 ⟨v1, rfl, ho1, hb1⟩
 have HV1 := Aside0.mk ho1
 have HH1 := Aside0.mk (HH.out.grow hb1)
 have HO1 := Aside0.mk (Only.of_below hb1 (Nat.le_of_lt HH.out.lt))
 clear hb1 ho1 k1 k2 k3 k4
 go_wp2_with fail
 go_at_call 43
 refine (skip_told w0 B s m b _ HH1.out hm63).mono ?_
 rintro e w2 ⟨rfl, hrd, ho⟩
 rw [← HE.out] at hrd
 have HR2 := Aside0.mk hrd
 have HO2 := Aside0.mk (HO1.out.trans ho)
 obtain ⟨⟨A1, c1, l1, bad1, g1, g2, g3, g4, g5, g6⟩, g7, g8⟩ := HH1.out
 have HV2 := Aside0.mk (ho.row HV1.out g1 (by decide))
 clear g1 g2 g3 g4 g6 g7 hrd ho
 go_wp2_with fail
 go_ret
 exact ⟨v1, x, rfl, HV2.out, HI.out, HX12.out, HX.out, HR2.out, HO2.out⟩
def stepPost (w0 : World) (B : Nat) (s : Option (List Int)) (w : World) (e : Ending) (w' : World) : Prop := ∃ (v1 v6 : Value) (x : SStep), e = .returned (.agg #[.string x.f0, v1, .int .i64 x.f2, .int .i64 x.f3, .bool x.f4, .string x.f5, v6]) ∧ Kd.R kOp 75 w' w.heap.size (fun _ => True) v1 x.f1 ∧ Kd.R kOp 75 w' w.heap.size (fun _ => True) v6 x.f6 ∧ (∀ y ∈ x.f1, i64V y.f2) ∧ (∀ y ∈ x.f6, i64V y.f2) ∧ (∀ y r, s.bind rS = some (y, r) → x = y) ∧ RdAt w0 B (zaB s rS) w' ∧ Only B w w'
theorem rd_row {w0 w w' : World} {B : Nat} {s : Option (List Int)} {base : Nat} {v : Value} {x : List SOp} (h : RdAt w0 B s w) (hr : Kd.R kOp 75 w base (fun _ => True) v x) (ho : Only B w w') : Kd.R kOp 75 w' base (fun _ => True) v x := by
 obtain ⟨⟨A1, c1, l1, bad1, g1, _⟩, _⟩ := h
 exact ho.row hr g1 (by decide)
theorem Only.set_new {B g j : Nat} {w w' : World} (h : Only B w w') (hg : w.heap.size ≤ g) (hB : B ≤ g) (u : Value) : Only B w (w'.setCell ⟨g, j, none⟩ u) :=
 ⟨h.1.setCell (p := ⟨g, j, none⟩) hB u, fun i hi hl => (Below.heap_setCell w' ⟨g, j, none⟩ u i (show i ≠ g by omega)).trans (h.2 i hi hl)⟩
theorem RdAt.set_far {w0 w : World} {B g j : Nat} {s : Option (List Int)} (h : RdAt w0 B s w) (hne : B ≠ g) (hg : w0.heap.size ≤ g) (u : Value) : RdAt w0 B s (w.setCell ⟨g, j, none⟩ u) := by
 obtain ⟨⟨A, c, l, bad, h1, h2⟩, h3, h4⟩ := h
 exact ⟨⟨A, c, l, bad, zaM h1 (p := ⟨g, j, none⟩) hne u, h2⟩, h3.setCell (p := ⟨g, j, none⟩) hg u, h4⟩
structure StepSt (w0 w : World) (B : Nat) (s : Option (List Int)) (v1 : Value) (o1 : List SOp) (v6 : Value) (o2 : List SOp) (W : World) : Prop where
 rd : RdAt w0 B s W
 only : Only B w W
 r1 : Kd.R kOp 75 W w.heap.size (fun _ => True) v1 o1
 r6 : Kd.R kOp 75 W w.heap.size (fun _ => True) v6 o2
theorem StepSt.set {w0 w W : World} {B g j : Nat} {s : Option (List Int)} {v1 v6 : Value} {o1 o2 : List SOp} {cs : Array Value} (h : StepSt w0 w B s v1 o1 v6 o2 W) (hk : W.heap[g]? = some (.cells cs 40 (0, 0))) (hg : w.heap.size ≤ g) (hB : B < w.heap.size) (u : Value) : StepSt w0 w B s v1 o1 v6 o2 (W.setCell ⟨g, j, none⟩ u) :=
 ⟨h.rd.set_far (by omega) (by have := h.rd.hB; omega) u, h.only.set_new hg (by omega) u, Kd.R_set h.r1 hk (by decide) j u, Kd.R_set h.r6 hk (by decide) j u⟩
theorem StepSt.set7 {w0 w W : World} {B g : Nat} {s : Option (List Int)} {v1 v6 : Value} {o1 o2 : List SOp} {a0 a1 a2 a3 a4 a5 a6 : Value} (h : StepSt w0 w B s v1 o1 v6 o2 W) (hk : W.heap[g]? = some (.cells #[a0, a1, a2, a3, a4, a5, a6] 40 (0, 0))) (hg : w.heap.size ≤ g) (hB : B < w.heap.size) (x0 x1 x2 x3 x4 x5 x6 : Value) :
  StepSt w0 w B s v1 o1 v6 o2 (((((((W.setCell ⟨g, 0, none⟩ x0).setCell ⟨g, 1, none⟩ x1).setCell ⟨g, 2, none⟩ x2).setCell ⟨g, 3, none⟩ x3).setCell ⟨g, 4, none⟩ x4).setCell ⟨g, 5, none⟩ x5).setCell ⟨g, 6, none⟩ x6) ∧ (((((((W.setCell ⟨g, 0, none⟩ x0).setCell ⟨g, 1, none⟩ x1).setCell ⟨g, 2, none⟩ x2).setCell ⟨g, 3, none⟩ x3).setCell ⟨g, 4, none⟩ x4).setCell ⟨g, 5, none⟩ x5).setCell ⟨g, 6, none⟩ x6).heap[g]? = some (.cells #[x0, x1, x2, x3, x4, x5, x6] 40 (0, 0)) := by
 have k0 := zas (cs' := #[x0, a1, a2, a3, a4, a5, a6]) hk 0 x0 rfl
 have k1 := zas (cs' := #[x0, x1, a2, a3, a4, a5, a6]) k0 1 x1 rfl
 have k2 := zas (cs' := #[x0, x1, x2, a3, a4, a5, a6]) k1 2 x2 rfl
 have k3 := zas (cs' := #[x0, x1, x2, x3, a4, a5, a6]) k2 3 x3 rfl
 have k4 := zas (cs' := #[x0, x1, x2, x3, x4, a5, a6]) k3 4 x4 rfl
 have k5 := zas (cs' := #[x0, x1, x2, x3, x4, x5, a6]) k4 5 x5 rfl
 have s0 := h.set (j := 0) hk hg hB x0
 have s1 := s0.set (j := 1) k0 hg hB x1
 have s2 := s1.set (j := 2) k1 hg hB x2
 have s3 := s2.set (j := 3) k2 hg hB x3
 have s4 := s3.set (j := 4) k3 hg hB x4
 have s5 := s4.set (j := 5) k4 hg hB x5
 have s6 := s5.set (j := 6) k5 hg hB x6
 exact ⟨s6, zas k5 6 x6 rfl⟩
set_option maxHeartbeats 4000000 in
set_option maxRecDepth 100000 in
theorem step_told (w0 : World) (B : Nat) (s : Option (List Int)) (w : World) (h : RdAt w0 B s w) :
  Calls Try.prog 26 #[.pointer (some ⟨B, 0, none⟩)] w (stepPost w0 B s w) := by
 have HZ := Aside0.mk (zaw w (.cells #[.string ⟨#[]⟩, .slice none 0 0, .int .i64 0, .int .i64 0, .bool false, .string ⟨#[]⟩, .slice none 0 0] 40))
 have HB0 := Aside0.mk (zaa (Below.refl w.heap.size w) (.cells #[.string ⟨#[]⟩, .slice none 0 0, .int .i64 0, .int .i64 0, .bool false, .string ⟨#[]⟩, .slice none 0 0] 40))
 have HH := Aside0.mk (h.grow HB0.out)
 have HO0 := Aside0.mk (Only.of_below HB0.out (Nat.le_of_lt h.lt))
 have hBw := h.lt
 have hne : w.heap.size ≠ B := by omega
 obtain ⟨s1, hs1⟩ : ∃ s1, zaB s rT = s1 := ⟨_, rfl⟩
 obtain ⟨s2, hs2⟩ : ∃ s2, zaB s1 rO = s2 := ⟨_, rfl⟩
 obtain ⟨s3, hs3⟩ : ∃ s3, zaB s2 (rN 4) = s3 := ⟨_, rfl⟩
 obtain ⟨s4, hs4⟩ : ∃ s4, zaB s3 (rN 4) = s4 := ⟨_, rfl⟩
 obtain ⟨s5, hs5⟩ : ∃ s5, zaB s4 (rN 1) = s5 := ⟨_, rfl⟩
 obtain ⟨nm, hnm⟩ : ∃ t, wasO (⟨#[]⟩ : ByteArray) s rT = t := ⟨_, rfl⟩
 obtain ⟨mn, hmn⟩ : ∃ t, wasO 0 s2 (rN 4) = t := ⟨_, rfl⟩
 obtain ⟨mx, hmx⟩ : ∃ t, wasO 0 s3 (rN 4) = t := ⟨_, rfl⟩
 obtain ⟨g, hg⟩ : ∃ t, wasO 0 s4 (rN 1) = t := ⟨_, rfl⟩
 have HP := Aside0.mk (fun (y : SStep) (r : List Int) (hy : s.bind rS = some (y, r)) => rS_parts hy)
 have HRS := Aside0.mk (restO_rS s)
 rw [hs1, hs2, hs3, hs4, hs5, hg] at HRS
 rw [hs1, hs2, hs3, hs4, hs5, hg, hnm, hmn, hmx] at HP
 have HS1 := Aside0.mk hs1
 have HS2 := Aside0.mk hs2
 have HS3 := Aside0.mk hs3
 have HS4 := Aside0.mk hs4
 have HS5 := Aside0.mk hs5
 have HNM := Aside0.mk hnm
 have HMN := Aside0.mk hmn
 have HMX := Aside0.mk hmx
 have HG := Aside0.mk hg
 clear h hs1 hs2 hs3 hs4 hs5 hnm hmn hmx hg
 go_enter Try.func26, Try.ntmps26
 go_wp2_with fail
 go_at_call 44
 refine (text_told w0 B s _ HH.out).mono ?_
 rintro e w1 ⟨rfl, hrd, ho⟩
 rw [HS1.out] at hrd
 rw [HNM.out]
 have HR1 := Aside0.mk hrd
 have HO1 := Aside0.mk (HO0.out.trans ho)
 have HZ1 := Aside0.mk (ho.blk HZ.out hne)
 clear hrd ho
 go_wp2_with fail
 go_at_call 45
 refine (ops_told w0 B s1 _ HR1.out).mono ?_
 rintro e w2 ⟨v1, o1, rfl, hv, hi, _, hx, hrd, ho⟩
 rw [HS2.out] at hrd
 have HR2 := Aside0.mk hrd
 have HO2 := Aside0.mk (HO1.out.trans ho)
 have HV2 := Aside0.mk (Kd.R_lower hv HO1.out.1.size)
 have HI1 := Aside0.mk hi
 have HX1 := Aside0.mk hx
 have HZ2 := Aside0.mk (ho.blk HZ1.out hne)
 clear hrd ho hv hi hx
 go_wp2_with fail
 go_at_call 25
 refine (zbe w0 B s2 4 _ HR2.out (by decide)).mono ?_
 rintro e w3 ⟨rfl, hrd, ho⟩
 rw [HS3.out] at hrd
 rw [HMN.out]
 have HR3 := Aside0.mk hrd
 have HO3 := Aside0.mk (HO2.out.trans ho)
 have HV3 := Aside0.mk (rd_row HR2.out HV2.out ho)
 have HZ3 := Aside0.mk (ho.blk HZ2.out hne)
 clear hrd ho
 go_wp2_with fail
 go_at_call 25
 refine (zbe w0 B s3 4 _ HR3.out (by decide)).mono ?_
 rintro e w4 ⟨rfl, hrd, ho⟩
 rw [HS4.out] at hrd
 rw [HMX.out]
 have HR4 := Aside0.mk hrd
 have HO4 := Aside0.mk (HO3.out.trans ho)
 have HV4 := Aside0.mk (rd_row HR3.out HV3.out ho)
 have HZ4 := Aside0.mk (ho.blk HZ3.out hne)
 clear hrd ho
 go_wp2_with fail
 go_at_call 25
 refine (zbe w0 B s4 1 _ HR4.out (by decide)).mono ?_
 rintro e w5 ⟨rfl, hrd, ho⟩
 rw [HS5.out] at hrd
 rw [HG.out]
 have HR5 := Aside0.mk hrd
 have HO5 := Aside0.mk (HO4.out.trans ho)
 have hv5 := rd_row HR4.out HV4.out ho
 obtain ⟨A1, c1, rfl⟩ := Kd.R_slice hv5
 have HV5 := Aside0.mk hv5
 have HZ5 := Aside0.mk (ho.blk HZ4.out hne)
 clear hrd ho hv5
 by_cases hg : g = 1
 ·have hgb : (((g : Nat) : Int) == 1) = true := beq_iff_eq.2 (by omega)
  have HGG := Aside0.mk hg
  clear hg
  have HX := Aside0.mk (zaw w5 (.cells #[.string nm, .slice (A1) o1.length c1, .int .i64 (mn : Int), .int .i64 (mx : Int), .bool true, .string ⟨#[]⟩, .slice none 0 0] 40))
  have HBX := Aside0.mk (zaa (Below.refl w5.heap.size w5) (.cells #[.string nm, .slice (A1) o1.length c1, .int .i64 (mn : Int), .int .i64 (mx : Int), .bool true, .string ⟨#[]⟩, .slice none 0 0] 40))
  obtain ⟨q1, q2, q3, q4⟩ := know HX.out
  have hB5 := HR5.out.lt
  have hne5 : w5.heap.size ≠ B := by omega
  have hzl := zay HZ5.out
  have hnz : w.heap.size ≠ w5.heap.size := by omega
  go_wp2_with fail
  go_at_call 44
  refine (text_told w0 B s5 _ (HR5.out.grow HBX.out)).mono ?_
  rintro e w6 ⟨rfl, hrd, ho⟩
  obtain ⟨s6, hs6⟩ : ∃ s6, zaB s5 rT = s6 := ⟨_, rfl⟩
  obtain ⟨nm2, hnm2⟩ : ∃ t, wasO (⟨#[]⟩ : ByteArray) s5 rT = t := ⟨_, rfl⟩
  rw [hs6] at hrd
  have HNM2 := Aside0.mk hnm2
  have HS6 := Aside0.mk hs6
  rw [hnm2]
  have HR6 := Aside0.mk hrd
  have HO6 := Aside0.mk ((HO5.out.step HBX.out (Nat.le_of_lt hB5)).trans ho)
  have HV6 := Aside0.mk (rd_row (HR5.out.grow HBX.out) (Kd.R_below HV5.out HBX.out) ho)
  have HZ6 := Aside0.mk (ho.blk (zak HZ5.out HBX.out) hne)
  have HX6 := Aside0.mk (ho.blk HX.out hne5)
  obtain ⟨j1, j2, j3, j4⟩ := know HX6.out
  clear hrd ho q1 q2 q3 q4 hs6 hnm2
  go_wp2_with fail
  go_at_call 45
  refine (ops_told w0 B s6 _ HR6.out).mono ?_
  rintro e w7 ⟨v6, o2, rfl, hv, hi, _, hx, hrd, ho⟩
  obtain ⟨A6, c6, rfl⟩ := Kd.R_slice hv
  have HR7 := Aside0.mk hrd
  have HO7 := Aside0.mk (HO6.out.trans ho)
  have HW7 := Aside0.mk (Kd.R_lower hv HO6.out.1.size)
  have HV7 := Aside0.mk (rd_row HR6.out HV6.out ho)
  have HI2 := Aside0.mk hi
  have HX2 := Aside0.mk hx
  have hz7 := ho.blk HZ6.out hne
  have hx7 := ho.blk HX6.out hne5
  have HZ7 := Aside0.mk hz7
  have HX7 := Aside0.mk hx7
  obtain ⟨k1, k2, k3, k4⟩ := know hx7
  have hz7b := zaM (zaM hz7 (p := ⟨w5.heap.size, 5, none⟩) hnz (.string nm2)) (p := ⟨w5.heap.size, 6, none⟩) hnz (.slice A6 o2.length c6)
  have hx7b := zas (zas hx7 5 (Value.string nm2) rfl) 6 (Value.slice A6 o2.length c6) rfl
  have hx7a := zas hx7 5 (Value.string nm2) rfl
  obtain ⟨m1, m2, m3, m4⟩ := know hx7a
  obtain ⟨n1, n2, n3, n4⟩ := know hx7b
  obtain ⟨p1, p2, p3, p4⟩ := know hz7b
  have HX7A := Aside0.mk hx7a
  have HZ7B := Aside0.mk hz7b
  have hwx : w.heap.size ≤ w5.heap.size := Nat.le_of_lt hzl
  have HE7 := Aside0.mk (show zaB s rS = zaB s6 rO from by rw [HRS.out, if_pos HGG.out, HS6.out])
  clear hrd ho hv hi hx hz7 hx7 j1 j2 j3 j4 hz7b hx7b hx7a
  go_wp2_with fail
  have hst : StepSt w0 w B (zaB s6 rO) (.slice A1 o1.length c1) o1 (.slice A6 o2.length c6) o2 w7 := ⟨HR7.out, HO7.out, HV7.out, HW7.out⟩
  have hfin := ((hst.set (j := 5) HX7.out hwx hBw (.string nm2)).set (j := 6) HX7A.out hwx hBw (.slice A6 o2.length c6)).set7 HZ7B.out (Nat.le_refl _) hBw (.string nm) (.slice A1 o1.length c1) (.int .i64 (mn : Int)) (.int .i64 (mx : Int)) (.bool true) (.string nm2) (.slice A6 o2.length c6)
  generalize World.setCell (World.setCell (World.setCell (World.setCell (World.setCell (World.setCell (World.setCell _ _ _) _ _) _ _) _ _) _ _) _ _) _ _ = Wf at hfin ⊢
  obtain ⟨hst2, hkf⟩ := hfin
  obtain ⟨f1, f2, f3, f4⟩ := know hkf
  have HST := Aside0.mk hst2
  clear hst hst2 hkf k1 k2 k3 k4 m1 m2 m3 m4 n1 n2 n3 n4 p1 p2 p3 p4
  refine bodyPost_ret (v := .agg #[.string nm, .slice A1 o1.length c1, .int .i64 (mn : Int), .int .i64 (mx : Int), .bool true, .string nm2, .slice A6 o2.length c6]) (by simp [results, Try.results26, go_sem, f1]) rfl ?_
  refine ⟨_, _, ⟨nm, o1, (mn : Int), (mx : Int), true, nm2, o2⟩, rfl, HST.out.r1, HST.out.r6, HI1.out, HI2.out, ?_, by rw [HE7.out]; exact HST.out.rd, HST.out.only⟩
  intro y r hy
  obtain ⟨o1', l2, e1, e2, e3, e4, e5, e6, e7, _⟩ := HP.out y r hy
  obtain ⟨e8, l7, e9⟩ := e7 HGG.out
  obtain ⟨y0, y1, y2, y3, y4, y5, y6⟩ := y
  have x1 := HX1.out _ _ e1
  rw [HS6.out] at e9
  rw [HNM2.out] at e8
  have x2 := HX2.out _ _ e9
  simp only at e2 e3 e4 e5 e6 e8 x2
  rw [e2, e3, e4, e5, e6, e8, ← x1, ← x2, decide_eq_true HGG.out]
 ·have hgb : (((g : Nat) : Int) == 1) = false := beq_eq_false_iff_ne.2 (by omega)
  have HGG := Aside0.mk hg
  clear hg
  have HX := Aside0.mk (zaw w5 (.cells #[.string nm, .slice (A1) o1.length c1, .int .i64 (mn : Int), .int .i64 (mx : Int), .bool false, .string ⟨#[]⟩, .slice none 0 0] 40))
  have hzz := zag HZ5.out (.cells #[.string nm, .slice (A1) o1.length c1, .int .i64 (mn : Int), .int .i64 (mx : Int), .bool false, .string ⟨#[]⟩, .slice none 0 0] 40)
  have HZZ := Aside0.mk hzz
  have HBX := Aside0.mk (zaa (Below.refl w5.heap.size w5) (.cells #[.string nm, .slice (A1) o1.length c1, .int .i64 (mn : Int), .int .i64 (mx : Int), .bool false, .string ⟨#[]⟩, .slice none 0 0] 40))
  have hzl := zay HZ5.out
  have hnz : w.heap.size ≠ w5.heap.size := by omega
  go_upto_region 2 with fail
  generalize w5.alloc (.cells #[.string nm, .slice (A1) o1.length c1, .int .i64 (mn : Int), .int .i64 (mx : Int), .bool false, .string ⟨#[]⟩, .slice none 0 0] 40) = W6 at HX HZZ HBX hzz ⊢
  obtain ⟨q1, q2, q3, q4⟩ := know HX.out
  obtain ⟨p1, p2, p3, p4⟩ := know hzz
  clear hzz
  go_wp2_with fail
  have hst : StepSt w0 w B s5 (.slice A1 o1.length c1) o1 (.slice none 0 0) [] W6 := ⟨HR5.out.grow HBX.out, HO5.out.step HBX.out (Nat.le_of_lt HR5.out.lt), Kd.R_below HV5.out HBX.out, Kd.R_nil _ _ _ _ _⟩
  have hfin := hst.set7 HZZ.out (Nat.le_refl _) hBw (.string nm) (.slice A1 o1.length c1) (.int .i64 (mn : Int)) (.int .i64 (mx : Int)) (.bool false) (.string ⟨#[]⟩) (.slice none 0 0)
  have HE7 := Aside0.mk (show zaB s rS = s5 from by rw [HRS.out, if_neg HGG.out])
  generalize World.setCell (World.setCell (World.setCell (World.setCell (World.setCell (World.setCell (World.setCell _ _ _) _ _) _ _) _ _) _ _) _ _) _ _ = Wf at hfin ⊢
  obtain ⟨hst2, hkf⟩ := hfin
  obtain ⟨f1, f2, f3, f4⟩ := know hkf
  have HST := Aside0.mk hst2
  clear hst hst2 hkf p1 p2 p3 p4 q1 q2 q3 q4
  refine bodyPost_ret (v := .agg #[.string nm, .slice A1 o1.length c1, .int .i64 (mn : Int), .int .i64 (mx : Int), .bool false, .string ⟨#[]⟩, .slice none 0 0]) (by simp [results, Try.results26, go_sem, f1]) rfl ?_
  refine ⟨_, _, ⟨nm, o1, (mn : Int), (mx : Int), false, ⟨#[]⟩, []⟩, rfl, HST.out.r1, HST.out.r6, HI1.out, fun _ h => by (cases h), ?_, by rw [HE7.out]; exact HST.out.rd, HST.out.only⟩
  intro y r hy
  obtain ⟨o1', l2, e1, e2, e3, e4, e5, e6, _, e7⟩ := HP.out y r hy
  obtain ⟨e8, e9⟩ := e7 HGG.out
  obtain ⟨y0, y1, y2, y3, y4, y5, y6⟩ := y
  have x1 := HX1.out _ _ e1
  simp only at e2 e3 e4 e5 e6 e8 e9
  rw [e2, e3, e4, e5, e6, e8, e9, ← x1, decide_eq_false HGG.out]
def qPost3 (x : SQuery) (n : Nat) (b : Bool) (w : World) (e : Ending) (w' : World) : Prop := ∃ v, e = .returned (.tuple #[.agg #[v, .int .i64 x.f1, .int .i64 x.f2, .int .i64 x.f3, .int .i64 x.f4], .int .i64 (n : Int), .bool b]) ∧ Kd.R kStep 40 w' w.heap.size (fun _ => True) v x.f0 ∧ okQ x ∧ Below w.heap.size w w'
theorem RdAt.grown {w0 w w1 : World} {B : Nat} {s : Option (List Int)} {u : Option Nat} (h : RdAt w0 B s w) (hg : w.grownBy w1 u) (hne : some B ≠ u) (hb : Below w0.heap.size w0 w1) : RdAt w0 B s w1 := by
 obtain ⟨⟨A, c, l, bad, h1, h2⟩, h3, h4⟩ := h
 exact ⟨⟨A, c, l, bad, za3 h1 hg hne, h2⟩, hb, h4⟩
theorem RdAt.neR {w0 w : World} {B base : Nat} {s : Option (List Int)} {v : Value} {xs : List SStep} (h : RdAt w0 B s w) (hr : Kd.R kStep 40 w base (fun _ => True) v xs) : some B ≠ v.ownBlock := by
 obtain ⟨⟨A, c, l, bad, h1, h2⟩, h3, h4⟩ := h
 exact Kd.R_ne hr h1 (by decide)
theorem rd_rowS {w0 w w' : World} {B : Nat} {s : Option (List Int)} {base : Nat} {v : Value} {x : List SStep} (h : RdAt w0 B s w) (hr : Kd.R kStep 40 w base (fun _ => True) v x) (ho : Only B w w') : Kd.R kStep 40 w' base (fun _ => True) v x := by
 obtain ⟨⟨A1, c1, l1, bad1, g1, _⟩, _⟩ := h
 exact ho.row hr g1 (by decide)
structure GetQSt (w : World) (B Q : Nat) (s : Option (List Int)) (v : Value) (fs : List SStep) (a b c d : Value) (w' : World) : Prop where
 rd : RdAt w B s w'
 q : w'.heap[Q]? = some (.cells #[v, a, b, c, d] 24 (0, 0))
 z : w'.heap[w.heap.size]? = some (.cells #[.slice none 0 0, .int .i64 0, .int .i64 0, .int .i64 0, .int .i64 0] 24 (0, 0))
 row : Kd.R kStep 40 w' w.heap.size (fun _ => True) v fs
theorem GetQSt.only {w w1 w2 : World} {B Q : Nat} {s s' : Option (List Int)} {v a b c d : Value} {fs : List SStep} (h : GetQSt w B Q s v fs a b c d w1) (ho : Only B w1 w2) (hr : RdAt w B s' w2) (hQ : Q ≠ B) (hZ : w.heap.size ≠ B) : GetQSt w B Q s' v fs a b c d w2 :=
 ⟨hr, ho.blk h.q hQ, ho.blk h.z hZ, rd_rowS h.rd h.row ho⟩
theorem put5 {w W : World} {g n : Nat} {a0 a1 a2 a3 a4 : Value} {v : Value} {xs : List SStep} (hb : Below n w W) (hk : W.heap[g]? = some (.cells #[a0, a1, a2, a3, a4] 24 (0, 0))) (hr : Kd.R kStep 40 W n (fun _ => True) v xs) (hg : n ≤ g) (x0 x1 x2 x3 x4 : Value) :
  Below n w (((((W.setCell ⟨g, 0, none⟩ x0).setCell ⟨g, 1, none⟩ x1).setCell ⟨g, 2, none⟩ x2).setCell ⟨g, 3, none⟩ x3).setCell ⟨g, 4, none⟩ x4) ∧ (((((W.setCell ⟨g, 0, none⟩ x0).setCell ⟨g, 1, none⟩ x1).setCell ⟨g, 2, none⟩ x2).setCell ⟨g, 3, none⟩ x3).setCell ⟨g, 4, none⟩ x4).heap[g]? = some (.cells #[x0, x1, x2, x3, x4] 24 (0, 0)) ∧ Kd.R kStep 40 (((((W.setCell ⟨g, 0, none⟩ x0).setCell ⟨g, 1, none⟩ x1).setCell ⟨g, 2, none⟩ x2).setCell ⟨g, 3, none⟩ x3).setCell ⟨g, 4, none⟩ x4) n (fun _ => True) v xs := by
 have k0 := zas (cs' := #[x0, a1, a2, a3, a4]) hk 0 x0 rfl
 have b0 := hb.setCell (p := ⟨g, 0, none⟩) hg x0
 have r0 := Kd.R_set hr hk (by decide) 0 x0
 have k1 := zas (cs' := #[x0, x1, a2, a3, a4]) k0 1 x1 rfl
 have b1 := b0.setCell (p := ⟨g, 1, none⟩) hg x1
 have r1 := Kd.R_set r0 k0 (by decide) 1 x1
 have k2 := zas (cs' := #[x0, x1, x2, a3, a4]) k1 2 x2 rfl
 have b2 := b1.setCell (p := ⟨g, 2, none⟩) hg x2
 have r2 := Kd.R_set r1 k1 (by decide) 2 x2
 have k3 := zas (cs' := #[x0, x1, x2, x3, a4]) k2 3 x3 rfl
 have b3 := b2.setCell (p := ⟨g, 3, none⟩) hg x3
 have r3 := Kd.R_set r2 k2 (by decide) 3 x3
 have k4 := zas (cs' := #[x0, x1, x2, x3, x4]) k3 4 x4 rfl
 have b4 := b3.setCell (p := ⟨g, 4, none⟩) hg x4
 have r4 := Kd.R_set r3 k3 (by decide) 4 x4
 exact ⟨b4, k4, r4⟩
set_option maxHeartbeats 8000000 in
set_option maxRecDepth 100000 in
theorem getQ_told (w : World) (A : Option Addr) (c : Nat) (l : List Int) (hr : Kd.C (Kd.int .u8) w A l.length l) (hc : l.length ≤ c) (hb : za5 l) (hl : l.length < 4611686018427387904) {x : SQuery} {m : Nat} {b : Bool} (hq : gotQ (getQ l) = (x, m, b)) :
  Calls Try.prog 12 #[.slice A l.length c] w (qPost3 x m b w) := by
 obtain ⟨s1, hs1⟩ : ∃ s1, zaB (some l) (rN 4) = s1 := ⟨_, rfl⟩
 obtain ⟨many, hmany⟩ : ∃ n, wasO 0 (some l) (rN 4) = n := ⟨_, rfl⟩
 have hm4 : many ≤ 4 := hmany ▸ wasO_rN_le _ _
 have HS1 := Aside0.mk hs1
 have HMANY := Aside0.mk hmany
 have HQ := Aside0.mk hq
 have HRQ := Aside0.mk (fun (fs : List SStep) (se : Option (List Int)) (h : s1.bind (rSs many) = se.map fun r => (fs, r)) => rQ_of (l := l) (fs := fs) (se := se) (by rw [hs1, hmany]; exact h))
 have HR := Aside0.mk hr
 have HC := Aside0.mk hc
 have HBY := Aside0.mk hb
 have HZ0 := Aside0.mk (zaw w (.cells #[.slice none 0 0, .int .i64 0, .int .i64 0, .int .i64 0, .int .i64 0] 24))
 have HK0 := Aside0.mk (zbh w (.cells #[.slice none 0 0, .int .i64 0, .int .i64 0, .int .i64 0, .int .i64 0] 24) (.cells #[.slice A l.length c, .bool false] 58))
 have HQ0 := Aside0.mk (blk_new3 w (.cells #[.slice none 0 0, .int .i64 0, .int .i64 0, .int .i64 0, .int .i64 0] 24) (.cells #[.slice A l.length c, .bool false] 58) (.cells #[.slice none 0 0, .int .i64 0, .int .i64 0, .int .i64 0, .int .i64 0] 24))
 have HB0 := Aside0.mk (zaa (zaa (zaa (Below.refl w.heap.size w) (.cells #[.slice none 0 0, .int .i64 0, .int .i64 0, .int .i64 0, .int .i64 0] 24)) (.cells #[.slice A l.length c, .bool false] 58)) (.cells #[.slice none 0 0, .int .i64 0, .int .i64 0, .int .i64 0, .int .i64 0] 24))
 have HZ1 := Aside0.mk (zag (zag HZ0.out (.cells #[.slice A l.length c, .bool false] 58)) (.cells #[.slice none 0 0, .int .i64 0, .int .i64 0, .int .i64 0, .int .i64 0] 24))
 have HK1 := Aside0.mk (zag HK0.out (.cells #[.slice none 0 0, .int .i64 0, .int .i64 0, .int .i64 0, .int .i64 0] 24))
 clear hs1 hmany hq hr hc hb HZ0 HK0
 go_enter Try.func12, Try.ntmps12
 go_upto_region 3 with fail
 generalize ((w.alloc (.cells #[.slice none 0 0, .int .i64 0, .int .i64 0, .int .i64 0, .int .i64 0] 24)).alloc (.cells #[.slice A l.length c, .bool false] 58)).alloc (.cells #[.slice none 0 0, .int .i64 0, .int .i64 0, .int .i64 0, .int .i64 0] 24) = W0 at *
 have hst0 : GetQSt w (w.heap.size + 1) (w.heap.size + 1 + 1) (some l) (.slice none 0 0) [] (.int .i64 0) (.int .i64 0) (.int .i64 0) (.int .i64 0) W0 := ⟨⟨⟨A, c, l, false, HK1.out, HC.out, HR.out, HBY.out, hl, rfl⟩, HB0.out, Nat.le_succ _⟩, HQ0.out, HZ1.out, Kd.R_nil _ _ _ _ _⟩
 have HST0 := Aside0.mk hst0
 obtain ⟨B, hB⟩ : ∃ B, w.heap.size + 1 = B := ⟨_, rfl⟩
 obtain ⟨Q, hQ⟩ : ∃ Q, w.heap.size + 1 + 1 = Q := ⟨_, rfl⟩
 have hQB : Q ≠ B := by omega
 have hZB : w.heap.size ≠ B := by omega
 have hQZ : Q ≠ w.heap.size := by omega
 have hwB : w.heap.size ≤ B := by omega
 have hwQ : w.heap.size ≤ Q := by omega
 simp only [hQ] at HST0 ⊢
 simp only [hB] at HST0 ⊢
 clear hst0 hB hQ HZ1 HK1 HQ0 HB0
 go_wp2_with fail
 go_at_call 25
 refine (zbe w B (some l) 4 _ HST0.out.rd (by decide)).mono ?_
 rintro e w1 ⟨rfl, hrd, ho⟩
 rw [HS1.out] at hrd
 rw [HMANY.out]
 have HST1 := Aside0.mk (HST0.out.only ho hrd hQB hZB)
 clear hrd ho HST0
 go_wp2_with fail
 go_loopw [13] (fun v13 w' => ∃ (k : Nat) (s : Option (List Int)) (v : Value) (fs : List SStep), v13 = .int .i64 k ∧ k ≤ many ∧ fs.length = k ∧ (∀ x ∈ fs, okSt x) ∧ s1.bind (rSs many) = (s.bind (rSs (many - k))).map (fun p => (fs ++ p.1, p.2)) ∧ GetQSt w B Q s v fs (.int .i64 0) (.int .i64 0) (.int .i64 0) (.int .i64 0) w') (fun i _ => many - (intOf i).toNat)
 case atStart => exact ⟨0, s1, _, [], rfl, Nat.zero_le _, rfl, (fun _ h => by cases h), by simp, HST1.out⟩
 case round =>
  obtain ⟨k, s, v, fs, rfl, hk, hfl, hfo, hinv, hst⟩ := hrel
  have HST := Aside0.mk hst
  have HFO := Aside0.mk hfo
  have HINV := Aside0.mk hinv
  have HFL := Aside0.mk hfl
  obtain ⟨A0, c0, rfl⟩ := Kd.R_slice hst.row
  obtain ⟨y1, y2, y3, y4⟩ := know hst.q
  clear hfo hinv hst
  by_cases hlt : k < many
  ·have hmk : many - k = (many - (k + 1)) + 1 := by omega
   have HMK := Aside0.mk hmk
   have hqd : ∀ m i, (wr.drewN m).cell? ⟨Q, i, none⟩ = #[.slice A0 fs.length c0, .int .i64 0, .int .i64 0, .int .i64 0, .int .i64 0][i]? := fun m i => zad (zai HST.out.q m) i
   have hf4 : fs.length ≤ 4 := by omega
   have hk1 : k + 1 ≤ many := hlt
   clear hmk hfl
   go_wp2_with fail
   go_region_law (first
    | (go_simp; go_at_call 26; refine (step_told w B s _ (HST.out.rd.grow (zaW (Below.refl _ _)))).mono ?_; rintro e w5 ⟨v1, v6, x, rfl, hr1, hr6, hi1, hi6, hx, hrd, ho⟩; have HX := Aside0.mk (rSs_step fs (many - (k + 1)) hx); have HROW := Aside0.mk (rd_rowS (HST.out.rd.grow (zaW (Below.refl _ _))) (Kd.R_drew HST.out.row) ho); have HQ5 := Aside0.mk (ho.blk (zaj HST.out.q) hQB); have HZ5 := Aside0.mk (ho.blk (zaj HST.out.z) hZB); obtain ⟨n1, n2, n3, n4⟩ := know HQ5.out; have HRD := Aside0.mk hrd; have HS1' := Aside0.mk (Kd.R_newR hr1 (Kd.R_drew HST.out.row)); have HS6' := Aside0.mk (Kd.R_newR hr6 (Kd.R_drew HST.out.row)); have hsz6 := (HST.out.rd.grow (zaW (Below.refl wr.heap.size wr))).below.size; have HOKX : Aside0 (okSt x) := ⟨⟨i64B_iff.2 hi1, i64B_iff.2 hi6⟩⟩; clear hr1 hr6 hi1 hi6 hx hrd ho)
    | (refine Kd.R_append_step (o := ⟨some 20, _, _, _, _, _⟩) kStep (w0 := w) (W := w5) w.heap.size ?hw (.tmp 16) (.tmp 19) 22 40 (.agg #[.string ⟨#[]⟩, .slice none 0 0, .int .i64 0, .int .i64 0, .bool false, .string ⟨#[]⟩, .slice none 0 0]) 104 rfl Try.underlying22 infoStep rfl ?h0 ?h1 (.slice A0 fs.length c0) fs x [.string x.f0, v1, .int .i64 x.f2, .int .i64 x.f3, .bool x.f4, .string x.f5, v6] (fun _ => True) (fun k_ => True ∧ some k_ ≠ (Value.slice A0 fs.length c0).ownBlock) ?hs ?hx ?aP (fun _ h => h) (fun _ _ => trivial) ?aO ?aB ?aS ?aL ?_; (case hw => rfl); (case h0 => decide); (case h1 => decide); (case hs => rfl); (case hx => rfl); (case aP => exact kStep_mkM _ _ _ x (Kd.R_lower HS1'.out hsz6) (Kd.R_lower HS6'.out hsz6)); (case aO => exact HROW.out); (case aB => exact HRD.out.below); (case aS => exact HRD.out.below.size); (case aL => omega); intro v7 w7 ho7 hb7 hg7 hat7; obtain ⟨A7, c7, hv7⟩ := Kd.R_slice ho7; rw [List.length_append, List.length_singleton] at hv7; subst hv7; have HO7 := Aside0.mk ho7; have HB7 := Aside0.mk hb7; have HRD7 := Aside0.mk (HRD.out.grown hg7 (HRD.out.neR HROW.out) hb7); have HQ7 := Aside0.mk (za3 HQ5.out hg7 (Kd.R_ne HROW.out HQ5.out (by decide))); have HZ7 := Aside0.mk (za3 HZ5.out hg7 (Kd.R_ne HROW.out HZ5.out (by decide))); obtain ⟨m1, m2, m3, m4⟩ := know HQ7.out; clear ho7 hb7 hg7 hat7))
   all_goals
    have hst7 : GetQSt w B Q (zaB s rS) (.slice A7 (fs.length + 1) c7) (fs ++ [x]) (.int .i64 0) (.int .i64 0) (.int .i64 0) (.int .i64 0) (w7.setCell ⟨Q, 0, none⟩ (.slice A7 (fs.length + 1) c7)) := ⟨HRD7.out.set_far (Ne.symm hQB) hwQ _, zas HQ7.out 0 (Value.slice A7 (fs.length + 1) c7) rfl, zaM HZ7.out (p := ⟨Q, 0, none⟩) (Ne.symm hQZ) (.slice A7 (fs.length + 1) c7), Kd.R_set HO7.out HQ7.out (by decide) 0 (.slice A7 (fs.length + 1) c7)⟩
    have HST7 := Aside0.mk hst7
    clear hst7
    go_wp2_with fail
    go_roundw
    case rel => exact ⟨k + 1, _, _, fs ++ [x], by go_num, hk1, by rw [List.length_append, HFL.out]; rfl, fun y hy => by rcases List.mem_append.1 hy with h | h; exact HFO.out y h; rw [List.mem_singleton.1 h]; exact HOKX.out, by rw [HINV.out, HMK.out]; exact HX.out, HST7.out⟩
    case measure => simp [intOf]; omega
  ·obtain rfl : k = many := by omega
   have hlast : s1.bind (rSs k) = s.map fun r => (fs, r) := by
    rw [HINV.out, Nat.sub_self]
    cases s with
    | none => rfl
    | some r => simp [rSs]
   have hrq := HRQ.out fs s hlast
   obtain ⟨t1, ht1⟩ : ∃ t, zaB s (rN 1125899906842624) = t := ⟨_, rfl⟩
   obtain ⟨t2, ht2⟩ : ∃ t, zaB t1 (rN 4) = t := ⟨_, rfl⟩
   obtain ⟨t3, ht3⟩ : ∃ t, zaB t2 (rN 4) = t := ⟨_, rfl⟩
   obtain ⟨t4, ht4⟩ : ∃ t, zaB t3 (rN 6) = t := ⟨_, rfl⟩
   obtain ⟨n1, hn1⟩ : ∃ t, wasO 0 s (rN 1125899906842624) = t := ⟨_, rfl⟩
   obtain ⟨n2, hn2⟩ : ∃ t, wasO 0 t1 (rN 4) = t := ⟨_, rfl⟩
   obtain ⟨n3, hn3⟩ : ∃ t, wasO 0 t2 (rN 4) = t := ⟨_, rfl⟩
   obtain ⟨n4, hn4⟩ : ∃ t, wasO 0 t3 (rN 6) = t := ⟨_, rfl⟩
   rw [ht1, ht2, ht3, ht4, hn1, hn2, hn3, hn4] at hrq
   have HRQ2 := Aside0.mk hrq
   have hf4 : fs.length ≤ 4 := by omega
   have HT1 := Aside0.mk ht1
   have HN1 := Aside0.mk hn1
   have HT2 := Aside0.mk ht2
   have HN2 := Aside0.mk hn2
   have HT3 := Aside0.mk ht3
   have HN3 := Aside0.mk hn3
   have HT4 := Aside0.mk ht4
   have HN4 := Aside0.mk hn4
   clear hfl hlt hrq hlast ht1 hn1 ht2 hn2 ht3 hn3 ht4 hn4 y1 y2 y3 y4
   go_wp2_with fail
   go_at_call 25
   refine (zbe w B s 1125899906842624 _ HST.out.rd (Nat.le_refl _)).mono ?_
   rintro e u1 ⟨rfl, hrd, ho⟩
   rw [HT1.out] at hrd
   rw [HN1.out]
   have HSU1 := Aside0.mk (HST.out.only ho hrd hQB hZB)
   clear hrd ho
   go_wp2_with fail
   go_at_call 25
   refine (zbe w B t1 4 _ HSU1.out.rd (by decide)).mono ?_
   rintro e u2 ⟨rfl, hrd, ho⟩
   rw [HT2.out] at hrd
   rw [HN2.out]
   have HSU2 := Aside0.mk (HSU1.out.only ho hrd hQB hZB)
   clear hrd ho
   go_wp2_with fail
   go_at_call 25
   refine (zbe w B t2 4 _ HSU2.out.rd (by decide)).mono ?_
   rintro e u3 ⟨rfl, hrd, ho⟩
   rw [HT3.out] at hrd
   rw [HN3.out]
   have HSU3 := Aside0.mk (HSU2.out.only ho hrd hQB hZB)
   clear hrd ho
   go_wp2_with fail
   go_at_call 25
   refine (zbe w B t3 6 _ HSU3.out.rd (by decide)).mono ?_
   rintro e u4 ⟨rfl, hrd, ho⟩
   rw [HT4.out] at hrd
   rw [HN4.out]
   have HSU4 := Aside0.mk (HSU3.out.only ho hrd hQB hZB)
   clear hrd ho
   have hq4 := HSU4.out.q
   have hqa := zas hq4 1 (Value.int .i64 (n1 : Int)) rfl
   have hqb := zas hqa 2 (Value.int .i64 (n2 : Int)) rfl
   have hqc := zas hqb 3 (Value.int .i64 (n3 : Int)) rfl
   have hqd := zas hqc 4 (Value.int .i64 (n4 : Int)) rfl
   have hrr := (((HSU4.out.rd.set_far (j := 1) (Ne.symm hQB) hwQ (.int .i64 (n1 : Int))).set_far (j := 2) (Ne.symm hQB) hwQ (.int .i64 (n2 : Int))).set_far (j := 3) (Ne.symm hQB) hwQ (.int .i64 (n3 : Int))).set_far (j := 4) (Ne.symm hQB) hwQ (.int .i64 (n4 : Int))
   have hzz := zaM (zaM (zaM (zaM HSU4.out.z (p := ⟨Q, 1, none⟩) (Ne.symm hQZ) (.int .i64 (n1 : Int))) (p := ⟨Q, 2, none⟩) (Ne.symm hQZ) (.int .i64 (n2 : Int))) (p := ⟨Q, 3, none⟩) (Ne.symm hQZ) (.int .i64 (n3 : Int))) (p := ⟨Q, 4, none⟩) (Ne.symm hQZ) (.int .i64 (n4 : Int))
   have hw1 := Kd.R_set HSU4.out.row hq4 (by decide) 1 (.int .i64 (n1 : Int))
   have hw2 := Kd.R_set hw1 hqa (by decide) 2 (.int .i64 (n2 : Int))
   have hw3 := Kd.R_set hw2 hqb (by decide) 3 (.int .i64 (n3 : Int))
   have hw4 := Kd.R_set hw3 hqc (by decide) 4 (.int .i64 (n4 : Int))
   obtain ⟨y1, y2, y3, y4⟩ := know hq4
   clear hqa hqb hqc hw1 hw2 hw3 hq4
   go_upto_region 9 with fail
   generalize World.setCell (World.setCell (World.setCell (World.setCell _ _ _) _ _) _ _) _ _ = Wq at hqd hrr hzz hw4 ⊢
   have HQD := Aside0.mk hqd
   have HRR := Aside0.mk hrr
   have HZZ := Aside0.mk hzz
   have HW4 := Aside0.mk hw4
   obtain ⟨x1, x2, x3, x4⟩ := know hqd
   obtain ⟨⟨Ar, cr, lr, bad, g1, g2, _, _, g5, g6⟩, g7, _⟩ := hrr
   obtain ⟨k1, k2, k3, k4⟩ := know g1
   have HG1 := Aside0.mk g1
   have hzk := hzz
   obtain ⟨p1, p2, p3, p4⟩ := know hzk
   clear hqd hzz hw4 hzk g1 g2 g7 y1 y2 y3 y4
   cases bad with
   | true =>
    rw [if_pos rfl] at g6
    have hnone := HRQ2.out
    rw [g6] at hnone
    have hgb := getQ_bad hnone
    rw [HQ.out] at hgb
    simp only [Prod.mk.injEq] at hgb
    obtain ⟨rfl, rfl, rfl⟩ := hgb
    clear hnone g6
    go_wp2_with fail
    have hfin := put5 HRR.out.below HZZ.out (Kd.R_nil _ _ _ _ _) (Nat.le_refl _) (.slice none 0 0) (.int .i64 0) (.int .i64 0) (.int .i64 0) (.int .i64 0)
    generalize World.setCell (World.setCell (World.setCell (World.setCell (World.setCell _ _ _) _ _) _ _) _ _) _ _ = Wf at hfin ⊢
    obtain ⟨hbf, hkf, hrf⟩ := hfin
    obtain ⟨f1, f2, f3, f4⟩ := know hkf
    clear hkf
    refine bodyPost_ret (v := .tuple #[.agg #[.slice none 0 0, .int .i64 0, .int .i64 0, .int .i64 0, .int .i64 0], .int .i64 0, .bool false]) (by simp [results, Try.results12, go_sem, f1]) rfl ?_
    exact ⟨_, rfl, Kd.R_nil _ _ _ _ _, (fun _ h => by cases h), hbf⟩
   | false =>
    rw [if_neg (by decide)] at g6
    have hsome := HRQ2.out
    rw [g6] at hsome
    have HSOME := Aside0.mk hsome
    have hok : okQ ⟨fs, (n1 : Int), (n2 : Int), (n3 : Int), (n4 : Int)⟩ := HFO.out
    have HOK := Aside0.mk hok
    obtain ⟨bm, hbm⟩ : ∃ b, mayQ ⟨fs, (n1 : Int), (n2 : Int), (n3 : Int), (n4 : Int)⟩ = b := ⟨_, rfl⟩
    have HBM := Aside0.mk hbm
    obtain ⟨A5, c5, e5, hc5, hr5⟩ := Kd.R_reads HW4.out
    obtain ⟨rfl, rfl⟩ : A0 = A5 ∧ c0 = c5 := by cases e5; exact ⟨rfl, rfl⟩
    have HR5 := Aside0.mk hr5
    have HC5 := Aside0.mk hc5
    clear hsome hok hbm hc5 hr5 e5 g6
    go_wp2_with fail
    go_at_call 21
    refine (mayQ_told ⟨fs, (n1 : Int), (n2 : Int), (n3 : Int), (n4 : Int)⟩ A0 c0 _ HR5.out HC5.out HOK.out (by show fs.length < 4611686018427387904; omega) HBM.out).mono ?_
    rintro e u9 ⟨rfl, hb9⟩
    have HQ9 := Aside0.mk (zak HQD.out hb9)
    have HZ9 := Aside0.mk (zak HZZ.out hb9)
    have HW9 := Aside0.mk (Kd.R_below HW4.out hb9)
    have HK9 := Aside0.mk (zak HG1.out hb9)
    have HB9 := Aside0.mk (zah HRR.out.below hb9)
    obtain ⟨r1, r2, r3, r4⟩ := know HQ9.out
    obtain ⟨v1, v2, v3, v4⟩ := know HZ9.out
    obtain ⟨w1, w2, w3, w4⟩ := know HK9.out
    clear x1 x2 x3 x4 k1 k2 k3 k4 p1 p2 p3 p4 hb9
    cases bm with
    | false =>
     have hgb := getQ_not HSOME.out HBM.out
     rw [HQ.out] at hgb
     simp only [Prod.mk.injEq] at hgb
     obtain ⟨rfl, rfl, rfl⟩ := hgb
     go_wp2_with fail
     have hfin := put5 HB9.out HZ9.out (Kd.R_nil _ _ _ _ _) (Nat.le_refl _) (.slice none 0 0) (.int .i64 0) (.int .i64 0) (.int .i64 0) (.int .i64 0)
     generalize World.setCell (World.setCell (World.setCell (World.setCell (World.setCell _ _ _) _ _) _ _) _ _) _ _ = Wf at hfin ⊢
     obtain ⟨hbf, hkf, hrf⟩ := hfin
     obtain ⟨f1, f2, f3, f4⟩ := know hkf
     clear hkf
     refine bodyPost_ret (v := .tuple #[.agg #[.slice none 0 0, .int .i64 0, .int .i64 0, .int .i64 0, .int .i64 0], .int .i64 0, .bool false]) (by simp [results, Try.results12, go_sem, f1]) rfl ?_
     exact ⟨_, rfl, Kd.R_nil _ _ _ _ _, (fun _ h => by cases h), hbf⟩
    | true =>
     have hgb := getQ_yes HSOME.out HBM.out
     rw [HQ.out] at hgb
     simp only [Prod.mk.injEq] at hgb
     obtain ⟨rfl, rfl, rfl⟩ := hgb
     have htk := rQ_take HBY.out HSOME.out
     have hll : lr.length ≤ l.length := by rw [htk.1, List.length_append]; omega
     have hwl : IntKind.i64.wrap ((l.length : Int) - (lr.length : Int)) = ((l.length - lr.length : Nat) : Int) := by rw [IntWalk.i64_in _ (by omega)]; omega
     obtain ⟨nn, hnn⟩ : ∃ nn, l.length - lr.length = nn := ⟨_, rfl⟩
     have HNN := Aside0.mk hnn
     rw [hnn] at hwl
     have hfin := put5 (zaW HB9.out) (zaj HZ9.out) (Kd.R_drew HW9.out) (Nat.le_refl _) (.slice A0 fs.length c0) (.int .i64 (n1 : Int)) (.int .i64 (n2 : Int)) (.int .i64 (n3 : Int)) (.int .i64 (n4 : Int))
     have HFIN := Aside0.mk hfin
     clear hfin htk hll hnn
     go_upto_region 11 with fail
     go_cut [3, 4] (fun v3 v4 wx => v3 = .int .i64 (nn : Int) ∧ v4 = .bool true ∧ Below w.heap.size w wx ∧ wx.heap[w.heap.size]? = some (.cells #[.slice A0 fs.length c0, .int .i64 (n1 : Int), .int .i64 (n2 : Int), .int .i64 (n3 : Int), .int .i64 (n4 : Int)] 24 (0, 0)) ∧ Kd.R kStep 40 wx w.heap.size (fun _ => True) (.slice A0 fs.length c0) fs)
     case first =>
      go_region_law (fail)
      all_goals
       go_wp2_with fail
       go_meet
       exact ⟨rfl, rfl, HFIN.out⟩
     case rest =>
      obtain ⟨rfl, rfl, hbf, hkf, hrf⟩ := hcut
      obtain ⟨f1, f2, f3, f4⟩ := know hkf
      have HBF := Aside0.mk hbf
      have HRF := Aside0.mk hrf
      clear hkf hbf hrf HFIN
      go_wp2
      refine bodyPost_ret (v := .tuple #[.agg #[.slice A0 fs.length c0, .int .i64 (n1 : Int), .int .i64 (n2 : Int), .int .i64 (n3 : Int), .int .i64 (n4 : Int)], .int .i64 (nn : Int), .bool true]) (by simp [results, Try.results12, go_sem, f1]) rfl ?_
      exact ⟨.slice A0 fs.length c0, by rw [HNN.out], HRF.out, HOK.out, HBF.out⟩
def slices_EqualFunc_api_Step.rel (p : SStep → SStep → Bool) (l0 l1 : List SStep) (w : World) (k : Nat) (w' : World) : Prop := k ≤ l0.length ∧ (∀ i, i < k → p (l0.getD i zbm) (l1.getD i zbm) = true) ∧ Below w.heap.size w w'
set_option maxHeartbeats 1000000 in
theorem slices_EqualFunc_api_Step.told (g : Nat) (caps : Array Value) (p : SStep → SStep → Bool) (A0 : Option Addr) (cp0 : Nat) (l0 : List SStep) (A1 : Option Addr) (cp1 : Nat) (l1 : List SStep) (w : World) (eg : ∀ args w, (callFunc g args).run Try.prog w = .ok (.enter g args) w) (hp : Tells2 Try.prog kStep g caps p w) (hr0 : Kd.C kStep w A0 l0.length l0) (hc0 : l0.length ≤ cp0) (hr1 : Kd.C kStep w A1 l1.length l1) (hc1 : l1.length ≤ cp1) :
  Calls Try.prog 27 #[.slice A0 l0.length cp0, .slice A1 l1.length cp1, .func (.func g) #[] caps] w (za2 (eqf p zbm l0 l1) w) := by
 have HR0 := Aside0.mk hr0
 have HC0 := Aside0.mk hc0
 have HR1 := Aside0.mk hr1
 have HC1 := Aside0.mk hc1
 have HP := Aside0.mk hp
 have hm := hr0.2.1
 clear hr0 hc0 hr1 hc1 hp
 by_cases hlen : l0.length = l1.length
 ·have HLEN := Aside0.mk hlen
  go_enter Try.func27, Try.ntmps27
  go_wp2
  go_loopw [7, 8, 9, 17] (fun _ _ _ v17 w' => ∃ k : Nat, v17 = .int .i64 k ∧ slices_EqualFunc_api_Step.rel p l0 l1 w k w') (fun _ _ _ i _ => l0.length - (intOf i).toNat)
  case atStart => exact ⟨0, rfl, Nat.zero_le _, fun i hi => by omega, Below.refl _ _⟩
  case round =>
   obtain ⟨k, rfl, HK⟩ := hrel
   have HK := Aside0.mk HK
   clear hlen
   by_cases hlt : k < l0.length
   ·have hlt2 : k < l1.length := by have := HLEN.out; omega
    obtain ⟨ad, cs, e, hl, hK, hcell⟩ := Kd.C_get (Kd.C_below HR0.out HK.out.2.2) zbm (k : Int) (by omega) (by omega)
    cases e
    obtain ⟨ad2, ds, e, hl2, hK2, hcell2⟩ := Kd.C_get (Kd.C_below HR1.out HK.out.2.2) zbm (k : Int) (by omega) (by omega)
    cases e
    simp only [Int.toNat_natCast] at hK hcell hK2 hcell2
    obtain ⟨x, HX⟩ : ∃ x, Aside0 (l0.getD k zbm = x) := ⟨_, ⟨rfl⟩⟩
    obtain ⟨y, HY⟩ : ∃ y, Aside0 (l1.getD k zbm = y) := ⟨_, ⟨rfl⟩⟩
    rw [HX.out] at hK
    rw [HY.out] at hK2
    have hK0 := hK
    have hK20 := hK2
    obtain ⟨A1p, c1p, A6p, c6p, rfl, _⟩ := kStep_open hK0
    have hp0 := hcell 0 _ rfl
    (try simp only [show kStep.sz = 7 from rfl, Nat.mul_one, Nat.add_zero] at hp0)
    have hp0z := fun (o : Obj) => zax o hp0
    have hp1 := hcell 1 _ rfl
    (try simp only [show kStep.sz = 7 from rfl, Nat.mul_one, Nat.add_zero] at hp1)
    rw [zaA _ _ 1 (by omega)] at hp1
    have hp1z := fun (o : Obj) => zax o hp1
    have hp2 := hcell 2 _ rfl
    (try simp only [show kStep.sz = 7 from rfl, Nat.mul_one, Nat.add_zero] at hp2)
    rw [zaA _ _ 2 (by omega)] at hp2
    have hp2z := fun (o : Obj) => zax o hp2
    have hp3 := hcell 3 _ rfl
    (try simp only [show kStep.sz = 7 from rfl, Nat.mul_one, Nat.add_zero] at hp3)
    rw [zaA _ _ 3 (by omega)] at hp3
    have hp3z := fun (o : Obj) => zax o hp3
    have hp4 := hcell 4 _ rfl
    (try simp only [show kStep.sz = 7 from rfl, Nat.mul_one, Nat.add_zero] at hp4)
    rw [zaA _ _ 4 (by omega)] at hp4
    have hp4z := fun (o : Obj) => zax o hp4
    have hp5 := hcell 5 _ rfl
    (try simp only [show kStep.sz = 7 from rfl, Nat.mul_one, Nat.add_zero] at hp5)
    rw [zaA _ _ 5 (by omega)] at hp5
    have hp5z := fun (o : Obj) => zax o hp5
    have hp6 := hcell 6 _ rfl
    (try simp only [show kStep.sz = 7 from rfl, Nat.mul_one, Nat.add_zero] at hp6)
    rw [zaA _ _ 6 (by omega)] at hp6
    have hp6z := fun (o : Obj) => zax o hp6
    obtain ⟨A1q, c1q, A6q, c6q, rfl, _⟩ := kStep_open hK20
    have hq0 := hcell2 0 _ rfl
    (try simp only [show kStep.sz = 7 from rfl, Nat.mul_one, Nat.add_zero] at hq0)
    have hq0z := fun (o : Obj) => zax o hq0
    have hq1 := hcell2 1 _ rfl
    (try simp only [show kStep.sz = 7 from rfl, Nat.mul_one, Nat.add_zero] at hq1)
    rw [zaA _ _ 1 (by omega)] at hq1
    have hq1z := fun (o : Obj) => zax o hq1
    have hq2 := hcell2 2 _ rfl
    (try simp only [show kStep.sz = 7 from rfl, Nat.mul_one, Nat.add_zero] at hq2)
    rw [zaA _ _ 2 (by omega)] at hq2
    have hq2z := fun (o : Obj) => zax o hq2
    have hq3 := hcell2 3 _ rfl
    (try simp only [show kStep.sz = 7 from rfl, Nat.mul_one, Nat.add_zero] at hq3)
    rw [zaA _ _ 3 (by omega)] at hq3
    have hq3z := fun (o : Obj) => zax o hq3
    have hq4 := hcell2 4 _ rfl
    (try simp only [show kStep.sz = 7 from rfl, Nat.mul_one, Nat.add_zero] at hq4)
    rw [zaA _ _ 4 (by omega)] at hq4
    have hq4z := fun (o : Obj) => zax o hq4
    have hq5 := hcell2 5 _ rfl
    (try simp only [show kStep.sz = 7 from rfl, Nat.mul_one, Nat.add_zero] at hq5)
    rw [zaA _ _ 5 (by omega)] at hq5
    have hq5z := fun (o : Obj) => zax o hq5
    have hq6 := hcell2 6 _ rfl
    (try simp only [show kStep.sz = 7 from rfl, Nat.mul_one, Nat.add_zero] at hq6)
    rw [zaA _ _ 6 (by omega)] at hq6
    have hq6z := fun (o : Obj) => zax o hq6
    have hcall := Aside0.mk (fun (W : World) (hW : Below wr.heap.size wr W) => HP.out x y _ _ W (zah HK.out.2.2 hW) (kStep.K_below hW hK) (kStep.K_below hW hK2))
    clear hcell hK hl hcell2 hK2 hl2 hK0 hK20
    cases hp : p x y with
    | true =>
     rw [hp] at hcall
     have HQ := Aside0.mk hp; clear hp
     go_wp2_with (go_at_fn g; refine (hcall.out _ (zaa (zaa (Below.refl _ _) _) _)).mono ?_; rintro e w1 ⟨rfl, hb1⟩)
     have hb2 := zah HK.out.2.2 (zah (zaa (zaa (Below.refl _ _) _) _) hb1)
     go_roundw
     case rel => exact ⟨k + 1, by go_num, by omega, all_next HK.out.2.1 (by rw [HX.out, HY.out]; exact HQ.out), hb2⟩
     case measure => simp [intOf]; omega
    | false =>
     rw [hp] at hcall
     have HQ := Aside0.mk hp; clear hp
     go_wp2_with (go_at_fn g; refine (hcall.out _ (zaa (zaa (Below.refl _ _) _) _)).mono ?_; rintro e w1 ⟨rfl, hb1⟩)
     go_ret
     exact ⟨by rw [eqf_hit k hlt (by rw [HX.out, HY.out]; exact HQ.out)]; rfl, zah HK.out.2.2 (zah (zaa (zaa (Below.refl _ _) _) _) hb1)⟩
   ·have hlt2 : ¬ k < l1.length := by have := HLEN.out; omega
    go_wp2
    go_ret
    exact ⟨by rw [eqf_all HLEN.out (fun i hi => HK.out.2.1 i (by omega))]; rfl, HK.out.2.2⟩
 ·have HE := Aside0.mk (eqf_len (p := p) (z := zbm) hlen)
  go_enter Try.func27, Try.ntmps27
  go_wp2
  go_ret
  exact ⟨by rw [HE.out]; rfl, Below.refl _ _⟩
theorem alike_told (w : World) : Tells2 Try.prog kStep 28 #[] eqSt w := by
 intro x y cs ds W _ hx hy
 obtain ⟨A1, c1, A6, c6, rfl, hl1, hi1, hl6, hi6⟩ := kStep_open hx
 obtain ⟨B1, d1, B6, d6, rfl, hm1, hj1, hm6, hj6⟩ := kStep_open hy
 refine (query_alike.calls (max x.f1.length x.f6.length + 1) x.f0 A1 c1 x.f1 x.f2 x.f3 x.f4 x.f5 A6 c6 x.f6 y.f0 B1 d1 y.f1 y.f2 y.f3 y.f4 y.f5 B6 d6 y.f6 (eqSt x y) W hi1 hl1 hi6 hl6 hj1 hm1 hj6 hm6 ?_).mono fun e w' ⟨h1, h2⟩ => ⟨h1, by first | exact h2 | exact h2.below⟩
 exact alike_is x y (by omega) (by omega) hi1.2.1 hi6.2.1
set_option maxHeartbeats 1000000 in
set_option maxRecDepth 100000 in
theorem sameQ_told (p q : SQuery) (A0 : Option Addr) (c0 : Nat) (A1 : Option Addr) (c1 : Nat) (w : World) (hr0 : Kd.C kStep w A0 p.f0.length p.f0) (hc0 : p.f0.length ≤ c0) (hr1 : Kd.C kStep w A1 q.f0.length q.f0) (hc1 : q.f0.length ≤ c1) {b : Bool} (hb : eqQ p q = b) :
  Calls Try.prog 13 #[.agg #[.slice A0 p.f0.length c0, .int .i64 p.f1, .int .i64 p.f2, .int .i64 p.f3, .int .i64 p.f4], .agg #[.slice A1 q.f0.length c1, .int .i64 q.f1, .int .i64 q.f2, .int .i64 q.f3, .int .i64 q.f4]] w (za2 b w) := by
 have HB0 := Aside0.mk (zaa (zaa (Below.refl w.heap.size w) (.cells #[.slice A0 p.f0.length c0, .int .i64 p.f1, .int .i64 p.f2, .int .i64 p.f3, .int .i64 p.f4] 24)) (.cells #[.slice A1 q.f0.length c1, .int .i64 q.f1, .int .i64 q.f2, .int .i64 q.f3, .int .i64 q.f4] 24))
 have HCE := Aside0.mk (slices_EqualFunc_api_Step.told 28 #[] eqSt A0 c0 p.f0 A1 c1 q.f0 _ (enters_of Try.func28 (by kernel_rfl) rfl) (alike_told _) (Kd.C_below hr0 HB0.out) hc0 (Kd.C_below hr1 HB0.out) hc1)
 unfold eqQ at hb
 obtain ⟨e, he⟩ : ∃ e, eqf eqSt zbm p.f0 q.f0 = e := ⟨_, rfl⟩
 rw [he] at hb HCE
 clear hr0 hr1 he
 cases h2 : (p.f2 == q.f2) <;> cases h3 : (p.f3 == q.f3) <;> cases h4 : (p.f4 == q.f4) <;> cases h1 : (p.f1 == q.f1)
 all_goals
  rw [h2, h3, h4, h1] at hb
  simp only [Bool.false_and, Bool.true_and] at hb
  subst hb
 all_goals first
  | (go_enter Try.func13, Try.ntmps13; go_wp2_with (go_at_call 27; refine HCE.out.mono ?_; rintro e w1 ⟨rfl, hb1⟩); go_ret; first | exact ⟨rfl, HB0.out⟩ | exact ⟨rfl, zah HB0.out hb1⟩)
def towncrierlaw09_One.f  : Option ((List (SStep)) × Int × Int × Int × Int) := some ((([(⟨(⟨#[97]⟩ : ByteArray), ([] : List (SOp)), 1, 1, false, (⟨#[]⟩ : ByteArray), ([] : List (SOp))⟩ : SStep)] : List (SStep))), 0, 0, 0, 0)
set_option maxHeartbeats 8000000 in
set_option maxRecDepth 100000 in
theorem towncrierlaw09_One.calls  (r1 : List (SStep)) (r2 : Int) (r3 : Int) (r4 : Int) (r5 : Int) (w : World) (h : towncrierlaw09_One.f  = some (r1, r2, r3, r4, r5)) :
  Calls Try.prog 19 #[] w fun e w' => ∃ v0_ : Value, e = .returned (.agg #[v0_, .int .i64 r2, .int .i64 r3, .int .i64 r4, .int .i64 r5]) ∧ Kd.S kStep 40 w' w.heap.size (fun _ => True) v0_ r1 ∧ Below w.heap.size w w' := by
 have hu24 := Try.underlying24
 have hu40 := Try.underlying40
 have HB := Aside0.mk (Below.refl w.heap.size w)
 have H : (some ((([(⟨(⟨#[97]⟩ : ByteArray), ([] : List (SOp)), 1, 1, false, (⟨#[]⟩ : ByteArray), ([] : List (SOp))⟩ : SStep)] : List (SStep))), 0, 0, 0, 0)) = some (r1, r2, r3, r4, r5) := h
 clear h
 obtain ⟨y187, hy187⟩ : ∃ y_ : List (SStep), y_ = (([(⟨(⟨#[97]⟩ : ByteArray), ([] : List (SOp)), 1, 1, false, (⟨#[]⟩ : ByteArray), ([] : List (SOp))⟩ : SStep)] : List (SStep))) := ⟨_, rfl⟩
 replace H : (some (y187, 0, 0, 0, 0)) = some (r1, r2, r3, r4, r5) := by first | (rw [hy187]; with_reducible exact H) | (have H2_ := (Option.bind_some _ _).symm.trans H; rw [hy187]; with_reducible exact H2_) | (have H2_ := (Option.bind_some _ _).symm.trans H; with_reducible exact H2_) | with_reducible exact H | (rw [hy187]; exact H) | exact H
 have Ny187 := Aside0.mk hy187
 clear hy187
 simp only [Option.some.injEq, Prod.mk.injEq] at H
 obtain ⟨rfl, rfl, rfl, rfl, rfl⟩ := H
 go_enter Try.func19, Try.ntmps19
 go_wp2_with (first | ((with_reducible refine zat (N := 0) rfl ?_); refine zar ?hg (N := 0) ?hd (cs := #[.slice none 0 0, .int .i64 0, .int .i64 0, .int .i64 0, .int .i64 0]) (t := 24) ?hr ?_; (case hd => rfl); (case hg => rfl); (case hr => first | (go_simp; done) | (go_simp; rfl)); intro gb186 hg w1 hbox hb; have n0_ := Aside0.mk (zah (by repeat (first | (with_reducible first | exact HB.out | apply zaa | apply zac | apply zae) | exact HB.out)) hb); have n1_ := Aside0.mk (hbox); have n2_ := Aside0.mk ((by rw [hg]; exact (zan (by repeat (first | (with_reducible first | exact HB.out | apply zaa | apply zac | apply zae) | exact HB.out))) : w.heap.size ≤ gb186)); have n3_ := Aside0.mk ((by rw [hg]; exact (zan (by repeat (first | (with_reducible first | exact HB.out | apply zaa | apply zac | apply zae) | exact HB.out))) : w.heap.size ≤ gb186)); clear HB; have HB := n0_; have BK186 := n1_; have GW186 := n2_; have GE186 := n3_; clear n0_ n1_ n2_ n3_; clear hb hbox hg) | ((with_reducible refine zat (N := 2) rfl ?_); refine Kd.S_lit kStep _ 40 ?hg (N := 2) ?hd (xs := ([(⟨(⟨#[97]⟩ : ByteArray), ([] : List (SOp)), 1, 1, false, (⟨#[]⟩ : ByteArray), ([] : List (SOp))⟩ : SStep)] : List (SStep))) (inner := [.string (⟨#[97]⟩ : ByteArray), .slice none 0 0, .int .i64 1, .int .i64 1, .bool false, .string (⟨#[]⟩ : ByteArray), .slice none 0 0]) (ok := fun _ => True) (okp := fun _ => True) ?hr ?hp (fun _ hk => hk) trivial (Below.refl _ _) (Nat.le_refl _) (by simp) ?_; (case hd => rfl); (case hg => rfl); (case hr => first | (go_simp; done) | (go_simp; rfl)); (case hp => exact (Reps.c7 (show Kd.M kStep _ _ _ (⟨(⟨#[97]⟩ : ByteArray), ([] : List (SOp)), 1, 1, false, (⟨#[]⟩ : ByteArray), ([] : List (SOp))⟩ : SStep) [.string (⟨#[97]⟩ : ByteArray), .slice none 0 0, .int .i64 1, .int .i64 1, .bool false, .string (⟨#[]⟩ : ByteArray), .slice none 0 0] from (kStep_mkM _ _ _ (⟨(⟨#[97]⟩ : ByteArray), ([] : List (SOp)), 1, 1, false, (⟨#[]⟩ : ByteArray), ([] : List (SOp))⟩ : SStep) (Kd.R_nil _ _ _ _ _) (Kd.R_nil _ _ _ _ _))) (Reps.none _ _))); intro v188 w2 ho3 hb hg_ hnew_; clear hg_ hnew_; (first | rw [← Ny187.out] at ho3 | (simp only [Int.reduceToNat] at ho3; rw [← Ny187.out] at ho3)); have n0_ := Aside0.mk (Kd.S_lower ho3 (zan (by repeat (first | (with_reducible first | exact HB.out | apply zaa | apply zac | apply zae | refine zaf ?_ GE186.out) | exact HB.out)))); have n1_ := Aside0.mk (zak (g := gb186) (o := .cells #[.slice none 0 0, .int .i64 0, .int .i64 0, .int .i64 0, .int .i64 0] 24 (0, 0)) (by (with_reducible repeat (first | refine zai ?_ _ | refine zaj ?_ | refine zag ?_ _)); exact BK186.out) hb); have n2_ := Aside0.mk (zah (by repeat (first | (with_reducible first | exact HB.out | apply zaa | apply zac | apply zae | refine zaf ?_ GE186.out) | exact HB.out)) hb); clear BK186; clear HB; have HO189 := n0_; have BK186 := n1_; have HB := n2_; clear n0_ n1_ n2_; clear hb ho3; obtain ⟨Ao4, co4, eo4⟩ := Kd.S_slice HO189.out; subst eo4; have hcz5_0 : w2.cell? ⟨gb186, 0, none⟩ = some (.slice none 0 0) := (zad BK186.out 0).trans rfl; have hcz5_1 : w2.cell? ⟨gb186, 1, none⟩ = some (.int .i64 0) := (zad BK186.out 1).trans rfl; have hcz5_2 : w2.cell? ⟨gb186, 2, none⟩ = some (.int .i64 0) := (zad BK186.out 2).trans rfl; have hcz5_3 : w2.cell? ⟨gb186, 3, none⟩ = some (.int .i64 0) := (zad BK186.out 3).trans rfl; have hcz5_4 : w2.cell? ⟨gb186, 4, none⟩ = some (.int .i64 0) := (zad BK186.out 4).trans rfl; have hfz5_0 := zab BK186.out 0; have hfz5_1 := zab BK186.out 1; have hfz5_2 := zab BK186.out 2; have hfz5_3 := zab BK186.out 3; have hfz5_4 := zab BK186.out 4))
 refine bodyPost_ret (results_cell_row rfl _ _ gb186 24 #[.slice Ao4 y187.length co4, .int .i64 0, .int .i64 0, .int .i64 0, .int .i64 0] (0, 0) _ rfl (by (with_reducible repeat (first | refine zai ?_ _ | refine zaj ?_ | refine zag ?_ _)); refine zas (cs := #[.slice Ao4 y187.length co4, .int .i64 0, .int .i64 0, .int .i64 0, .int .i64 0]) ?_ 4 _ rfl; (with_reducible repeat (first | refine zai ?_ _ | refine zaj ?_ | refine zag ?_ _)); refine zas (cs := #[.slice Ao4 y187.length co4, .int .i64 0, .int .i64 0, .int .i64 0, .int .i64 0]) ?_ 3 _ rfl; (with_reducible repeat (first | refine zai ?_ _ | refine zaj ?_ | refine zag ?_ _)); refine zas (cs := #[.slice Ao4 y187.length co4, .int .i64 0, .int .i64 0, .int .i64 0, .int .i64 0]) ?_ 2 _ rfl; (with_reducible repeat (first | refine zai ?_ _ | refine zaj ?_ | refine zag ?_ _)); refine zas (cs := #[.slice Ao4 y187.length co4, .int .i64 0, .int .i64 0, .int .i64 0, .int .i64 0]) ?_ 1 _ rfl; (with_reducible repeat (first | refine zai ?_ _ | refine zaj ?_ | refine zag ?_ _)); refine zas (cs := #[.slice none 0 0, .int .i64 0, .int .i64 0, .int .i64 0, .int .i64 0]) ?_ 0 _ rfl; (with_reducible repeat (first | refine zai ?_ _ | refine zaj ?_ | refine zag ?_ _)); exact BK186.out) Try.underlying24 rfl (by kernel_rfl)) rfl ?_
 exact ⟨_, by first | rfl | (simp [zap, zao] <;> rfl) | (simp [*, zap, zao] <;> rfl), by (with_reducible repeat (first | apply Kd.S_alloc | apply Kd.S_drewN | apply Kd.S_drew)); exact Kd.S_mono (Kd.S_far (p := ⟨gb186, 4, none⟩) (Kd.S_far (p := ⟨gb186, 3, none⟩) (Kd.S_far (p := ⟨gb186, 2, none⟩) (Kd.S_far (p := ⟨gb186, 1, none⟩) (Kd.S_far (p := ⟨gb186, 0, none⟩) (Kd.S_types HO189.out BK186.out (by decide)) (fun _ hk => hk.2) (.slice Ao4 y187.length co4)) (fun _ hk => hk.2) (.int .i64 0)) (fun _ hk => hk.2) (.int .i64 0)) (fun _ hk => hk.2) (.int .i64 0)) (fun _ hk => hk.2) (.int .i64 0)) (fun _ hk => trivial), by repeat (first | (with_reducible first | exact HB.out | apply zaa | apply zac | apply zae | refine zaf ?_ GE186.out) | exact HB.out)⟩
def towncrierlaw09_Few.l0 : Nat → Int → List (SStep) → Int → Int → Int → Int → Option (Bool)
 | 0, _, _, _, _, _, _ => none
 | k + 1, x3, x199000, x199001, x199002, x199003, x199004 => if x3 < (x199000.length : Int) then (if 0 ≤ x3 then ((towncrierlaw08_Few.f k ((zam x199000 x3).f1)).bind fun t201 => ((towncrierlaw08_Few.f k ((zam x199000 x3).f6)).bind fun t202 => (if t201 = true then (if t202 = true then (if (((zam x199000 x3).f0).size : Int) > 60 then (some false) else (if (((zam x199000 x3).f5).size : Int) > 60 then (some false) else (towncrierlaw09_Few.l0 k (wrap64 (x3 + 1)) x199000 x199001 x199002 x199003 x199004))) else (some false)) else (some false)))) else (none)) else (some true)
def towncrierlaw09_Few.f (k : Nat) (l0_0 : List (SStep)) (a0_1 : Int) (a0_2 : Int) (a0_3 : Int) (a0_4 : Int) : Option (Bool) := if (l0_0.length : Int) > 8 then (some false) else (towncrierlaw09_Few.l0 k 0 l0_0 a0_1 a0_2 a0_3 a0_4)
end Go.Proofs.Ytooemobolfoefaa.P



namespace Go.Proofs.Ytooemobolfoefaa.P
open Go.RowKit Go.Proofs.YtooemobolfoefaaW.PrintWords Go.Proofs.YtooemobolfoefaaW.PrintLast Go.Proofs.YtooemobolfoefaaW.PrintMore
attribute [local go_sem] za1 zaZ zbb zba zaU zaT za0 zaY   -- for this text's walks alone
set_option linter.unusedVariables false
set_option linter.unusedSimpArgs false
set_option maxHeartbeats 8000000 in
set_option maxRecDepth 100000 in
theorem towncrierlaw09_Few.calls (k : Nat) (A0_0 : Option Addr) (c0_0 : Nat) (l0_0 : List (SStep)) (a0_1 : Int) (a0_2 : Int) (a0_3 : Int) (a0_4 : Int) (r : Bool) (w : World) (hr0_0 : Kd.C kStep w A0_0 l0_0.length l0_0) (hc0_0 : l0_0.length ≤ c0_0) (h : towncrierlaw09_Few.f k l0_0 a0_1 a0_2 a0_3 a0_4 = some r) :
  Calls Try.prog 10 #[.agg #[.slice A0_0 l0_0.length c0_0, .int .i64 a0_1, .int .i64 a0_2, .int .i64 a0_3, .int .i64 a0_4]] w fun e w' => e = .returned (.bool r) ∧ Below w.heap.size w w' := by
 have hu24 := Try.underlying24
 have hu40 := Try.underlying40
 have HR0_0 := Aside0.mk hr0_0
 have HC0_0 := Aside0.mk hc0_0
 clear hr0_0 hc0_0
 have HB := Aside0.mk (Below.refl w.heap.size w)
 have H : (if (l0_0.length : Int) > 8 then (some false) else (towncrierlaw09_Few.l0 k 0 l0_0 a0_1 a0_2 a0_3 a0_4)) = some r := h
 clear h
 by_cases c2 : (l0_0.length : Int) > 8
 ·rw [if_pos c2] at H
  have c2b0 : decide (8 < (l0_0.length : Int)) = true := decide_eq_true c2
  have c2b1 : decide (8 < l0_0.length) = true := decide_eq_true (by omega)
  clear c2
  obtain rfl := Option.some.inj H
  go_enter Try.func10, Try.ntmps10
  go_wp2_with (first | ((with_reducible refine zat (N := 1) rfl ?_); (try (refine zaC (by rfl) ?_; dsimp only)); refine zar ?hg (N := 1) ?hd (cs := #[.slice A0_0 l0_0.length c0_0, .int .i64 a0_1, .int .i64 a0_2, .int .i64 a0_3, .int .i64 a0_4]) (t := 24) ?hr ?_; (case hd => rfl); (case hg => rfl); (case hr => first | (go_simp; done) | (go_simp; rfl)); intro gb198 hg w3 hbox hb; have n0_ := Aside0.mk (zah (by repeat (first | (with_reducible first | exact HB.out | apply zaa | apply zac | apply zae) | exact HB.out)) hb); have n1_ := Aside0.mk (hbox); have n2_ := Aside0.mk ((by rw [hg]; exact (zan (by repeat (first | (with_reducible first | exact HB.out | apply zaa | apply zac | apply zae) | exact HB.out))) : w.heap.size ≤ gb198)); have n3_ := Aside0.mk ((by rw [hg]; exact (zan (by repeat (first | (with_reducible first | exact HB.out | apply zaa | apply zac | apply zae) | exact HB.out))) : w.heap.size ≤ gb198)); clear HB; have HB := n0_; have BK198 := n1_; have GW198 := n2_; have GE198 := n3_; clear n0_ n1_ n2_ n3_; clear hb hbox hg; have hcz4_0 : w3.cell? ⟨gb198, 0, none⟩ = some (.slice A0_0 l0_0.length c0_0) := (zad BK198.out 0).trans rfl; have hcz4_1 : w3.cell? ⟨gb198, 1, none⟩ = some (.int .i64 a0_1) := (zad BK198.out 1).trans rfl; have hcz4_2 : w3.cell? ⟨gb198, 2, none⟩ = some (.int .i64 a0_2) := (zad BK198.out 2).trans rfl; have hcz4_3 : w3.cell? ⟨gb198, 3, none⟩ = some (.int .i64 a0_3) := (zad BK198.out 3).trans rfl; have hcz4_4 : w3.cell? ⟨gb198, 4, none⟩ = some (.int .i64 a0_4) := (zad BK198.out 4).trans rfl; have hfz4_0 := zab BK198.out 0; have hfz4_1 := zab BK198.out 1; have hfz4_2 := zab BK198.out 2; have hfz4_3 := zab BK198.out 3; have hfz4_4 := zab BK198.out 4))
  go_ret
  exact ⟨by first | rfl | (simp [zap, zao] <;> rfl) | (simp [*, zap, zao] <;> rfl), by repeat (first | (with_reducible first | exact HB.out | apply zaa | apply zac | apply zae | refine zaf ?_ GE198.out) | exact HB.out)⟩
 ·rw [if_neg c2] at H
  have c2b0 : decide (8 < (l0_0.length : Int)) = false := decide_eq_false c2
  have c2b1 : decide (8 < l0_0.length) = false := decide_eq_false (by omega)
  clear c2
  have H' := Aside0.mk H
  clear H
  go_enter Try.func10, Try.ntmps10
  go_wp2_with (first | ((with_reducible refine zat (N := 1) rfl ?_); (try (refine zaC (by rfl) ?_; dsimp only)); refine zar ?hg (N := 1) ?hd (cs := #[.slice A0_0 l0_0.length c0_0, .int .i64 a0_1, .int .i64 a0_2, .int .i64 a0_3, .int .i64 a0_4]) (t := 24) ?hr ?_; (case hd => rfl); (case hg => rfl); (case hr => first | (go_simp; done) | (go_simp; rfl)); intro gb198 hg w5 hbox hb; have n0_ := Aside0.mk (zah (by repeat (first | (with_reducible first | exact HB.out | apply zaa | apply zac | apply zae) | exact HB.out)) hb); have n1_ := Aside0.mk (hbox); have n2_ := Aside0.mk ((by rw [hg]; exact (zan (by repeat (first | (with_reducible first | exact HB.out | apply zaa | apply zac | apply zae) | exact HB.out))) : w.heap.size ≤ gb198)); have n3_ := Aside0.mk ((by rw [hg]; exact (zan (by repeat (first | (with_reducible first | exact HB.out | apply zaa | apply zac | apply zae) | exact HB.out))) : w.heap.size ≤ gb198)); clear HB; have HB := n0_; have BK198 := n1_; have GW198 := n2_; have GE198 := n3_; clear n0_ n1_ n2_ n3_; clear hb hbox hg; have hcz6_0 : w5.cell? ⟨gb198, 0, none⟩ = some (.slice A0_0 l0_0.length c0_0) := (zad BK198.out 0).trans rfl; have hcz6_1 : w5.cell? ⟨gb198, 1, none⟩ = some (.int .i64 a0_1) := (zad BK198.out 1).trans rfl; have hcz6_2 : w5.cell? ⟨gb198, 2, none⟩ = some (.int .i64 a0_2) := (zad BK198.out 2).trans rfl; have hcz6_3 : w5.cell? ⟨gb198, 3, none⟩ = some (.int .i64 a0_3) := (zad BK198.out 3).trans rfl; have hcz6_4 : w5.cell? ⟨gb198, 4, none⟩ = some (.int .i64 a0_4) := (zad BK198.out 4).trans rfl; have hfz6_0 := zab BK198.out 0; have hfz6_1 := zab BK198.out 1; have hfz6_2 := zab BK198.out 2; have hfz6_3 := zab BK198.out 3; have hfz6_4 := zab BK198.out 4))
  go_loopg [3] k (fun kq v3 w' => ∃ (x3_1 : Int), v3 = .int .i64 x3_1 ∧ Aside0 (towncrierlaw09_Few.l0 kq x3_1 l0_0 a0_1 a0_2 a0_3 a0_4 = some r) ∧ Aside0 (kq ≤ k) ∧ Aside0 (w'.heap[gb198]? = some (.cells #[(.slice A0_0 l0_0.length c0_0), .int .i64 a0_1, .int .i64 a0_2, .int .i64 a0_3, .int .i64 a0_4] 24 (0, 0))) ∧ Aside0 (Below w.heap.size w w'))
  case atStart => exact ⟨(0), (by first | rfl | (simp; done) | (simp [*]; done)), H', ⟨Nat.le_refl _⟩, ⟨by (with_reducible repeat (first | refine zai ?_ _ | refine zaj ?_ | refine zag ?_ _)); exact BK198.out⟩, ⟨by repeat (first | (with_reducible first | exact HB.out | apply zaa | apply zac | apply zae | refine zaf ?_ GE198.out) | exact HB.out)⟩⟩
  case round =>
   clear H'
   try clear c1
   try clear c2
   try clear c2b0
   try clear c2b1
   try clear p2
   try clear hcz4_0
   try clear hcz4_1
   try clear hcz4_2
   try clear hcz4_3
   try clear hcz4_4
   try clear hcz6_0
   try clear hcz6_1
   try clear hcz6_2
   try clear hcz6_3
   try clear hcz6_4
   try clear hfz4_0
   try clear hfz4_1
   try clear hfz4_2
   try clear hfz4_3
   try clear hfz4_4
   try clear hfz6_0
   try clear hfz6_1
   try clear hfz6_2
   try clear hfz6_3
   try clear hfz6_4
   obtain ⟨x3_1, rfl, HA, HK1, BK198, HB⟩ := hrel
   cases gk with
   | zero => exact absurd HA.out (by simp [towncrierlaw09_Few.l0])
   | succ k1 =>
    have H := HA.out
    clear HA
    simp only [towncrierlaw09_Few.l0] at H
    by_cases c7 : x3_1 < (l0_0.length : Int)
    ·rw [if_pos c7] at H
     have c7b0 : decide (x3_1 < (l0_0.length : Int)) = true := decide_eq_true c7
     clear c7
     by_cases c8 : 0 ≤ x3_1
     ·rw [if_pos c8] at H
      have c8b0 : decide (0 ≤ x3_1) = true := decide_eq_true c8
      clear c8
      replace H := Option.bind_eq_some_iff.mp H
      obtain ⟨t201, A90, H⟩ := H
      replace H : ((towncrierlaw08_Few.f k1 ((zam l0_0 x3_1).f6)).bind fun t202 => (if t201 = true then (if t202 = true then (if (((zam l0_0 x3_1).f0).size : Int) > 60 then (some false) else (if (((zam l0_0 x3_1).f5).size : Int) > 60 then (some false) else (towncrierlaw09_Few.l0 k1 (wrap64 (x3_1 + 1)) l0_0 a0_1 a0_2 a0_3 a0_4))) else (some false)) else (some false))) = some r := H
      have A9 := Aside0.mk A90
      clear A90
      replace H := Option.bind_eq_some_iff.mp H
      obtain ⟨t202, A100, H⟩ := H
      replace H : (if t201 = true then (if t202 = true then (if (((zam l0_0 x3_1).f0).size : Int) > 60 then (some false) else (if (((zam l0_0 x3_1).f5).size : Int) > 60 then (some false) else (towncrierlaw09_Few.l0 k1 (wrap64 (x3_1 + 1)) l0_0 a0_1 a0_2 a0_3 a0_4))) else (some false)) else (some false)) = some r := H
      have A10 := Aside0.mk A100
      clear A100
      by_cases c11 : t201 = true
      ·subst c11
       have H1 : (if t202 = true then (if (((zam l0_0 x3_1).f0).size : Int) > 60 then (some false) else (if (((zam l0_0 x3_1).f5).size : Int) > 60 then (some false) else (towncrierlaw09_Few.l0 k1 (wrap64 (x3_1 + 1)) l0_0 a0_1 a0_2 a0_3 a0_4))) else (some false)) = some r := by rw [if_pos rfl] at H; exact H
       clear H
       have H := H1
       clear H1
       by_cases c12 : t202 = true
       ·subst c12
        have H1 : (if (((zam l0_0 x3_1).f0).size : Int) > 60 then (some false) else (if (((zam l0_0 x3_1).f5).size : Int) > 60 then (some false) else (towncrierlaw09_Few.l0 k1 (wrap64 (x3_1 + 1)) l0_0 a0_1 a0_2 a0_3 a0_4))) = some r := by rw [if_pos rfl] at H; exact H
        clear H
        have H := H1
        clear H1
        by_cases c13 : (((zam l0_0 x3_1).f0).size : Int) > 60
        ·rw [if_pos c13] at H
         have c13b0 : decide (60 < (((zam l0_0 x3_1).f0).size : Int)) = true := decide_eq_true c13
         have c13b1 : decide (60 < ((zam l0_0 x3_1).f0).size) = true := decide_eq_true (by omega)
         clear c13
         obtain rfl := Option.some.inj H
         have hcz14_0 : wr.cell? ⟨gb198, 0, none⟩ = some (.slice A0_0 l0_0.length c0_0) := (zad BK198.out 0).trans rfl
         have hcz14_1 : wr.cell? ⟨gb198, 1, none⟩ = some (.int .i64 a0_1) := (zad BK198.out 1).trans rfl
         have hcz14_2 : wr.cell? ⟨gb198, 2, none⟩ = some (.int .i64 a0_2) := (zad BK198.out 2).trans rfl
         have hcz14_3 : wr.cell? ⟨gb198, 3, none⟩ = some (.int .i64 a0_3) := (zad BK198.out 3).trans rfl
         have hcz14_4 : wr.cell? ⟨gb198, 4, none⟩ = some (.int .i64 a0_4) := (zad BK198.out 4).trans rfl
         have hfz14_0 := zab BK198.out 0
         have hfz14_1 := zab BK198.out 1
         have hfz14_2 := zab BK198.out 2
         have hfz14_3 := zab BK198.out 3
         have hfz14_4 := zab BK198.out 4
         have p199 : 0 ≤ (x3_1 : Int) := of_decide_eq_true (by first | (with_reducible assumption) | assumption)
         have q199 : x3_1 < (l0_0.length : Int) := of_decide_eq_true (by first | (with_reducible assumption) | assumption)
         obtain ⟨ad199, A199_1, c199_1, A199_6, c199_6, e199, hx199_0, hx199_1, hx199_2, hx199_3, hx199_4, hx199_5, hx199_6, hl199_1, hi199_1, hl199_6, hi199_6⟩ := zbr HR0_0.out x3_1 p199 q199
         cases e199
         replace hx199_0 := (HB.out.cell (World.block_lt_of_cell? w _ hx199_0)).trans hx199_0
         replace hx199_1 := (HB.out.cell (World.block_lt_of_cell? w _ hx199_1)).trans hx199_1
         replace hx199_2 := (HB.out.cell (World.block_lt_of_cell? w _ hx199_2)).trans hx199_2
         replace hx199_3 := (HB.out.cell (World.block_lt_of_cell? w _ hx199_3)).trans hx199_3
         replace hx199_4 := (HB.out.cell (World.block_lt_of_cell? w _ hx199_4)).trans hx199_4
         replace hx199_5 := (HB.out.cell (World.block_lt_of_cell? w _ hx199_5)).trans hx199_5
         replace hx199_6 := (HB.out.cell (World.block_lt_of_cell? w _ hx199_6)).trans hx199_6
         have HR199_1 := Aside0.mk hi199_1
         have HC199_1 := Aside0.mk hl199_1
         clear hi199_1 hl199_1
         have HR199_6 := Aside0.mk hi199_6
         have HC199_6 := Aside0.mk hl199_6
         clear hi199_6 hl199_6
         replace p199 := eq_true p199
         replace q199 := eq_true q199
         go_wp2_with (first | ((with_reducible refine zat (N := 4) rfl ?_); (try (refine zaC (by rfl) ?_; dsimp only)); refine zar ?hg (N := 4) ?hd (cs := #[.string (⟨#[]⟩ : ByteArray), .slice none 0 0, .int .i64 0, .int .i64 0, .bool false, .string (⟨#[]⟩ : ByteArray), .slice none 0 0]) (t := 40) ?hr ?_; (case hd => rfl); (case hg => rfl); (case hr => first | (go_simp; done) | (go_simp; rfl)); intro gb200 hg w15 hbox hb; have n0_ := Aside0.mk (zak (g := gb198) (o := .cells #[.slice (some ad199) l0_0.length c0_0, .int .i64 a0_1, .int .i64 a0_2, .int .i64 a0_3, .int .i64 a0_4] 24 (0, 0)) (by (with_reducible repeat (first | refine zai ?_ _ | refine zaj ?_ | refine zag ?_ _)); exact BK198.out) hb); have n1_ := Aside0.mk (zah (by repeat (first | (with_reducible first | exact HB.out | apply zaa | apply zac | apply zae | refine zaf ?_ GE198.out) | exact HB.out)) hb); have n2_ := Aside0.mk (hbox); have n3_ := Aside0.mk ((by rw [hg]; exact (zan (by repeat (first | (with_reducible first | exact HB.out | apply zaa | apply zac | apply zae | refine zaf ?_ GE198.out) | exact HB.out))) : w.heap.size ≤ gb200)); have n4_ := Aside0.mk ((by rw [hg]; exact (zan (by repeat (first | (with_reducible first | exact HB.out | apply zaa | apply zac | apply zae | refine zaf ?_ GE198.out) | exact HB.out))) : w.heap.size ≤ gb200)); have n5_ := Aside0.mk ((by rw [hg]; exact Nat.ne_of_lt (zay (g := gb198) (o := .cells #[.slice (some ad199) l0_0.length c0_0, .int .i64 a0_1, .int .i64 a0_2, .int .i64 a0_3, .int .i64 a0_4] 24 (0, 0)) (by (with_reducible repeat (first | refine zai ?_ _ | refine zaj ?_ | refine zag ?_ _)); exact BK198.out)) : gb198 ≠ gb200)); have n6_ := Aside0.mk ((by rw [hg]; exact Nat.ne_of_gt (zay (g := gb198) (o := .cells #[.slice (some ad199) l0_0.length c0_0, .int .i64 a0_1, .int .i64 a0_2, .int .i64 a0_3, .int .i64 a0_4] 24 (0, 0)) (by (with_reducible repeat (first | refine zai ?_ _ | refine zaj ?_ | refine zag ?_ _)); exact BK198.out)) : gb200 ≠ gb198)); clear BK198; clear HB; have BK198 := n0_; have HB := n1_; have BK200 := n2_; have GW200 := n3_; have GE200 := n4_; have NB198_200 := n5_; have NB200_198 := n6_; clear n0_ n1_ n2_ n3_ n4_ n5_ n6_; clear hb hbox hg; have hnb16 := NB200_198.out; have hnc16 := NB198_200.out; have hcz17_0 : w15.cell? ⟨gb200, 0, none⟩ = some (.string (⟨#[]⟩ : ByteArray)) := (zad BK200.out 0).trans rfl; have hcz17_1 : w15.cell? ⟨gb200, 1, none⟩ = some (.slice none 0 0) := (zad BK200.out 1).trans rfl; have hcz17_2 : w15.cell? ⟨gb200, 2, none⟩ = some (.int .i64 0) := (zad BK200.out 2).trans rfl; have hcz17_3 : w15.cell? ⟨gb200, 3, none⟩ = some (.int .i64 0) := (zad BK200.out 3).trans rfl; have hcz17_4 : w15.cell? ⟨gb200, 4, none⟩ = some (.bool false) := (zad BK200.out 4).trans rfl; have hcz17_5 : w15.cell? ⟨gb200, 5, none⟩ = some (.string (⟨#[]⟩ : ByteArray)) := (zad BK200.out 5).trans rfl; have hcz17_6 : w15.cell? ⟨gb200, 6, none⟩ = some (.slice none 0 0) := (zad BK200.out 6).trans rfl; have hfz17_0 := zab BK200.out 0; have hfz17_1 := zab BK200.out 1; have hfz17_2 := zab BK200.out 2; have hfz17_3 := zab BK200.out 3; have hfz17_4 := zab BK200.out 4; have hfz17_5 := zab BK200.out 5; have hfz17_6 := zab BK200.out 6) | ((with_reducible refine zaq (f := 20) rfl ?_); refine zav (some 25) rfl rfl Try.func20 (by kernel_rfl) rfl #[.slice A199_1 ((zam l0_0 x3_1).f1).length c199_1] rfl (by (try simp only [List.map_toArray, List.map_cons, List.map_nil]); first | done | rfl | (simp only [List.length_drop, List.length_take]; rfl)) ?_; (with_reducible refine (towncrierlaw08_Few.calls k1 _ _ ((zam l0_0 x3_1).f1) true _ ?side1 ?side2 A9.out).mono ?_); (case side1 => exact Kd.C_below HR199_1.out (by repeat (first | (with_reducible first | exact HB.out | apply zaa | apply zac | apply zae | refine zaf ?_ GE198.out | refine zaf ?_ GE200.out) | exact HB.out))); (case side2 => exact HC199_1.out); rintro e w' ⟨rfl, ⟨nd, rfl⟩⟩; refine ⟨_, rfl, ?_⟩) | ((with_reducible refine zaq (f := 20) rfl ?_); refine zav (some 28) rfl rfl Try.func20 (by kernel_rfl) rfl #[.slice A199_6 ((zam l0_0 x3_1).f6).length c199_6] rfl (by (try simp only [List.map_toArray, List.map_cons, List.map_nil]); first | done | rfl | (simp only [List.length_drop, List.length_take]; rfl)) ?_; (with_reducible refine (towncrierlaw08_Few.calls k1 _ _ ((zam l0_0 x3_1).f6) true _ ?side1 ?side2 A10.out).mono ?_); (case side1 => exact Kd.C_below HR199_6.out (by repeat (first | (with_reducible first | exact HB.out | apply zaa | apply zac | apply zae | refine zaf ?_ GE198.out | refine zaf ?_ GE200.out) | exact HB.out))); (case side2 => exact HC199_6.out); rintro e w' ⟨rfl, ⟨nd, rfl⟩⟩; refine ⟨_, rfl, ?_⟩))
         go_ret
         exact ⟨by first | rfl | (simp [zap, zao] <;> rfl) | (simp [*, zap, zao] <;> rfl), by repeat (first | (with_reducible first | exact HB.out | apply zaa | apply zac | apply zae | refine zaf ?_ GE198.out | refine zaf ?_ GE200.out) | exact HB.out)⟩
        ·rw [if_neg c13] at H
         have c13b0 : decide (60 < (((zam l0_0 x3_1).f0).size : Int)) = false := decide_eq_false c13
         have c13b1 : decide (60 < ((zam l0_0 x3_1).f0).size) = false := decide_eq_false (by omega)
         clear c13
         by_cases c18 : (((zam l0_0 x3_1).f5).size : Int) > 60
         ·rw [if_pos c18] at H
          have c18b0 : decide (60 < (((zam l0_0 x3_1).f5).size : Int)) = true := decide_eq_true c18
          have c18b1 : decide (60 < ((zam l0_0 x3_1).f5).size) = true := decide_eq_true (by omega)
          clear c18
          obtain rfl := Option.some.inj H
          have hcz19_0 : wr.cell? ⟨gb198, 0, none⟩ = some (.slice A0_0 l0_0.length c0_0) := (zad BK198.out 0).trans rfl
          have hcz19_1 : wr.cell? ⟨gb198, 1, none⟩ = some (.int .i64 a0_1) := (zad BK198.out 1).trans rfl
          have hcz19_2 : wr.cell? ⟨gb198, 2, none⟩ = some (.int .i64 a0_2) := (zad BK198.out 2).trans rfl
          have hcz19_3 : wr.cell? ⟨gb198, 3, none⟩ = some (.int .i64 a0_3) := (zad BK198.out 3).trans rfl
          have hcz19_4 : wr.cell? ⟨gb198, 4, none⟩ = some (.int .i64 a0_4) := (zad BK198.out 4).trans rfl
          have hfz19_0 := zab BK198.out 0
          have hfz19_1 := zab BK198.out 1
          have hfz19_2 := zab BK198.out 2
          have hfz19_3 := zab BK198.out 3
          have hfz19_4 := zab BK198.out 4
          have p199 : 0 ≤ (x3_1 : Int) := of_decide_eq_true (by first | (with_reducible assumption) | assumption)
          have q199 : x3_1 < (l0_0.length : Int) := of_decide_eq_true (by first | (with_reducible assumption) | assumption)
          obtain ⟨ad199, A199_1, c199_1, A199_6, c199_6, e199, hx199_0, hx199_1, hx199_2, hx199_3, hx199_4, hx199_5, hx199_6, hl199_1, hi199_1, hl199_6, hi199_6⟩ := zbr HR0_0.out x3_1 p199 q199
          cases e199
          replace hx199_0 := (HB.out.cell (World.block_lt_of_cell? w _ hx199_0)).trans hx199_0
          replace hx199_1 := (HB.out.cell (World.block_lt_of_cell? w _ hx199_1)).trans hx199_1
          replace hx199_2 := (HB.out.cell (World.block_lt_of_cell? w _ hx199_2)).trans hx199_2
          replace hx199_3 := (HB.out.cell (World.block_lt_of_cell? w _ hx199_3)).trans hx199_3
          replace hx199_4 := (HB.out.cell (World.block_lt_of_cell? w _ hx199_4)).trans hx199_4
          replace hx199_5 := (HB.out.cell (World.block_lt_of_cell? w _ hx199_5)).trans hx199_5
          replace hx199_6 := (HB.out.cell (World.block_lt_of_cell? w _ hx199_6)).trans hx199_6
          have HR199_1 := Aside0.mk hi199_1
          have HC199_1 := Aside0.mk hl199_1
          clear hi199_1 hl199_1
          have HR199_6 := Aside0.mk hi199_6
          have HC199_6 := Aside0.mk hl199_6
          clear hi199_6 hl199_6
          replace p199 := eq_true p199
          replace q199 := eq_true q199
          go_wp2_with (first | ((with_reducible refine zat (N := 4) rfl ?_); (try (refine zaC (by rfl) ?_; dsimp only)); refine zar ?hg (N := 4) ?hd (cs := #[.string (⟨#[]⟩ : ByteArray), .slice none 0 0, .int .i64 0, .int .i64 0, .bool false, .string (⟨#[]⟩ : ByteArray), .slice none 0 0]) (t := 40) ?hr ?_; (case hd => rfl); (case hg => rfl); (case hr => first | (go_simp; done) | (go_simp; rfl)); intro gb200 hg w20 hbox hb; have n0_ := Aside0.mk (zak (g := gb198) (o := .cells #[.slice (some ad199) l0_0.length c0_0, .int .i64 a0_1, .int .i64 a0_2, .int .i64 a0_3, .int .i64 a0_4] 24 (0, 0)) (by (with_reducible repeat (first | refine zai ?_ _ | refine zaj ?_ | refine zag ?_ _)); exact BK198.out) hb); have n1_ := Aside0.mk (zah (by repeat (first | (with_reducible first | exact HB.out | apply zaa | apply zac | apply zae | refine zaf ?_ GE198.out) | exact HB.out)) hb); have n2_ := Aside0.mk (hbox); have n3_ := Aside0.mk ((by rw [hg]; exact (zan (by repeat (first | (with_reducible first | exact HB.out | apply zaa | apply zac | apply zae | refine zaf ?_ GE198.out) | exact HB.out))) : w.heap.size ≤ gb200)); have n4_ := Aside0.mk ((by rw [hg]; exact (zan (by repeat (first | (with_reducible first | exact HB.out | apply zaa | apply zac | apply zae | refine zaf ?_ GE198.out) | exact HB.out))) : w.heap.size ≤ gb200)); have n5_ := Aside0.mk ((by rw [hg]; exact Nat.ne_of_lt (zay (g := gb198) (o := .cells #[.slice (some ad199) l0_0.length c0_0, .int .i64 a0_1, .int .i64 a0_2, .int .i64 a0_3, .int .i64 a0_4] 24 (0, 0)) (by (with_reducible repeat (first | refine zai ?_ _ | refine zaj ?_ | refine zag ?_ _)); exact BK198.out)) : gb198 ≠ gb200)); have n6_ := Aside0.mk ((by rw [hg]; exact Nat.ne_of_gt (zay (g := gb198) (o := .cells #[.slice (some ad199) l0_0.length c0_0, .int .i64 a0_1, .int .i64 a0_2, .int .i64 a0_3, .int .i64 a0_4] 24 (0, 0)) (by (with_reducible repeat (first | refine zai ?_ _ | refine zaj ?_ | refine zag ?_ _)); exact BK198.out)) : gb200 ≠ gb198)); clear BK198; clear HB; have BK198 := n0_; have HB := n1_; have BK200 := n2_; have GW200 := n3_; have GE200 := n4_; have NB198_200 := n5_; have NB200_198 := n6_; clear n0_ n1_ n2_ n3_ n4_ n5_ n6_; clear hb hbox hg; have hnb21 := NB200_198.out; have hnc21 := NB198_200.out; have hcz22_0 : w20.cell? ⟨gb200, 0, none⟩ = some (.string (⟨#[]⟩ : ByteArray)) := (zad BK200.out 0).trans rfl; have hcz22_1 : w20.cell? ⟨gb200, 1, none⟩ = some (.slice none 0 0) := (zad BK200.out 1).trans rfl; have hcz22_2 : w20.cell? ⟨gb200, 2, none⟩ = some (.int .i64 0) := (zad BK200.out 2).trans rfl; have hcz22_3 : w20.cell? ⟨gb200, 3, none⟩ = some (.int .i64 0) := (zad BK200.out 3).trans rfl; have hcz22_4 : w20.cell? ⟨gb200, 4, none⟩ = some (.bool false) := (zad BK200.out 4).trans rfl; have hcz22_5 : w20.cell? ⟨gb200, 5, none⟩ = some (.string (⟨#[]⟩ : ByteArray)) := (zad BK200.out 5).trans rfl; have hcz22_6 : w20.cell? ⟨gb200, 6, none⟩ = some (.slice none 0 0) := (zad BK200.out 6).trans rfl; have hfz22_0 := zab BK200.out 0; have hfz22_1 := zab BK200.out 1; have hfz22_2 := zab BK200.out 2; have hfz22_3 := zab BK200.out 3; have hfz22_4 := zab BK200.out 4; have hfz22_5 := zab BK200.out 5; have hfz22_6 := zab BK200.out 6) | ((with_reducible refine zaq (f := 20) rfl ?_); refine zav (some 25) rfl rfl Try.func20 (by kernel_rfl) rfl #[.slice A199_1 ((zam l0_0 x3_1).f1).length c199_1] rfl (by (try simp only [List.map_toArray, List.map_cons, List.map_nil]); first | done | rfl | (simp only [List.length_drop, List.length_take]; rfl)) ?_; (with_reducible refine (towncrierlaw08_Few.calls k1 _ _ ((zam l0_0 x3_1).f1) true _ ?side1 ?side2 A9.out).mono ?_); (case side1 => exact Kd.C_below HR199_1.out (by repeat (first | (with_reducible first | exact HB.out | apply zaa | apply zac | apply zae | refine zaf ?_ GE198.out | refine zaf ?_ GE200.out) | exact HB.out))); (case side2 => exact HC199_1.out); rintro e w' ⟨rfl, ⟨nd, rfl⟩⟩; refine ⟨_, rfl, ?_⟩) | ((with_reducible refine zaq (f := 20) rfl ?_); refine zav (some 28) rfl rfl Try.func20 (by kernel_rfl) rfl #[.slice A199_6 ((zam l0_0 x3_1).f6).length c199_6] rfl (by (try simp only [List.map_toArray, List.map_cons, List.map_nil]); first | done | rfl | (simp only [List.length_drop, List.length_take]; rfl)) ?_; (with_reducible refine (towncrierlaw08_Few.calls k1 _ _ ((zam l0_0 x3_1).f6) true _ ?side1 ?side2 A10.out).mono ?_); (case side1 => exact Kd.C_below HR199_6.out (by repeat (first | (with_reducible first | exact HB.out | apply zaa | apply zac | apply zae | refine zaf ?_ GE198.out | refine zaf ?_ GE200.out) | exact HB.out))); (case side2 => exact HC199_6.out); rintro e w' ⟨rfl, ⟨nd, rfl⟩⟩; refine ⟨_, rfl, ?_⟩))
          go_ret
          exact ⟨by first | rfl | (simp [zap, zao] <;> rfl) | (simp [*, zap, zao] <;> rfl), by repeat (first | (with_reducible first | exact HB.out | apply zaa | apply zac | apply zae | refine zaf ?_ GE198.out | refine zaf ?_ GE200.out) | exact HB.out)⟩
         ·rw [if_neg c18] at H
          have c18b0 : decide (60 < (((zam l0_0 x3_1).f5).size : Int)) = false := decide_eq_false c18
          have c18b1 : decide (60 < ((zam l0_0 x3_1).f5).size) = false := decide_eq_false (by omega)
          clear c18
          have H' := Aside0.mk H
          clear H
          have hcz23_0 : wr.cell? ⟨gb198, 0, none⟩ = some (.slice A0_0 l0_0.length c0_0) := (zad BK198.out 0).trans rfl
          have hcz23_1 : wr.cell? ⟨gb198, 1, none⟩ = some (.int .i64 a0_1) := (zad BK198.out 1).trans rfl
          have hcz23_2 : wr.cell? ⟨gb198, 2, none⟩ = some (.int .i64 a0_2) := (zad BK198.out 2).trans rfl
          have hcz23_3 : wr.cell? ⟨gb198, 3, none⟩ = some (.int .i64 a0_3) := (zad BK198.out 3).trans rfl
          have hcz23_4 : wr.cell? ⟨gb198, 4, none⟩ = some (.int .i64 a0_4) := (zad BK198.out 4).trans rfl
          have hfz23_0 := zab BK198.out 0
          have hfz23_1 := zab BK198.out 1
          have hfz23_2 := zab BK198.out 2
          have hfz23_3 := zab BK198.out 3
          have hfz23_4 := zab BK198.out 4
          have p199 : 0 ≤ (x3_1 : Int) := of_decide_eq_true (by first | (with_reducible assumption) | assumption)
          have q199 : x3_1 < (l0_0.length : Int) := of_decide_eq_true (by first | (with_reducible assumption) | assumption)
          obtain ⟨ad199, A199_1, c199_1, A199_6, c199_6, e199, hx199_0, hx199_1, hx199_2, hx199_3, hx199_4, hx199_5, hx199_6, hl199_1, hi199_1, hl199_6, hi199_6⟩ := zbr HR0_0.out x3_1 p199 q199
          cases e199
          replace hx199_0 := (HB.out.cell (World.block_lt_of_cell? w _ hx199_0)).trans hx199_0
          replace hx199_1 := (HB.out.cell (World.block_lt_of_cell? w _ hx199_1)).trans hx199_1
          replace hx199_2 := (HB.out.cell (World.block_lt_of_cell? w _ hx199_2)).trans hx199_2
          replace hx199_3 := (HB.out.cell (World.block_lt_of_cell? w _ hx199_3)).trans hx199_3
          replace hx199_4 := (HB.out.cell (World.block_lt_of_cell? w _ hx199_4)).trans hx199_4
          replace hx199_5 := (HB.out.cell (World.block_lt_of_cell? w _ hx199_5)).trans hx199_5
          replace hx199_6 := (HB.out.cell (World.block_lt_of_cell? w _ hx199_6)).trans hx199_6
          have HR199_1 := Aside0.mk hi199_1
          have HC199_1 := Aside0.mk hl199_1
          clear hi199_1 hl199_1
          have HR199_6 := Aside0.mk hi199_6
          have HC199_6 := Aside0.mk hl199_6
          clear hi199_6 hl199_6
          replace p199 := eq_true p199
          replace q199 := eq_true q199
          go_wp2_with (first | ((with_reducible refine zat (N := 4) rfl ?_); (try (refine zaC (by rfl) ?_; dsimp only)); refine zar ?hg (N := 4) ?hd (cs := #[.string (⟨#[]⟩ : ByteArray), .slice none 0 0, .int .i64 0, .int .i64 0, .bool false, .string (⟨#[]⟩ : ByteArray), .slice none 0 0]) (t := 40) ?hr ?_; (case hd => rfl); (case hg => rfl); (case hr => first | (go_simp; done) | (go_simp; rfl)); intro gb200 hg w24 hbox hb; have n0_ := Aside0.mk (zak (g := gb198) (o := .cells #[.slice (some ad199) l0_0.length c0_0, .int .i64 a0_1, .int .i64 a0_2, .int .i64 a0_3, .int .i64 a0_4] 24 (0, 0)) (by (with_reducible repeat (first | refine zai ?_ _ | refine zaj ?_ | refine zag ?_ _)); exact BK198.out) hb); have n1_ := Aside0.mk (zah (by repeat (first | (with_reducible first | exact HB.out | apply zaa | apply zac | apply zae | refine zaf ?_ GE198.out) | exact HB.out)) hb); have n2_ := Aside0.mk (hbox); have n3_ := Aside0.mk ((by rw [hg]; exact (zan (by repeat (first | (with_reducible first | exact HB.out | apply zaa | apply zac | apply zae | refine zaf ?_ GE198.out) | exact HB.out))) : w.heap.size ≤ gb200)); have n4_ := Aside0.mk ((by rw [hg]; exact (zan (by repeat (first | (with_reducible first | exact HB.out | apply zaa | apply zac | apply zae | refine zaf ?_ GE198.out) | exact HB.out))) : w.heap.size ≤ gb200)); have n5_ := Aside0.mk ((by rw [hg]; exact Nat.ne_of_lt (zay (g := gb198) (o := .cells #[.slice (some ad199) l0_0.length c0_0, .int .i64 a0_1, .int .i64 a0_2, .int .i64 a0_3, .int .i64 a0_4] 24 (0, 0)) (by (with_reducible repeat (first | refine zai ?_ _ | refine zaj ?_ | refine zag ?_ _)); exact BK198.out)) : gb198 ≠ gb200)); have n6_ := Aside0.mk ((by rw [hg]; exact Nat.ne_of_gt (zay (g := gb198) (o := .cells #[.slice (some ad199) l0_0.length c0_0, .int .i64 a0_1, .int .i64 a0_2, .int .i64 a0_3, .int .i64 a0_4] 24 (0, 0)) (by (with_reducible repeat (first | refine zai ?_ _ | refine zaj ?_ | refine zag ?_ _)); exact BK198.out)) : gb200 ≠ gb198)); clear BK198; clear HB; have BK198 := n0_; have HB := n1_; have BK200 := n2_; have GW200 := n3_; have GE200 := n4_; have NB198_200 := n5_; have NB200_198 := n6_; clear n0_ n1_ n2_ n3_ n4_ n5_ n6_; clear hb hbox hg; have hnb25 := NB200_198.out; have hnc25 := NB198_200.out; have hcz26_0 : w24.cell? ⟨gb200, 0, none⟩ = some (.string (⟨#[]⟩ : ByteArray)) := (zad BK200.out 0).trans rfl; have hcz26_1 : w24.cell? ⟨gb200, 1, none⟩ = some (.slice none 0 0) := (zad BK200.out 1).trans rfl; have hcz26_2 : w24.cell? ⟨gb200, 2, none⟩ = some (.int .i64 0) := (zad BK200.out 2).trans rfl; have hcz26_3 : w24.cell? ⟨gb200, 3, none⟩ = some (.int .i64 0) := (zad BK200.out 3).trans rfl; have hcz26_4 : w24.cell? ⟨gb200, 4, none⟩ = some (.bool false) := (zad BK200.out 4).trans rfl; have hcz26_5 : w24.cell? ⟨gb200, 5, none⟩ = some (.string (⟨#[]⟩ : ByteArray)) := (zad BK200.out 5).trans rfl; have hcz26_6 : w24.cell? ⟨gb200, 6, none⟩ = some (.slice none 0 0) := (zad BK200.out 6).trans rfl; have hfz26_0 := zab BK200.out 0; have hfz26_1 := zab BK200.out 1; have hfz26_2 := zab BK200.out 2; have hfz26_3 := zab BK200.out 3; have hfz26_4 := zab BK200.out 4; have hfz26_5 := zab BK200.out 5; have hfz26_6 := zab BK200.out 6) | ((with_reducible refine zaq (f := 20) rfl ?_); refine zav (some 25) rfl rfl Try.func20 (by kernel_rfl) rfl #[.slice A199_1 ((zam l0_0 x3_1).f1).length c199_1] rfl (by (try simp only [List.map_toArray, List.map_cons, List.map_nil]); first | done | rfl | (simp only [List.length_drop, List.length_take]; rfl)) ?_; (with_reducible refine (towncrierlaw08_Few.calls k1 _ _ ((zam l0_0 x3_1).f1) true _ ?side1 ?side2 A9.out).mono ?_); (case side1 => exact Kd.C_below HR199_1.out (by repeat (first | (with_reducible first | exact HB.out | apply zaa | apply zac | apply zae | refine zaf ?_ GE198.out | refine zaf ?_ GE200.out) | exact HB.out))); (case side2 => exact HC199_1.out); rintro e w' ⟨rfl, ⟨nd, rfl⟩⟩; refine ⟨_, rfl, ?_⟩) | ((with_reducible refine zaq (f := 20) rfl ?_); refine zav (some 28) rfl rfl Try.func20 (by kernel_rfl) rfl #[.slice A199_6 ((zam l0_0 x3_1).f6).length c199_6] rfl (by (try simp only [List.map_toArray, List.map_cons, List.map_nil]); first | done | rfl | (simp only [List.length_drop, List.length_take]; rfl)) ?_; (with_reducible refine (towncrierlaw08_Few.calls k1 _ _ ((zam l0_0 x3_1).f6) true _ ?side1 ?side2 A10.out).mono ?_); (case side1 => exact Kd.C_below HR199_6.out (by repeat (first | (with_reducible first | exact HB.out | apply zaa | apply zac | apply zae | refine zaf ?_ GE198.out | refine zaf ?_ GE200.out) | exact HB.out))); (case side2 => exact HC199_6.out); rintro e w' ⟨rfl, ⟨nd, rfl⟩⟩; refine ⟨_, rfl, ?_⟩))
          go_roundg k1
          case measure => have := HK1.out; omega
          case rel => exact ⟨(wrap64 (x3_1 + 1)), (by first | rfl | (simp; done) | (simp [*]; done)), H', ⟨by have := HK1.out; omega⟩, ⟨by (with_reducible repeat (first | refine zai ?_ _ | refine zaj ?_ | refine zag ?_ _)); refine zaM ?_ NB198_200.out _; (with_reducible repeat (first | refine zai ?_ _ | refine zaj ?_ | refine zag ?_ _)); refine zaM ?_ NB198_200.out _; (with_reducible repeat (first | refine zai ?_ _ | refine zaj ?_ | refine zag ?_ _)); refine zaM ?_ NB198_200.out _; (with_reducible repeat (first | refine zai ?_ _ | refine zaj ?_ | refine zag ?_ _)); refine zaM ?_ NB198_200.out _; (with_reducible repeat (first | refine zai ?_ _ | refine zaj ?_ | refine zag ?_ _)); refine zaM ?_ NB198_200.out _; (with_reducible repeat (first | refine zai ?_ _ | refine zaj ?_ | refine zag ?_ _)); refine zaM ?_ NB198_200.out _; (with_reducible repeat (first | refine zai ?_ _ | refine zaj ?_ | refine zag ?_ _)); refine zaM ?_ NB198_200.out _; (with_reducible repeat (first | refine zai ?_ _ | refine zaj ?_ | refine zag ?_ _)); exact BK198.out⟩, ⟨by repeat (first | (with_reducible first | exact HB.out | apply zaa | apply zac | apply zae | refine zaf ?_ GE198.out | refine zaf ?_ GE200.out) | exact HB.out)⟩⟩
       ·replace c12 := Bool.eq_false_iff.mpr c12
        subst c12
        have H1 : (some false) = some r := by rw [if_neg (show ¬ (false = true) by decide)] at H; exact H
        clear H
        have H := H1
        clear H1
        obtain rfl := Option.some.inj H
        have hcz27_0 : wr.cell? ⟨gb198, 0, none⟩ = some (.slice A0_0 l0_0.length c0_0) := (zad BK198.out 0).trans rfl
        have hcz27_1 : wr.cell? ⟨gb198, 1, none⟩ = some (.int .i64 a0_1) := (zad BK198.out 1).trans rfl
        have hcz27_2 : wr.cell? ⟨gb198, 2, none⟩ = some (.int .i64 a0_2) := (zad BK198.out 2).trans rfl
        have hcz27_3 : wr.cell? ⟨gb198, 3, none⟩ = some (.int .i64 a0_3) := (zad BK198.out 3).trans rfl
        have hcz27_4 : wr.cell? ⟨gb198, 4, none⟩ = some (.int .i64 a0_4) := (zad BK198.out 4).trans rfl
        have hfz27_0 := zab BK198.out 0
        have hfz27_1 := zab BK198.out 1
        have hfz27_2 := zab BK198.out 2
        have hfz27_3 := zab BK198.out 3
        have hfz27_4 := zab BK198.out 4
        have p199 : 0 ≤ (x3_1 : Int) := of_decide_eq_true (by first | (with_reducible assumption) | assumption)
        have q199 : x3_1 < (l0_0.length : Int) := of_decide_eq_true (by first | (with_reducible assumption) | assumption)
        obtain ⟨ad199, A199_1, c199_1, A199_6, c199_6, e199, hx199_0, hx199_1, hx199_2, hx199_3, hx199_4, hx199_5, hx199_6, hl199_1, hi199_1, hl199_6, hi199_6⟩ := zbr HR0_0.out x3_1 p199 q199
        cases e199
        replace hx199_0 := (HB.out.cell (World.block_lt_of_cell? w _ hx199_0)).trans hx199_0
        replace hx199_1 := (HB.out.cell (World.block_lt_of_cell? w _ hx199_1)).trans hx199_1
        replace hx199_2 := (HB.out.cell (World.block_lt_of_cell? w _ hx199_2)).trans hx199_2
        replace hx199_3 := (HB.out.cell (World.block_lt_of_cell? w _ hx199_3)).trans hx199_3
        replace hx199_4 := (HB.out.cell (World.block_lt_of_cell? w _ hx199_4)).trans hx199_4
        replace hx199_5 := (HB.out.cell (World.block_lt_of_cell? w _ hx199_5)).trans hx199_5
        replace hx199_6 := (HB.out.cell (World.block_lt_of_cell? w _ hx199_6)).trans hx199_6
        have HR199_1 := Aside0.mk hi199_1
        have HC199_1 := Aside0.mk hl199_1
        clear hi199_1 hl199_1
        have HR199_6 := Aside0.mk hi199_6
        have HC199_6 := Aside0.mk hl199_6
        clear hi199_6 hl199_6
        replace p199 := eq_true p199
        replace q199 := eq_true q199
        go_wp2_with (first | ((with_reducible refine zat (N := 4) rfl ?_); (try (refine zaC (by rfl) ?_; dsimp only)); refine zar ?hg (N := 4) ?hd (cs := #[.string (⟨#[]⟩ : ByteArray), .slice none 0 0, .int .i64 0, .int .i64 0, .bool false, .string (⟨#[]⟩ : ByteArray), .slice none 0 0]) (t := 40) ?hr ?_; (case hd => rfl); (case hg => rfl); (case hr => first | (go_simp; done) | (go_simp; rfl)); intro gb200 hg w28 hbox hb; have n0_ := Aside0.mk (zak (g := gb198) (o := .cells #[.slice (some ad199) l0_0.length c0_0, .int .i64 a0_1, .int .i64 a0_2, .int .i64 a0_3, .int .i64 a0_4] 24 (0, 0)) (by (with_reducible repeat (first | refine zai ?_ _ | refine zaj ?_ | refine zag ?_ _)); exact BK198.out) hb); have n1_ := Aside0.mk (zah (by repeat (first | (with_reducible first | exact HB.out | apply zaa | apply zac | apply zae | refine zaf ?_ GE198.out) | exact HB.out)) hb); have n2_ := Aside0.mk (hbox); have n3_ := Aside0.mk ((by rw [hg]; exact (zan (by repeat (first | (with_reducible first | exact HB.out | apply zaa | apply zac | apply zae | refine zaf ?_ GE198.out) | exact HB.out))) : w.heap.size ≤ gb200)); have n4_ := Aside0.mk ((by rw [hg]; exact (zan (by repeat (first | (with_reducible first | exact HB.out | apply zaa | apply zac | apply zae | refine zaf ?_ GE198.out) | exact HB.out))) : w.heap.size ≤ gb200)); have n5_ := Aside0.mk ((by rw [hg]; exact Nat.ne_of_lt (zay (g := gb198) (o := .cells #[.slice (some ad199) l0_0.length c0_0, .int .i64 a0_1, .int .i64 a0_2, .int .i64 a0_3, .int .i64 a0_4] 24 (0, 0)) (by (with_reducible repeat (first | refine zai ?_ _ | refine zaj ?_ | refine zag ?_ _)); exact BK198.out)) : gb198 ≠ gb200)); have n6_ := Aside0.mk ((by rw [hg]; exact Nat.ne_of_gt (zay (g := gb198) (o := .cells #[.slice (some ad199) l0_0.length c0_0, .int .i64 a0_1, .int .i64 a0_2, .int .i64 a0_3, .int .i64 a0_4] 24 (0, 0)) (by (with_reducible repeat (first | refine zai ?_ _ | refine zaj ?_ | refine zag ?_ _)); exact BK198.out)) : gb200 ≠ gb198)); clear BK198; clear HB; have BK198 := n0_; have HB := n1_; have BK200 := n2_; have GW200 := n3_; have GE200 := n4_; have NB198_200 := n5_; have NB200_198 := n6_; clear n0_ n1_ n2_ n3_ n4_ n5_ n6_; clear hb hbox hg; have hnb29 := NB200_198.out; have hnc29 := NB198_200.out; have hcz30_0 : w28.cell? ⟨gb200, 0, none⟩ = some (.string (⟨#[]⟩ : ByteArray)) := (zad BK200.out 0).trans rfl; have hcz30_1 : w28.cell? ⟨gb200, 1, none⟩ = some (.slice none 0 0) := (zad BK200.out 1).trans rfl; have hcz30_2 : w28.cell? ⟨gb200, 2, none⟩ = some (.int .i64 0) := (zad BK200.out 2).trans rfl; have hcz30_3 : w28.cell? ⟨gb200, 3, none⟩ = some (.int .i64 0) := (zad BK200.out 3).trans rfl; have hcz30_4 : w28.cell? ⟨gb200, 4, none⟩ = some (.bool false) := (zad BK200.out 4).trans rfl; have hcz30_5 : w28.cell? ⟨gb200, 5, none⟩ = some (.string (⟨#[]⟩ : ByteArray)) := (zad BK200.out 5).trans rfl; have hcz30_6 : w28.cell? ⟨gb200, 6, none⟩ = some (.slice none 0 0) := (zad BK200.out 6).trans rfl; have hfz30_0 := zab BK200.out 0; have hfz30_1 := zab BK200.out 1; have hfz30_2 := zab BK200.out 2; have hfz30_3 := zab BK200.out 3; have hfz30_4 := zab BK200.out 4; have hfz30_5 := zab BK200.out 5; have hfz30_6 := zab BK200.out 6) | ((with_reducible refine zaq (f := 20) rfl ?_); refine zav (some 25) rfl rfl Try.func20 (by kernel_rfl) rfl #[.slice A199_1 ((zam l0_0 x3_1).f1).length c199_1] rfl (by (try simp only [List.map_toArray, List.map_cons, List.map_nil]); first | done | rfl | (simp only [List.length_drop, List.length_take]; rfl)) ?_; (with_reducible refine (towncrierlaw08_Few.calls k1 _ _ ((zam l0_0 x3_1).f1) true _ ?side1 ?side2 A9.out).mono ?_); (case side1 => exact Kd.C_below HR199_1.out (by repeat (first | (with_reducible first | exact HB.out | apply zaa | apply zac | apply zae | refine zaf ?_ GE198.out | refine zaf ?_ GE200.out) | exact HB.out))); (case side2 => exact HC199_1.out); rintro e w' ⟨rfl, ⟨nd, rfl⟩⟩; refine ⟨_, rfl, ?_⟩) | ((with_reducible refine zaq (f := 20) rfl ?_); refine zav (some 28) rfl rfl Try.func20 (by kernel_rfl) rfl #[.slice A199_6 ((zam l0_0 x3_1).f6).length c199_6] rfl (by (try simp only [List.map_toArray, List.map_cons, List.map_nil]); first | done | rfl | (simp only [List.length_drop, List.length_take]; rfl)) ?_; (with_reducible refine (towncrierlaw08_Few.calls k1 _ _ ((zam l0_0 x3_1).f6) false _ ?side1 ?side2 A10.out).mono ?_); (case side1 => exact Kd.C_below HR199_6.out (by repeat (first | (with_reducible first | exact HB.out | apply zaa | apply zac | apply zae | refine zaf ?_ GE198.out | refine zaf ?_ GE200.out) | exact HB.out))); (case side2 => exact HC199_6.out); rintro e w' ⟨rfl, ⟨nd, rfl⟩⟩; refine ⟨_, rfl, ?_⟩))
        go_ret
        exact ⟨by first | rfl | (simp [zap, zao] <;> rfl) | (simp [*, zap, zao] <;> rfl), by repeat (first | (with_reducible first | exact HB.out | apply zaa | apply zac | apply zae | refine zaf ?_ GE198.out | refine zaf ?_ GE200.out) | exact HB.out)⟩
      ·replace c11 := Bool.eq_false_iff.mpr c11
       subst c11
       have H1 : (some false) = some r := by rw [if_neg (show ¬ (false = true) by decide)] at H; exact H
       clear H
       have H := H1
       clear H1
       obtain rfl := Option.some.inj H
       have hcz31_0 : wr.cell? ⟨gb198, 0, none⟩ = some (.slice A0_0 l0_0.length c0_0) := (zad BK198.out 0).trans rfl
       have hcz31_1 : wr.cell? ⟨gb198, 1, none⟩ = some (.int .i64 a0_1) := (zad BK198.out 1).trans rfl
       have hcz31_2 : wr.cell? ⟨gb198, 2, none⟩ = some (.int .i64 a0_2) := (zad BK198.out 2).trans rfl
       have hcz31_3 : wr.cell? ⟨gb198, 3, none⟩ = some (.int .i64 a0_3) := (zad BK198.out 3).trans rfl
       have hcz31_4 : wr.cell? ⟨gb198, 4, none⟩ = some (.int .i64 a0_4) := (zad BK198.out 4).trans rfl
       have hfz31_0 := zab BK198.out 0
       have hfz31_1 := zab BK198.out 1
       have hfz31_2 := zab BK198.out 2
       have hfz31_3 := zab BK198.out 3
       have hfz31_4 := zab BK198.out 4
       have p199 : 0 ≤ (x3_1 : Int) := of_decide_eq_true (by first | (with_reducible assumption) | assumption)
       have q199 : x3_1 < (l0_0.length : Int) := of_decide_eq_true (by first | (with_reducible assumption) | assumption)
       obtain ⟨ad199, A199_1, c199_1, A199_6, c199_6, e199, hx199_0, hx199_1, hx199_2, hx199_3, hx199_4, hx199_5, hx199_6, hl199_1, hi199_1, hl199_6, hi199_6⟩ := zbr HR0_0.out x3_1 p199 q199
       cases e199
       replace hx199_0 := (HB.out.cell (World.block_lt_of_cell? w _ hx199_0)).trans hx199_0
       replace hx199_1 := (HB.out.cell (World.block_lt_of_cell? w _ hx199_1)).trans hx199_1
       replace hx199_2 := (HB.out.cell (World.block_lt_of_cell? w _ hx199_2)).trans hx199_2
       replace hx199_3 := (HB.out.cell (World.block_lt_of_cell? w _ hx199_3)).trans hx199_3
       replace hx199_4 := (HB.out.cell (World.block_lt_of_cell? w _ hx199_4)).trans hx199_4
       replace hx199_5 := (HB.out.cell (World.block_lt_of_cell? w _ hx199_5)).trans hx199_5
       replace hx199_6 := (HB.out.cell (World.block_lt_of_cell? w _ hx199_6)).trans hx199_6
       have HR199_1 := Aside0.mk hi199_1
       have HC199_1 := Aside0.mk hl199_1
       clear hi199_1 hl199_1
       have HR199_6 := Aside0.mk hi199_6
       have HC199_6 := Aside0.mk hl199_6
       clear hi199_6 hl199_6
       replace p199 := eq_true p199
       replace q199 := eq_true q199
       go_wp2_with (first | ((with_reducible refine zat (N := 4) rfl ?_); (try (refine zaC (by rfl) ?_; dsimp only)); refine zar ?hg (N := 4) ?hd (cs := #[.string (⟨#[]⟩ : ByteArray), .slice none 0 0, .int .i64 0, .int .i64 0, .bool false, .string (⟨#[]⟩ : ByteArray), .slice none 0 0]) (t := 40) ?hr ?_; (case hd => rfl); (case hg => rfl); (case hr => first | (go_simp; done) | (go_simp; rfl)); intro gb200 hg w32 hbox hb; have n0_ := Aside0.mk (zak (g := gb198) (o := .cells #[.slice (some ad199) l0_0.length c0_0, .int .i64 a0_1, .int .i64 a0_2, .int .i64 a0_3, .int .i64 a0_4] 24 (0, 0)) (by (with_reducible repeat (first | refine zai ?_ _ | refine zaj ?_ | refine zag ?_ _)); exact BK198.out) hb); have n1_ := Aside0.mk (zah (by repeat (first | (with_reducible first | exact HB.out | apply zaa | apply zac | apply zae | refine zaf ?_ GE198.out) | exact HB.out)) hb); have n2_ := Aside0.mk (hbox); have n3_ := Aside0.mk ((by rw [hg]; exact (zan (by repeat (first | (with_reducible first | exact HB.out | apply zaa | apply zac | apply zae | refine zaf ?_ GE198.out) | exact HB.out))) : w.heap.size ≤ gb200)); have n4_ := Aside0.mk ((by rw [hg]; exact (zan (by repeat (first | (with_reducible first | exact HB.out | apply zaa | apply zac | apply zae | refine zaf ?_ GE198.out) | exact HB.out))) : w.heap.size ≤ gb200)); have n5_ := Aside0.mk ((by rw [hg]; exact Nat.ne_of_lt (zay (g := gb198) (o := .cells #[.slice (some ad199) l0_0.length c0_0, .int .i64 a0_1, .int .i64 a0_2, .int .i64 a0_3, .int .i64 a0_4] 24 (0, 0)) (by (with_reducible repeat (first | refine zai ?_ _ | refine zaj ?_ | refine zag ?_ _)); exact BK198.out)) : gb198 ≠ gb200)); have n6_ := Aside0.mk ((by rw [hg]; exact Nat.ne_of_gt (zay (g := gb198) (o := .cells #[.slice (some ad199) l0_0.length c0_0, .int .i64 a0_1, .int .i64 a0_2, .int .i64 a0_3, .int .i64 a0_4] 24 (0, 0)) (by (with_reducible repeat (first | refine zai ?_ _ | refine zaj ?_ | refine zag ?_ _)); exact BK198.out)) : gb200 ≠ gb198)); clear BK198; clear HB; have BK198 := n0_; have HB := n1_; have BK200 := n2_; have GW200 := n3_; have GE200 := n4_; have NB198_200 := n5_; have NB200_198 := n6_; clear n0_ n1_ n2_ n3_ n4_ n5_ n6_; clear hb hbox hg; have hnb33 := NB200_198.out; have hnc33 := NB198_200.out; have hcz34_0 : w32.cell? ⟨gb200, 0, none⟩ = some (.string (⟨#[]⟩ : ByteArray)) := (zad BK200.out 0).trans rfl; have hcz34_1 : w32.cell? ⟨gb200, 1, none⟩ = some (.slice none 0 0) := (zad BK200.out 1).trans rfl; have hcz34_2 : w32.cell? ⟨gb200, 2, none⟩ = some (.int .i64 0) := (zad BK200.out 2).trans rfl; have hcz34_3 : w32.cell? ⟨gb200, 3, none⟩ = some (.int .i64 0) := (zad BK200.out 3).trans rfl; have hcz34_4 : w32.cell? ⟨gb200, 4, none⟩ = some (.bool false) := (zad BK200.out 4).trans rfl; have hcz34_5 : w32.cell? ⟨gb200, 5, none⟩ = some (.string (⟨#[]⟩ : ByteArray)) := (zad BK200.out 5).trans rfl; have hcz34_6 : w32.cell? ⟨gb200, 6, none⟩ = some (.slice none 0 0) := (zad BK200.out 6).trans rfl; have hfz34_0 := zab BK200.out 0; have hfz34_1 := zab BK200.out 1; have hfz34_2 := zab BK200.out 2; have hfz34_3 := zab BK200.out 3; have hfz34_4 := zab BK200.out 4; have hfz34_5 := zab BK200.out 5; have hfz34_6 := zab BK200.out 6) | ((with_reducible refine zaq (f := 20) rfl ?_); refine zav (some 25) rfl rfl Try.func20 (by kernel_rfl) rfl #[.slice A199_1 ((zam l0_0 x3_1).f1).length c199_1] rfl (by (try simp only [List.map_toArray, List.map_cons, List.map_nil]); first | done | rfl | (simp only [List.length_drop, List.length_take]; rfl)) ?_; (with_reducible refine (towncrierlaw08_Few.calls k1 _ _ ((zam l0_0 x3_1).f1) false _ ?side1 ?side2 A9.out).mono ?_); (case side1 => exact Kd.C_below HR199_1.out (by repeat (first | (with_reducible first | exact HB.out | apply zaa | apply zac | apply zae | refine zaf ?_ GE198.out | refine zaf ?_ GE200.out) | exact HB.out))); (case side2 => exact HC199_1.out); rintro e w' ⟨rfl, ⟨nd, rfl⟩⟩; refine ⟨_, rfl, ?_⟩) | ((with_reducible refine zaq (f := 20) rfl ?_); refine zav (some 28) rfl rfl Try.func20 (by kernel_rfl) rfl #[.slice A199_6 ((zam l0_0 x3_1).f6).length c199_6] rfl (by (try simp only [List.map_toArray, List.map_cons, List.map_nil]); first | done | rfl | (simp only [List.length_drop, List.length_take]; rfl)) ?_; (with_reducible refine (towncrierlaw08_Few.calls k1 _ _ ((zam l0_0 x3_1).f6) t202 _ ?side1 ?side2 A10.out).mono ?_); (case side1 => exact Kd.C_below HR199_6.out (by repeat (first | (with_reducible first | exact HB.out | apply zaa | apply zac | apply zae | refine zaf ?_ GE198.out | refine zaf ?_ GE200.out) | exact HB.out))); (case side2 => exact HC199_6.out); rintro e w' ⟨rfl, ⟨nd, rfl⟩⟩; refine ⟨_, rfl, ?_⟩))
       go_ret
       exact ⟨by first | rfl | (simp [zap, zao] <;> rfl) | (simp [*, zap, zao] <;> rfl), by repeat (first | (with_reducible first | exact HB.out | apply zaa | apply zac | apply zae | refine zaf ?_ GE198.out | refine zaf ?_ GE200.out) | exact HB.out)⟩
     ·rw [if_neg c8] at H
      exact absurd H (by simp)
    ·rw [if_neg c7] at H
     have c7b0 : decide (x3_1 < (l0_0.length : Int)) = false := decide_eq_false c7
     clear c7
     obtain rfl := Option.some.inj H
     have hcz35_0 : wr.cell? ⟨gb198, 0, none⟩ = some (.slice A0_0 l0_0.length c0_0) := (zad BK198.out 0).trans rfl
     have hcz35_1 : wr.cell? ⟨gb198, 1, none⟩ = some (.int .i64 a0_1) := (zad BK198.out 1).trans rfl
     have hcz35_2 : wr.cell? ⟨gb198, 2, none⟩ = some (.int .i64 a0_2) := (zad BK198.out 2).trans rfl
     have hcz35_3 : wr.cell? ⟨gb198, 3, none⟩ = some (.int .i64 a0_3) := (zad BK198.out 3).trans rfl
     have hcz35_4 : wr.cell? ⟨gb198, 4, none⟩ = some (.int .i64 a0_4) := (zad BK198.out 4).trans rfl
     have hfz35_0 := zab BK198.out 0
     have hfz35_1 := zab BK198.out 1
     have hfz35_2 := zab BK198.out 2
     have hfz35_3 := zab BK198.out 3
     have hfz35_4 := zab BK198.out 4
     go_wp2
     go_ret
     exact ⟨by first | rfl | (simp [zap, zao] <;> rfl) | (simp [*, zap, zao] <;> rfl), by repeat (first | (with_reducible first | exact HB.out | apply zaa | apply zac | apply zae | refine zaf ?_ GE198.out) | exact HB.out)⟩
end Go.Proofs.Ytooemobolfoefaa.P


