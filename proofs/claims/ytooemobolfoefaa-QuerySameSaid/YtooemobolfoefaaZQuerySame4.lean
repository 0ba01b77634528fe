/- What QuerySame's row stands on: words, contracts of the functions that it reaches, plain facts, its walk (part 4): no condition but those that each theorem names. -/
import Derived.Test.YtooemobolfoefaaZQuerySame3
set_option linter.unusedVariables false
set_option linter.unusedSimpArgs false
namespace Go.Proofs.Ytooemobolfoefaa.P
open Go.RowKit Go.Proofs.YtooemobolfoefaaW.PrintWords Go.Proofs.YtooemobolfoefaaW.PrintLast Go.Proofs.YtooemobolfoefaaW.PrintMore
attribute [local go_sem] zaX zaV zbf zbe zaO zaN zaW zaU   -- for this text's walks alone
set_option linter.unusedVariables false
set_option linter.unusedSimpArgs false
structure WrAt (w0 : World) (B : Nat) (xs : List Int) (w : World) : Prop where
 ex : ∃ v, w.heap[B]? = some (.cells #[v] 52 (0, 0)) ∧ Own8 5 w0.heap.size w v xs
 below : Below w0.heap.size w0 w
 hB : w0.heap.size ≤ B
theorem WrAt.grow {w0 w w1 : World} {B : Nat} {xs : List Int} (h : WrAt w0 B xs w) (hb : Below w.heap.size w w1) : WrAt w0 B xs w1 := by
 obtain ⟨⟨v, h1, h2⟩, h3, h4⟩ := h
 exact ⟨⟨v, zak h1 hb, h2.below hb⟩, zah h3 hb, h4⟩
theorem WrAt.lt {w0 w : World} {B : Nat} {xs : List Int} (h : WrAt w0 B xs w) : B < w.heap.size := by
 obtain ⟨⟨v, h1, _⟩, _, _⟩ := h
 exact zaA h1
theorem WrAt.put {w0 w : World} {B : Nat} {v0 v : Value} {xs : List Int} (hk : w.heap[B]? = some (.cells #[v0] 52 (0, 0))) (ho : Own8 5 w0.heap.size w v xs) (hb : Below w0.heap.size w0 w) (hB : w0.heap.size ≤ B) : WrAt w0 B xs (w.setCell ⟨B, 0, none⟩ v) :=
 ⟨⟨v, zar hk 0 v rfl, Kd.R_set ho hk (by decide) 0 v⟩, hb.setCell (p := ⟨B, 0, none⟩) hB v, hB⟩
def numsL (l : List Int) : List Int := (l.map fun n => zaE n.toNat).flatten
theorem numsL_snoc (l : List Int) (k : Nat) (h : k < l.length) : numsL (l.take (k + 1)) = numsL (l.take k) ++ zaE (l.getD k 0).toNat := by
 unfold numsL
 rw [take_snoc 0 l k h, List.map_append, List.flatten_append]
 simp
theorem numsL_len : ∀ {l : List Int}, (∀ n ∈ l, 0 ≤ n ∧ n < 9223372036854775808) → (numsL l).length ≤ 10 * l.length
 | [], _ => Nat.le_refl _
 | n :: l, h => by
  have h1 := h n (List.mem_cons_self ..)
  have ih := numsL_len (l := l) (fun y hy => h y (List.mem_cons_of_mem _ hy))
  have h2 := lePut_len (n := n.toNat) (by omega)
  unfold numsL at ih ⊢
  rw [List.map_cons, List.flatten_cons, List.length_append, List.length_cons]
  omega
def Kp (B : Nat) (w w' : World) : Prop := ∀ i cs t, i ≠ B → 5 ≠ t → w.heap[i]? = some (.cells cs t (0, 0)) → w'.heap[i]? = some (.cells cs t (0, 0))
theorem Kp.refl (B : Nat) (w : World) : Kp B w w := fun _ _ _ _ _ h => h
theorem Kp.trans {B : Nat} {a b c : World} (h : Kp B a b) (k : Kp B b c) : Kp B a c := fun i cs t hi ht hh => k i cs t hi ht (h i cs t hi ht hh)
theorem Kp.below {B : Nat} {a b c : World} (h : Kp B a b) (k : Below b.heap.size b c) : Kp B a c := fun i cs t hi ht hh => zak (h i cs t hi ht hh) k
theorem Kp.set {B j : Nat} {a b : World} (h : Kp B a b) (u : Value) : Kp B a (b.setCell ⟨B, j, none⟩ u) := fun i cs t hi ht hh => zaG (h i cs t hi ht hh) (p := ⟨B, j, none⟩) hi u
theorem Kp.grown {B base : Nat} {a b c : World} {v : Value} {xs : List Int} (h : Kp B a b) (hg : b.grownBy c v.ownBlock) (ho : Own8 5 base b v xs) : Kp B a c := fun i cs t hi ht hh => zba (h i cs t hi ht hh) hg (Own8.ne ho (h i cs t hi ht hh) ht)
def wrPost (w0 : World) (B : Nat) (xs : List Int) (w : World) (e : Ending) (w' : World) : Prop := e = .returned (.tuple #[]) ∧ WrAt w0 B xs w' ∧ Kp B w w'
set_option maxHeartbeats 4000000 in
set_option maxRecDepth 100000 in
theorem zbl (w0 : World) (B : Nat) (xs : List Int) (ns : List Int) (A : Option Addr) (c : Nat) (w : World) (h : WrAt w0 B xs w) (hr : ∀ w', Kp B w w' → Below w0.heap.size w0 w' → Kd.C (Kd.int .i64) w' A ns.length ns) (hns : ∀ n ∈ ns, 0 ≤ n ∧ n < 9223372036854775808) (hl : xs.length ≤ 100000) (hn : ns.length ≤ 1000) :
  Calls Try.prog 24 #[.pointer (some ⟨B, 0, none⟩), .slice A ns.length c] w (wrPost w0 B (xs ++ numsL ns) w) := by
 have HH := Aside0.mk h
 have HR := Aside0.mk hr
 have HNS := Aside0.mk hns
 clear h hr hns
 go_enter Try.func24, Try.ntmps24
 go_wp2_with fail
 go_loopw [5, 8] (fun _ v8 w' => ∃ k : Nat, v8 = .int .i64 k ∧ k ≤ ns.length ∧ WrAt w0 B (xs ++ numsL (ns.take k)) w' ∧ Kp B w w') (fun _ i _ => ns.length - (intOf i).toNat)
 case atStart => exact ⟨0, rfl, Nat.zero_le _, by rw [show xs ++ numsL (ns.take 0) = xs from by simp [numsL]]; exact HH.out, Kp.refl _ _⟩
 case round =>
  obtain ⟨k, rfl, hk, hwr, ho⟩ := hrel
  have HW := Aside0.mk hwr
  have HO := Aside0.mk ho
  by_cases hlt : k < ns.length
  ·obtain ⟨ad, e, hx⟩ := Kd.at_int (HR.out _ ho hwr.below) (k : Int) (by omega) (by omega)
   subst e
   simp only [Int.toNat_natCast] at hx
   have hin := HNS.out _ (getD_in 0 hlt)
   have HSN := Aside0.mk (numsL_snoc ns k hlt)
   have hle := numsL_len (l := ns.take k) (fun n hn => HNS.out n (List.mem_of_mem_take hn))
   rw [List.length_take] at hle
   rw [show rd ns (k : Int) = ns.getD k 0 from rfl] at hx
   obtain ⟨a, ha⟩ := Int.eq_ofNat_of_zero_le hin.1
   obtain ⟨pre, hpre⟩ : ∃ pre, xs ++ numsL (ns.take k) = pre := ⟨_, rfl⟩
   have hpl : pre.length ≤ 110000 := by rw [← hpre, List.length_append]; omega
   have ha2 : a < 18446744073709551616 := by omega
   have HPN : Aside0 (xs ++ numsL (ns.take (k + 1)) = pre ++ zaE a) := ⟨by rw [HSN.out, ha, Int.toNat_natCast, ← List.append_assoc, hpre]⟩
   rw [hpre] at HW hwr
   rw [ha] at hx
   have hal := lePut_len (n := a) ha2
   obtain ⟨q2, hq2⟩ : ∃ q, pre ++ zaE a = q := ⟨_, rfl⟩
   have HQ2 := Aside0.mk hq2
   rw [hq2] at HPN
   have hw64 : IntKind.u64.wrap (a : Int) = (a : Int) := u64_small' ha2
   obtain ⟨⟨v, g1, g2⟩, g3, g4⟩ := hwr
   obtain ⟨k1, k2, k3, k4⟩ := know g1
   have HK := Aside0.mk g1
   have HG := Aside0.mk g2
   have HB := Aside0.mk g3
   have hk1 : k + 1 ≤ ns.length := hlt
   have hdr : ∀ m i, (wr.drewN m).cell? ⟨B, i, none⟩ = #[v][i]? := fun m i => zac (zai HK.out m) i
   clear hin hle hpre ha g1 g2 g3 ho hq2
   go_wp2_with fail
   go_region_law (first
    | (go_simp; go_at_call 41; refine (le_Put.told a _ ha2).mono ?_; rintro e w1 ⟨v1, rfl, ho1, hb1⟩; obtain ⟨A1, c1, rfl, hc1, hr1⟩ := Own8.reads ho1; have HR1 := Aside0.mk hr1; have HB1 := Aside0.mk (zah (zaM HB.out) hb1); have HK1 := Aside0.mk (zak (zal HK.out) hb1); have HV1 := Aside0.mk (Own8.below (show Own8 _ _ _ _ _ from Kd.R_drew HG.out) hb1); obtain ⟨j1, j2, j3, j4⟩ := know HK1.out; clear ho1 hr1)
    | (refine app8t_step (o := ⟨some 19, _, _, _, _, _⟩) (w0 := w0) w0.heap.size ?hw (.tmp 15) (.tmp 18) 52 25 5 rfl Try.underlying52 Try.underlying25 info5 v pre (zaE a) A1 (zaE a).length c1 ?hs ?hx ?HO ?HR ?HB ?hZ ?hL ?_; (case hw => rfl); (case hs => rfl); (case hx => rfl); (case hL => omega); (case HO => exact HV1.out); (case HR => exact HR1.out); (case HB => exact HB1.out); (case hZ => exact zao HB1.out); intro v2 w2 ho2 hb2 hg2; have HKP := Aside0.mk ((((HO.out.below (zaM (Below.refl _ _))).below hb1).grown hg2 HV1.out)); rw [HQ2.out] at ho2; obtain ⟨A2, c2, hv2⟩ := Kd.R_slice ho2; subst hv2; have HO2 := Aside0.mk ho2; have HB2 := Aside0.mk hb2; have HK2 := Aside0.mk (zba HK1.out hg2 (Own8.ne HV1.out HK1.out (by decide))); obtain ⟨m1, m2, m3, m4⟩ := know HK2.out; clear ho2 hb2))
   all_goals
    have hwr2 := WrAt.put HK2.out HO2.out HB2.out g4
    have hon := Kp.set (j := 0) HKP.out (.slice A2 q2.length c2)
    go_wp2_with fail
    go_roundw
    case rel => exact ⟨k + 1, by go_num, hk1, by rw [HPN.out]; exact hwr2, hon⟩
    case measure => simp [intOf]; omega
  ·obtain rfl : k = ns.length := by omega
   rw [List.take_length] at HW
   go_wp2_with fail
   go_end0
   exact ⟨rfl, HW.out, HO.out⟩
theorem C_ints {W : World} {b T : Nat} (ns : List Int) (h : W.heap[b]? = some (.cells (ns.map fun n => Value.int .i64 n).toArray T (0, 0))) (hl : ns.length ≤ 1000) : Kd.C (Kd.int .i64) W (some ⟨b, 0, none⟩) ns.length ns := by
 refine ⟨rfl, by omega, fun _ => ⟨_, rfl, fun j x hj => ?_⟩⟩
 refine ⟨[.int .i64 x], rfl, rfl, fun i u hu => ?_⟩
 have hi : i < 1 := by have := (List.getElem?_eq_some_iff.1 hu).1; simpa using this
 obtain rfl : i = 0 := by omega
 rw [show (Kd.int .i64).sz = 1 from rfl, add_plain, zac h]
 rw [List.getElem?_toArray, List.getElem?_map]
 simpa [hj] using hu
set_option maxHeartbeats 1000000 in
set_option maxRecDepth 100000 in
theorem wtext_told (w0 : World) (B : Nat) (xs : List Int) (s : ByteArray) (w : World) (h : WrAt w0 B xs w) (hs : s.size ≤ 12) (hl : xs.length ≤ 90000) :
  Calls Try.prog 22 #[.pointer (some ⟨B, 0, none⟩), .string s] w (wrPost w0 B (xs ++ textL s) w) := by
 have HH := Aside0.mk h
 have hlt := h.lt
 have HBX := Aside0.mk (zab (Below.refl w.heap.size w) (.cells #[.int .i64 (s.size : Int)] 3))
 have HN := Aside0.mk (zat w (.cells #[.int .i64 (s.size : Int)] 3))
 have hne : w.heap.size ≠ B := by omega
 have hP : numsL [(s.size : Int)] = zaE s.size := by simp [numsL]
 have hlp := lePut_short (n := s.size) (by omega)
 obtain ⟨P1, hP1⟩ : ∃ P, xs ++ zaE s.size = P := ⟨_, rfl⟩
 have hl1 : P1.length ≤ 90010 := by rw [← hP1, List.length_append]; omega
 have HP1 := Aside0.mk (show xs ++ numsL [(s.size : Int)] = P1 from by rw [hP, hP1])
 have HP2 := Aside0.mk (show xs ++ textL s = P1 ++ bytesOf s from by rw [← hP1]; unfold textL; rw [List.append_assoc])
 obtain ⟨P2, hP2⟩ : ∃ P, P1 ++ bytesOf s = P := ⟨_, rfl⟩
 have HP3 := Aside0.mk hP2
 rw [HP2.out, hP2]
 clear h hP hP1 hP2 hlp
 go_enter Try.func22, Try.ntmps22
 go_wp2_with fail
 go_at_call 24
 refine (zbl w0 B xs [(s.size : Int)] (some ⟨w.heap.size, 0, none⟩) 1 _ (HH.out.grow HBX.out) (fun w' hk _ => C_ints (T := 3) _ (hk _ _ _ hne (by decide) HN.out) (by show 1 ≤ 1000; decide)) (fun n hn => by rw [List.mem_singleton.1 hn]; omega) (by omega) (by show 1 ≤ 1000; decide)).mono ?_
 rintro e w1 ⟨rfl, hwr, hkp⟩
 rw [HP1.out] at hwr
 have HK1 := Aside0.mk (((Kp.refl B w).below HBX.out).trans hkp)
 obtain ⟨⟨v, g1, g2⟩, g3, g4⟩ := hwr
 have HG1 := Aside0.mk g1
 have HG2 := Aside0.mk g2
 have HG3 := Aside0.mk g3
 obtain ⟨k1, k2, k3, k4⟩ := know g1
 clear g1 g2 g3 hkp
 go_wp2_with ((with_reducible refine zaz (b := .append) (xs := #[.tmp 12, .tmp 13]) rfl ?_); at_builtin; refine app8s (w0 := w0) w0.heap.size rfl _ _ 52 9 5 rfl Try.underlying52 Try.underlying9 info5 v P1 s rfl rfl HG2.out HG3.out (zao HG3.out) (by omega) ?_; intro v2 w2 ho2 hb2 hg2; have HKP := Aside0.mk (HK1.out.grown hg2 HG2.out); rw [HP3.out] at ho2; obtain ⟨A2, c2, hv2⟩ := Kd.R_slice ho2; subst hv2; have HO2 := Aside0.mk ho2; have HB2 := Aside0.mk hb2; have HK2 := Aside0.mk (zba HG1.out hg2 (Own8.ne HG2.out HG1.out (by decide))); obtain ⟨m1, m2, m3, m4⟩ := know HK2.out; clear ho2 hb2)
 go_end0
 exact ⟨rfl, WrAt.put HK2.out HO2.out HB2.out g4, Kp.set (j := 0) HKP.out (.slice A2 P2.length c2)⟩
set_option maxHeartbeats 1000000 in
set_option maxRecDepth 100000 in
theorem wops_told (w0 : World) (B : Nat) (xs : List Int) (l : List SOp) (A : Option Addr) (c : Nat) (w : World) (h : WrAt w0 B xs w) (hr : Kd.C kOp w A l.length l) (hc : l.length ≤ c) (hm : mayO l = true) (hi : ∀ x ∈ l, i64V x.f2) (hl : xs.length ≤ 90000) :
  Calls Try.prog 23 #[.pointer (some ⟨B, 0, none⟩), .slice A l.length c] w (wrPost w0 B (xs ++ zbb l) w) := by
 have HH := Aside0.mk h
 have HR := Aside0.mk hr
 have HC := Aside0.mk hc
 have HM := Aside0.mk hm
 have HI := Aside0.mk hi
 have hlen := bytesO_len hm hi
 obtain ⟨P, hP⟩ : ∃ P, zbb l = P := ⟨_, rfl⟩
 have HP := Aside0.mk hP
 obtain ⟨P2, hP2⟩ : ∃ Q, xs ++ P = Q := ⟨_, rfl⟩
 have HP2 := Aside0.mk hP2
 rw [hP] at hlen ⊢
 rw [hP2]
 clear h hr hc hm hi hP hP2
 go_enter Try.func23, Try.ntmps23
 go_wp2_with fail
 go_at_call 40
 refine (putO_told l A c _ HR.out HC.out HI.out HM.out (show (if true = true then zbb l else []) = P from HP.out)).mono ?_
 rintro e w1 ⟨v1, rfl, ho1, hb1⟩
 obtain ⟨A1, c1, rfl, hc1, hr1⟩ := Own8.reads ho1
 have HR1 := Aside0.mk hr1
 have HK1 := Aside0.mk ((Kp.refl B w).below hb1)
 obtain ⟨⟨v, g1, g2⟩, g3, g4⟩ := HH.out.grow hb1
 have HG1 := Aside0.mk g1
 have HG2 := Aside0.mk g2
 have HG3 := Aside0.mk g3
 obtain ⟨k1, k2, k3, k4⟩ := know g1
 clear g1 g2 g3 hb1 ho1 hr1 hc1
 go_wp2_with ((with_reducible refine zaz (b := .append) (xs := #[.tmp 14, .tmp 15]) rfl ?_); at_builtin; refine app8t (w0 := w0) w0.heap.size rfl _ _ 52 25 5 rfl Try.underlying52 Try.underlying25 info5 v xs P A1 P.length c1 rfl rfl HG2.out HR1.out HG3.out (zao HG3.out) (by omega) ?_; intro v2 w2 ho2 hb2 hg2; have HKP := Aside0.mk (HK1.out.grown hg2 HG2.out); rw [HP2.out] at ho2; obtain ⟨A2, c2, hv2⟩ := Kd.R_slice ho2; subst hv2; have HO2 := Aside0.mk ho2; have HB2 := Aside0.mk hb2; have HK2 := Aside0.mk (zba HG1.out hg2 (Own8.ne HG2.out HG1.out (by decide))); obtain ⟨m1, m2, m3, m4⟩ := know HK2.out; clear ho2 hb2)
 go_end0
 exact ⟨rfl, WrAt.put HK2.out HO2.out HB2.out g4, Kp.set (j := 0) HKP.out (.slice A2 P2.length c2)⟩
set_option maxHeartbeats 1000000 in
set_option maxRecDepth 100000 in
theorem putQ_no (q : SQuery) (A : Option Addr) (c : Nat) (w : World) (hr : Kd.C kStep w A q.f0.length q.f0) (hc : q.f0.length ≤ c) (hq : okQ q) (hn : q.f0.length < 4611686018427387904) (hm : mayQ q = false) :
  Calls Try.prog 11 #[.agg #[.slice A q.f0.length c, .int .i64 q.f1, .int .i64 q.f2, .int .i64 q.f3, .int .i64 q.f4]] w (bytesPost 5 [] false w) := by
 have HR := Aside0.mk hr
 have HC := Aside0.mk hc
 have HQ := Aside0.mk hq
 have HM := Aside0.mk hm
 clear hr hc hq hm
 go_enter Try.func11, Try.ntmps11
 go_wp2_with fail
 go_at_call 21
 refine (mayQ_told q A c _ (Kd.C_below HR.out (zab (Below.refl _ _) _)) HC.out HQ.out hn HM.out).mono ?_
 rintro e w1 ⟨rfl, hb1⟩
 go_wp2_with fail
 go_ret2
 exact ⟨_, rfl, Kd.R_nil _ _ _ _ _, zah (zab (Below.refl _ _) _) hb1⟩
set_option maxHeartbeats 8000000 in
set_option maxRecDepth 100000 in
theorem putQ_go (q : SQuery) (A : Option Addr) (c : Nat) (w : World) (hr : Kd.C kStep w A q.f0.length q.f0) (hc : q.f0.length ≤ c) (hq : okQ q) (hm : mayQ q = true) :
  Calls Try.prog 11 #[.agg #[.slice A q.f0.length c, .int .i64 q.f1, .int .i64 q.f2, .int .i64 q.f3, .int .i64 q.f4]] w (bytesPost 5 (zbr q) true w) := by
 have HR := Aside0.mk hr
 have HC := Aside0.mk hc
 have HQ := Aside0.mk hq
 have HM := Aside0.mk hm
 have HST := Aside0.mk (mayQ_steps hm)
 obtain ⟨_, g1, g2, g3, g4, g5, g6, _, g7, g8, g9, g10⟩ := mayQ_iff.1 hm
 have hl0 := lePut_short (n := q.f0.length) (by omega)
 have HSL := Aside0.mk (fun k => stepsL_len (l := q.f0.take k) (fun x hx => ⟨hq x (List.mem_of_mem_take hx), mayQ_steps hm x (List.mem_of_mem_take hx)⟩))
 have HBQ := Aside0.mk (show zbr q = zaE q.f0.length ++ zbj q.f0 ++ numsL [q.f1, q.f2, q.f3, q.f4] from by unfold zbr numsL; simp)
 obtain ⟨P0, hP0⟩ : ∃ P, zaE q.f0.length = P := ⟨_, rfl⟩
 have HP0 := Aside0.mk (show [] ++ numsL [(q.f0.length : Int)] = P0 from by rw [← hP0]; simp [numsL])
 rw [hP0] at hl0 HBQ
 have HZ := Aside0.mk (zat w (.cells #[.slice A q.f0.length c, .int .i64 q.f1, .int .i64 q.f2, .int .i64 q.f3, .int .i64 q.f4] 24))
 have HB0 := Aside0.mk (zab (Below.refl w.heap.size w) (.cells #[.slice A q.f0.length c, .int .i64 q.f1, .int .i64 q.f2, .int .i64 q.f3, .int .i64 q.f4] 24))
 clear hr hc hq hm hP0
 go_enter Try.func11, Try.ntmps11
 go_wp2_with fail
 go_at_call 21
 refine (mayQ_told q A c _ (Kd.C_below HR.out HB0.out) HC.out HQ.out (by omega) HM.out).mono ?_
 rintro e w1 ⟨rfl, hb1⟩
 have HB1 := Aside0.mk (zah HB0.out hb1)
 have hz1 := zak HZ.out hb1
 have HWB := Aside0.mk (zat w1 (.cells #[.slice none 0 0] 52))
 have HBB := Aside0.mk (zab HB1.out (.cells #[.slice none 0 0] 52))
 have HW1 : Aside0 (WrAt w w1.heap.size [] (w1.alloc (.cells #[.slice none 0 0] 52))) := ⟨⟨⟨_, HWB.out, Kd.R_nil _ _ _ _ _⟩, HBB.out, HB1.out.size⟩⟩
 have HZ1 := Aside0.mk (zag hz1 (.cells #[.slice none 0 0] 52))
 obtain ⟨z1, z2, z3, z4⟩ := know hz1
 have hzlt := zaA hz1
 clear hb1 hz1
 go_upto_region 5 with fail
 generalize hWW : w1.alloc (.cells #[.slice none 0 0] 52) = W2 at HWB HBB HW1 HZ1 ⊢
 clear hWW z1 z2 z3 z4
 generalize w1.heap.size = B at *
 obtain ⟨y1, y2, y3, y4⟩ := know HZ1.out
 have hzne : w.heap.size ≠ B := by omega
 have hbn := zab (Below.refl W2.heap.size W2) (.cells #[.int .i64 (q.f0.length)] 3)
 have hne_ : W2.heap.size ≠ B := by have := (HW1.out).lt; omega
 go_wp2_with fail
 go_at_call 24
 refine (zbl w B _ [(q.f0.length : Int)] (some ⟨W2.heap.size, 0, none⟩) 1 _ ((HW1.out).grow hbn) (fun w' hk _ => C_ints (T := 3) _ (hk _ _ _ hne_ (by decide) (zat W2 (.cells #[.int .i64 (q.f0.length)] 3))) (by show 1 ≤ 1000; decide)) (fun n hn => by rw [List.mem_singleton.1 hn]; omega) (by show 0 ≤ 100000; decide) (by show 1 ≤ 1000; decide)).mono ?_
 rintro e wa1 ⟨rfl, hwr, hkp⟩
 rw [HP0.out] at hwr
 have HWwa1 := Aside0.mk hwr
 have HKzwa1 := Aside0.mk (hkp _ _ _ hzne (by decide) (zag (HZ1.out) _))
 obtain ⟨kzwa1a, kzwa1b, kzwa1c, kzwa1d⟩ := know HKzwa1.out
 clear y1 y2 y3 y4
 clear hwr hkp
 clear hbn hne_
 go_wp2_with fail
 go_loopw [8, 22] (fun _ v22 w' => ∃ k : Nat, v22 = .int .i64 k ∧ k ≤ q.f0.length ∧ WrAt w B (P0 ++ zbj (q.f0.take k)) w' ∧ w'.heap[w.heap.size]? = some (.cells #[.slice A q.f0.length c, .int .i64 q.f1, .int .i64 q.f2, .int .i64 q.f3, .int .i64 q.f4] 24 (0, 0))) (fun _ i _ => q.f0.length - (intOf i).toNat)
 case atStart => exact ⟨0, rfl, Nat.zero_le _, by rw [show P0 ++ zbj (q.f0.take 0) = P0 from by simp [zbj]]; exact HWwa1.out, HKzwa1.out⟩
 case round =>
  obtain ⟨k, rfl, hk, hwr, hz⟩ := hrel
  have HWR := Aside0.mk hwr
  have HZR := Aside0.mk hz
  have HBR := Aside0.mk hwr.below
  clear kzwa1a kzwa1b kzwa1c kzwa1d
  by_cases hlt : k < q.f0.length
  ·obtain ⟨ad, A1, c1, A6, c6, e, hx0, hx1, hx2, hx3, hx4, hx5, hx6, hl1, hi1, hl6, hi6⟩ := zbi HR.out (k : Int) (by omega) (by omega)
   subst e
   simp only [Int.toNat_natCast] at hx0 hx1 hx2 hx3 hx4 hx5 hx6
   rw [show zaj q.f0 (k : Int) = q.f0.getD k zStep from rfl] at hx0 hx1 hx2 hx3 hx4 hx5 hx6 hl1 hi1 hl6 hi6
   have hin := getD_in zStep hlt
   obtain ⟨fa, fb, hst⟩ := HST.out _ hin
   have HOK := Aside0.mk (HQ.out _ hin)
   have HSN := Aside0.mk (stepsL_snoc q.f0 k hlt)
   have hsl := HSL.out k
   rw [List.length_take] at hsl
   generalize q.f0.getD k zStep = x at *
   replace hx0 := (HBR.out.cell (World.block_lt_of_cell? w _ hx0)).trans hx0
   replace hx1 := (HBR.out.cell (World.block_lt_of_cell? w _ hx1)).trans hx1
   replace hx2 := (HBR.out.cell (World.block_lt_of_cell? w _ hx2)).trans hx2
   replace hx3 := (HBR.out.cell (World.block_lt_of_cell? w _ hx3)).trans hx3
   replace hx4 := (HBR.out.cell (World.block_lt_of_cell? w _ hx4)).trans hx4
   replace hx5 := (HBR.out.cell (World.block_lt_of_cell? w _ hx5)).trans hx5
   replace hx6 := (HBR.out.cell (World.block_lt_of_cell? w _ hx6)).trans hx6
   have HI1 := Aside0.mk hi1
   have HI6 := Aside0.mk hi6
   have HL1 := Aside0.mk hl1
   have HL6 := Aside0.mk hl6
   obtain ⟨hgd, hask, hm1, hm2, hm3, _⟩ := stepB_iff.1 hst
   have has := asked_size hask
   have HAS := Aside0.mk has.1
   have hsz0 := has.2
   obtain ⟨pre, hpre⟩ : ∃ p, P0 ++ zbj (q.f0.take k) = p := ⟨_, rfl⟩
   have HPRE := Aside0.mk hpre
   have hpl : pre.length ≤ 6000 := by rw [← hpre, List.length_append]; omega
   rw [hpre] at HWR hwr
   have HIA := Aside0.mk (i64B_iff.1 HOK.out.1)
   have HIB := Aside0.mk (i64B_iff.1 HOK.out.2)
   have hla := bytesO_len has.1 HIA.out
   have htl := textL_small hsz0
   obtain ⟨p1, hp1⟩ : ∃ p, pre ++ textL x.f0 = p := ⟨_, rfl⟩
   obtain ⟨p2, hp2⟩ : ∃ p, p1 ++ zbb x.f1 = p := ⟨_, rfl⟩
   obtain ⟨p3, hp3⟩ : ∃ p, p2 ++ numsL [x.f2, x.f3] = p := ⟨_, rfl⟩
   have hlm := numsL_len (l := [x.f2, x.f3]) (fun n hn => by simp only [List.mem_cons, List.not_mem_nil, or_false] at hn; rcases hn with rfl | rfl <;> omega)
   rw [show [x.f2, x.f3].length = 2 from rfl] at hlm
   have q1 : p1.length ≤ 6013 := by rw [← hp1, List.length_append]; omega
   have q2 : p2.length ≤ 6700 := by rw [← hp2, List.length_append]; omega
   have q3 : p3.length ≤ 6720 := by rw [← hp3, List.length_append]; omega
   have HP1 := Aside0.mk hp1
   have HP2 := Aside0.mk hp2
   have HP3 := Aside0.mk hp3
   have hbx := zab (Below.refl wr.heap.size wr) (.cells #[.string x.f0, .slice A1 x.f1.length c1, .int .i64 x.f2, .int .i64 x.f3, .bool x.f4, .string x.f5, .slice A6 x.f6.length c6] 40)
   have HWX := Aside0.mk (hwr.grow hbx)
   have HX := Aside0.mk (zat wr (.cells #[.string x.f0, .slice A1 x.f1.length c1, .int .i64 x.f2, .int .i64 x.f3, .bool x.f4, .string x.f5, .slice A6 x.f6.length c6] 40))
   have HZX := Aside0.mk (zag hz (.cells #[.string x.f0, .slice A1 x.f1.length c1, .int .i64 x.f2, .int .i64 x.f3, .bool x.f4, .string x.f5, .slice A6 x.f6.length c6] 40))
   have hxne : wr.heap.size ≠ B := by have := hwr.lt; omega
   have hmn : ∀ n ∈ [x.f2, x.f3], 0 ≤ n ∧ n < 9223372036854775808 := fun n hn => by simp only [List.mem_cons, List.not_mem_nil, or_false] at hn; rcases hn with rfl | rfl <;> omega
   have HMN := Aside0.mk hmn
   have hk1 : k + 1 ≤ q.f0.length := hlt
   obtain ⟨kx1, kx2, kx3, kx4⟩ := know HX.out
   clear hpre hi1 hi6 hl1 hl6 hsl hst hask has hla htl hp1 hp2 hp3 hlm hbx hwr hz hmn hin
   go_wp2_with fail
   go_at_call 22
   refine (wtext_told w B _ x.f0 _ (HWX.out) hsz0 (by omega)).mono ?_
   rintro e wb1 ⟨rfl, hwr, hkp⟩
   rw [HP1.out] at hwr
   have HWwb1 := Aside0.mk hwr
   have HKxwb1 := Aside0.mk (hkp _ _ _ hxne (by decide) (HX.out))
   obtain ⟨kxwb1a, kxwb1b, kxwb1c, kxwb1d⟩ := know HKxwb1.out
   have HKzwb1 := Aside0.mk (hkp _ _ _ hzne (by decide) (HZX.out))
   obtain ⟨kzwb1a, kzwb1b, kzwb1c, kzwb1d⟩ := know HKzwb1.out
   clear kx1 kx2 kx3 kx4
   clear hwr hkp
   go_wp2_with fail
   go_at_call 23
   refine (wops_told w B _ x.f1 A1 c1 _ (HWwb1.out) (Kd.C_below HI1.out (HWwb1.out).below) HL1.out HAS.out HIA.out (by omega)).mono ?_
   rintro e wb2 ⟨rfl, hwr, hkp⟩
   rw [HP2.out] at hwr
   have HWwb2 := Aside0.mk hwr
   have HKxwb2 := Aside0.mk (hkp _ _ _ hxne (by decide) (HKxwb1.out))
   obtain ⟨kxwb2a, kxwb2b, kxwb2c, kxwb2d⟩ := know HKxwb2.out
   have HKzwb2 := Aside0.mk (hkp _ _ _ hzne (by decide) (HKzwb1.out))
   obtain ⟨kzwb2a, kzwb2b, kzwb2c, kzwb2d⟩ := know HKzwb2.out
   clear kxwb1a kxwb1b kxwb1c kxwb1d kzwb1a kzwb1b kzwb1c kzwb1d
   clear hwr hkp
   have hbn := zab (Below.refl wb2.heap.size wb2) (.cells #[.int .i64 (x.f2), .int .i64 (x.f3)] 3)
   have hne_ : wb2.heap.size ≠ B := by have := (HWwb2.out).lt; omega
   go_wp2_with fail
   go_at_call 24
   refine (zbl w B _ [(x.f2 : Int), (x.f3 : Int)] (some ⟨wb2.heap.size, 0, none⟩) 2 _ ((HWwb2.out).grow hbn) (fun w' hk _ => C_ints (T := 3) _ (hk _ _ _ hne_ (by decide) (zat wb2 (.cells #[.int .i64 (x.f2), .int .i64 (x.f3)] 3))) (by show 2 ≤ 1000; decide)) HMN.out (by omega) (by show 2 ≤ 1000; decide)).mono ?_
   rintro e wb3 ⟨rfl, hwr, hkp⟩
   rw [HP3.out] at hwr
   have HWwb3 := Aside0.mk hwr
   have HKxwb3 := Aside0.mk (hkp _ _ _ hxne (by decide) (zag (HKxwb2.out) _))
   obtain ⟨kxwb3a, kxwb3b, kxwb3c, kxwb3d⟩ := know HKxwb3.out
   have HKzwb3 := Aside0.mk (hkp _ _ _ hzne (by decide) (zag (HKzwb2.out) _))
   obtain ⟨kzwb3a, kzwb3b, kzwb3c, kzwb3d⟩ := know HKzwb3.out
   clear kxwb2a kxwb2b kxwb2c kxwb2d kzwb2a kzwb2b kzwb2c kzwb2d
   clear hwr hkp
   clear hbn hne_
   rcases hgd with ⟨hg, _, hask2⟩ | ⟨hg, hn5, hn6⟩
   ·have has2 := asked_size hask2
    have HAS2 := Aside0.mk has2.1
    have hsz5 := has2.2
    have htl5 := textL_small hsz5
    obtain ⟨p4, hp4⟩ : ∃ p, p3 ++ numsL [(1 : Int)] = p := ⟨_, rfl⟩
    obtain ⟨p5, hp5⟩ : ∃ p, p4 ++ textL x.f5 = p := ⟨_, rfl⟩
    have hl1_ : (numsL [(1 : Int)]).length ≤ 10 := numsL_len (fun n hn => by rw [List.mem_singleton.1 hn]; decide)
    have q4 : p4.length ≤ 6730 := by rw [← hp4, List.length_append]; omega
    have q5 : p5.length ≤ 6750 := by rw [← hp5, List.length_append]; omega
    have HP4 := Aside0.mk hp4
    have HP5 := Aside0.mk hp5
    have HPN : Aside0 (p5 ++ zbb x.f6 = P0 ++ zbj (q.f0.take (k + 1))) := ⟨by rw [HSN.out, ← List.append_assoc, HPRE.out, ← HP5.out, ← HP4.out, ← HP3.out, ← HP2.out, ← HP1.out]; unfold bytesSt numsL; rw [if_pos hg]; simp⟩
    clear hask2 has2 htl5 hp4 hp5 hl1_
    have hbn := zab (Below.refl wb3.heap.size wb3) (.cells #[.int .i64 (1)] 3)
    have hne_ : wb3.heap.size ≠ B := by have := (HWwb3.out).lt; omega
    go_wp2_with fail
    go_at_call 24
    refine (zbl w B _ [(1 : Int)] (some ⟨wb3.heap.size, 0, none⟩) 1 _ ((HWwb3.out).grow hbn) (fun w' hk _ => C_ints (T := 3) _ (hk _ _ _ hne_ (by decide) (zat wb3 (.cells #[.int .i64 (1)] 3))) (by show 1 ≤ 1000; decide)) (fun n hn => by rw [List.mem_singleton.1 hn]; decide) (by omega) (by show 1 ≤ 1000; decide)).mono ?_
    rintro e wc1 ⟨rfl, hwr, hkp⟩
    rw [HP4.out] at hwr
    have HWwc1 := Aside0.mk hwr
    have HKxwc1 := Aside0.mk (hkp _ _ _ hxne (by decide) (zag (HKxwb3.out) _))
    obtain ⟨kxwc1a, kxwc1b, kxwc1c, kxwc1d⟩ := know HKxwc1.out
    have HKzwc1 := Aside0.mk (hkp _ _ _ hzne (by decide) (zag (HKzwb3.out) _))
    obtain ⟨kzwc1a, kzwc1b, kzwc1c, kzwc1d⟩ := know HKzwc1.out
    clear kxwb3a kxwb3b kxwb3c kxwb3d kzwb3a kzwb3b kzwb3c kzwb3d
    clear hwr hkp
    clear hbn hne_
    go_wp2_with fail
    go_at_call 22
    refine (wtext_told w B _ x.f5 _ (HWwc1.out) hsz5 (by omega)).mono ?_
    rintro e wc2 ⟨rfl, hwr, hkp⟩
    rw [HP5.out] at hwr
    have HWwc2 := Aside0.mk hwr
    have HKxwc2 := Aside0.mk (hkp _ _ _ hxne (by decide) (HKxwc1.out))
    obtain ⟨kxwc2a, kxwc2b, kxwc2c, kxwc2d⟩ := know HKxwc2.out
    have HKzwc2 := Aside0.mk (hkp _ _ _ hzne (by decide) (HKzwc1.out))
    obtain ⟨kzwc2a, kzwc2b, kzwc2c, kzwc2d⟩ := know HKzwc2.out
    clear kxwc1a kxwc1b kxwc1c kxwc1d kzwc1a kzwc1b kzwc1c kzwc1d
    clear hwr hkp
    go_wp2_with fail
    go_at_call 23
    refine (wops_told w B _ x.f6 A6 c6 _ (HWwc2.out) (Kd.C_below HI6.out (HWwc2.out).below) HL6.out HAS2.out HIB.out (by omega)).mono ?_
    rintro e wc3 ⟨rfl, hwr, hkp⟩
    rw [HPN.out] at hwr
    have HWwc3 := Aside0.mk hwr
    have HKxwc3 := Aside0.mk (hkp _ _ _ hxne (by decide) (HKxwc2.out))
    obtain ⟨kxwc3a, kxwc3b, kxwc3c, kxwc3d⟩ := know HKxwc3.out
    have HKzwc3 := Aside0.mk (hkp _ _ _ hzne (by decide) (HKzwc2.out))
    obtain ⟨kzwc3a, kzwc3b, kzwc3c, kzwc3d⟩ := know HKzwc3.out
    clear kxwc2a kxwc2b kxwc2c kxwc2d kzwc2a kzwc2b kzwc2c kzwc2d
    clear hwr hkp
    go_wp2_with fail
    go_roundw
    case rel => exact ⟨k + 1, by go_num, hk1, HWwc3.out, HKzwc3.out⟩
    case measure => simp [intOf]; omega
   ·have HPN : Aside0 (p3 ++ numsL [(0 : Int)] = P0 ++ zbj (q.f0.take (k + 1))) := ⟨by rw [HSN.out, ← List.append_assoc, HPRE.out, ← HP3.out, ← HP2.out, ← HP1.out]; unfold bytesSt numsL; rw [if_neg (by rw [hg]; decide)]; simp⟩
    have hbn := zab (Below.refl wb3.heap.size wb3) (.cells #[.int .i64 (0)] 3)
    have hne_ : wb3.heap.size ≠ B := by have := (HWwb3.out).lt; omega
    go_wp2_with fail
    go_at_call 24
    refine (zbl w B _ [(0 : Int)] (some ⟨wb3.heap.size, 0, none⟩) 1 _ ((HWwb3.out).grow hbn) (fun w' hk _ => C_ints (T := 3) _ (hk _ _ _ hne_ (by decide) (zat wb3 (.cells #[.int .i64 (0)] 3))) (by show 1 ≤ 1000; decide)) (fun n hn => by rw [List.mem_singleton.1 hn]; decide) (by omega) (by show 1 ≤ 1000; decide)).mono ?_
    rintro e wd1 ⟨rfl, hwr, hkp⟩
    rw [HPN.out] at hwr
    have HWwd1 := Aside0.mk hwr
    have HKxwd1 := Aside0.mk (hkp _ _ _ hxne (by decide) (zag (HKxwb3.out) _))
    obtain ⟨kxwd1a, kxwd1b, kxwd1c, kxwd1d⟩ := know HKxwd1.out
    have HKzwd1 := Aside0.mk (hkp _ _ _ hzne (by decide) (zag (HKzwb3.out) _))
    obtain ⟨kzwd1a, kzwd1b, kzwd1c, kzwd1d⟩ := know HKzwd1.out
    clear kxwb3a kxwb3b kxwb3c kxwb3d kzwb3a kzwb3b kzwb3c kzwb3d
    clear hwr hkp
    clear hbn hne_
    go_wp2_with fail
    go_roundw
    case rel => exact ⟨k + 1, by go_num, hk1, HWwd1.out, HKzwd1.out⟩
    case measure => simp [intOf]; omega
  ·obtain rfl : k = q.f0.length := by omega
   rw [List.take_length] at HWR hwr
   have hsl := HSL.out q.f0.length
   rw [List.take_length] at hsl
   have hpl : (P0 ++ zbj q.f0).length ≤ 6000 := by rw [List.length_append]; omega
   obtain ⟨y1, y2, y3, y4⟩ := know hz
   have HNS : Aside0 (∀ n ∈ [q.f1, q.f2, q.f3, q.f4], 0 ≤ n ∧ n < 9223372036854775808) := ⟨fun n hn => by simp only [List.mem_cons, List.not_mem_nil, or_false] at hn; rcases hn with rfl | rfl | rfl | rfl <;> omega⟩
   clear hsl hwr hz
   have hbn := zab (Below.refl wr.heap.size wr) (.cells #[.int .i64 (q.f1), .int .i64 (q.f2), .int .i64 (q.f3), .int .i64 (q.f4)] 3)
   have hne_ : wr.heap.size ≠ B := by have := (HWR.out).lt; omega
   go_wp2_with fail
   go_at_call 24
   refine (zbl w B _ [(q.f1 : Int), (q.f2 : Int), (q.f3 : Int), (q.f4 : Int)] (some ⟨wr.heap.size, 0, none⟩) 4 _ ((HWR.out).grow hbn) (fun w' hk _ => C_ints (T := 3) _ (hk _ _ _ hne_ (by decide) (zat wr (.cells #[.int .i64 (q.f1), .int .i64 (q.f2), .int .i64 (q.f3), .int .i64 (q.f4)] 3))) (by show 4 ≤ 1000; decide)) HNS.out (by omega) (by show 4 ≤ 1000; decide)).mono ?_
   rintro e we1 ⟨rfl, hwr, hkp⟩
   rw [← HBQ.out] at hwr
   have HWwe1 := Aside0.mk hwr
   have HKzwe1 := Aside0.mk (hkp _ _ _ hzne (by decide) (zag (HZR.out) _))
   obtain ⟨kzwe1a, kzwe1b, kzwe1c, kzwe1d⟩ := know HKzwe1.out
   clear y1 y2 y3 y4
   clear hwr hkp
   clear hbn hne_
   obtain ⟨⟨v, h1, h2⟩, h3, h4⟩ := HWwe1.out
   obtain ⟨m1, m2, m3, m4⟩ := know h1
   have H2 := Aside0.mk h2
   have H3 := Aside0.mk h3
   clear h1 h2 h3
   go_wp2_with fail
   go_ret2
   exact ⟨_, rfl, H2.out, H3.out⟩
theorem putQ_told (q : SQuery) (A : Option Addr) (c : Nat) (w : World) (hr : Kd.C kStep w A q.f0.length q.f0) (hc : q.f0.length ≤ c) (hq : okQ q) (hn : q.f0.length < 4611686018427387904) {b : Bool} (hm : mayQ q = b) {P : List Int} (hP : (if b then zbr q else []) = P) :
  Calls Try.prog 11 #[.agg #[.slice A q.f0.length c, .int .i64 q.f1, .int .i64 q.f2, .int .i64 q.f3, .int .i64 q.f4]] w (bytesPost 5 P b w) := by
 subst hP
 cases b with
 | false => exact putQ_no q A c w hr hc hq hn hm
 | true => exact putQ_go q A c w hr hc hq hm
structure RdAt (w0 : World) (B : Nat) (s : Option (List Int)) (w : World) : Prop where
 ex : ∃ A c l bad, w.heap[B]? = some (.cells #[.slice A l.length c, .bool bad] 58 (0, 0)) ∧ l.length ≤ c ∧ Kd.C (Kd.int .u8) w0 A l.length l ∧ zaJ l ∧ l.length < 4611686018427387904 ∧ s = (if bad = true then none else some l)
 below : Below w0.heap.size w0 w
 hB : w0.heap.size ≤ B
theorem RdAt.grow {w0 w w1 : World} {B : Nat} {s : Option (List Int)} (h : RdAt w0 B s w) (hb : Below w.heap.size w w1) : RdAt w0 B s w1 := by
 obtain ⟨⟨A, c, l, bad, h1, h2⟩, h3, h4⟩ := h
 exact ⟨⟨A, c, l, bad, zak h1 hb, h2⟩, zah h3 hb, h4⟩
theorem RdAt.lt {w0 w : World} {B : Nat} {s : Option (List Int)} (h : RdAt w0 B s w) : B < w.heap.size := by
 obtain ⟨⟨A, c, l, bad, h1, h2⟩, h3, h4⟩ := h
 exact zaA h1
def rdPost (w0 : World) (B : Nat) (s : Option (List Int)) (v : Value) (w : World) (e : Ending) (w' : World) : Prop := e = .returned v ∧ RdAt w0 B s w' ∧ Only B w w'
set_option maxHeartbeats 1000000 in
set_option maxRecDepth 100000 in
theorem skip_told (w0 : World) (B : Nat) (s : Option (List Int)) (n : Nat) (is : Bool) (w : World) (h : RdAt w0 B s w) (hn : n < 4611686018427387904) :
  Calls Try.prog 43 #[.pointer (some ⟨B, 0, none⟩), .int .i64 (n : Int), .bool is] w (rdPost w0 B (s.bind (skipR n is)) (.tuple #[]) w) := by
 have hlt := h.lt
 obtain ⟨⟨A, c, l, bad, h1, h2, h3, h4, h5, rfl⟩, h6, h7⟩ := h
 have HK := Aside0.mk h1
 have HR := Aside0.mk h3
 have HBY := Aside0.mk h4
 have HB := Aside0.mk h6
 have HC := Aside0.mk h2
 cases bad with
 | true =>
  obtain ⟨k1, k2, k3, k4⟩ := know h1
  clear h1 h2 h3 h4 h6
  go_enter Try.func43, Try.ntmps43
  go_wp2_with fail
  go_end0
  have hk := zar HK.out 1 (Value.bool true) rfl
  exact ⟨rfl, ⟨⟨A, c, l, true, hk, HC.out, HR.out, HBY.out, h5, rfl⟩, zaf HB.out h7, h7⟩, Only.set (Only.refl _ _) _⟩
 | false =>
  rw [if_neg (by decide), Option.bind_some]
  unfold skipR
  cases is with
  | false =>
   rw [if_neg (fun h => by cases h.1)]
   obtain ⟨k1, k2, k3, k4⟩ := know h1
   clear h1 h2 h3 h4 h6
   go_enter Try.func43, Try.ntmps43
   go_wp2_with fail
   go_end0
   have hk := zar HK.out 1 (Value.bool true) rfl
   exact ⟨rfl, ⟨⟨A, c, l, true, hk, HC.out, HR.out, HBY.out, h5, rfl⟩, zaf HB.out h7, h7⟩, Only.set (Only.refl _ _) _⟩
  | true =>
   by_cases hl : n ≤ l.length
   ·rw [if_pos ⟨rfl, hl⟩]
    obtain ⟨i0, hi0, _, hsz0, _⟩ := info_parts info5
    obtain ⟨A', hcut, hC', hlc⟩ := drop_row (P := Try.prog) (d := Kd.int .u8) Try.underlying25 hi0 hsz0 A c l n (n : Int) rfl hl h2
    have HR2 := Aside0.mk (hC' w0 h3)
    have HLC := Aside0.mk hlc
    obtain ⟨k1, k2, k3, k4⟩ := know h1
    have k5 := zar h1 1 (Value.bool false) rfl
    obtain ⟨j1, j2, j3, j4⟩ := know k5
    have hgt : ¬ (n : Int) > (l.length : Int) := by omega
    have hgtd : decide ((l.length : Int) < (n : Int)) = false := decide_eq_false (by omega)
    clear h1 h2 h3 h4 h6 hC' hlc hi0 hsz0
    go_enter Try.func43, Try.ntmps43
    go_wp2_with fail
    go_end0
    have hk := zar (zar HK.out 1 (Value.bool false) rfl) 0 (Value.slice A' (l.length - n) (c - n)) rfl
    exact ⟨rfl, ⟨⟨A', c - n, l.drop n, false, by rw [List.length_drop]; exact hk, HLC.out, HR2.out, zbn HBY.out n, by rw [List.length_drop]; omega, rfl⟩, zaf (zaf HB.out h7) h7, h7⟩, Only.set (Only.set (Only.refl _ _) _) _⟩
   ·rw [if_neg (fun h => hl h.2)]
    obtain ⟨k1, k2, k3, k4⟩ := know h1
    have k5 := zar h1 1 (Value.bool true) rfl
    obtain ⟨j1, j2, j3, j4⟩ := know k5
    have hgt : (n : Int) > (l.length : Int) := by omega
    have hgtd : decide ((l.length : Int) < (n : Int)) = true := decide_eq_true (by omega)
    clear h1 h2 h3 h4 h6
    go_enter Try.func43, Try.ntmps43
    go_wp2_with fail
    go_end0
    exact ⟨rfl, ⟨⟨A, c, l, true, k5, HC.out, HR.out, HBY.out, h5, rfl⟩, zaf HB.out h7, h7⟩, Only.set (Only.refl _ _) _⟩
def le_Get.l0 : Nat → List Int → Int → Int → Int → Option (Int × Int × Bool)
 | 0, _, _, _, _ => none
 | k + 1, x0, x5, x10, x11 => if x11 < x10 then (if 0 ≤ x11 then (if x11 < (x0.length : Int) then (if 0 ≤ (wrap64 (7 * x11)) then (if (IntKind.u64.wrap (rd x0 x11)) ≥ 128 then (le_Get.l0 k x0 (Go.bits .or .u64 x5 (shl .u64 (Go.bits .andNot .u64 (IntKind.u64.wrap (rd x0 x11)) 128) (wrap64 (7 * x11)))) x10 (wrap64 (x11 + 1))) else (if x11 > 0 then (if (IntKind.u64.wrap (rd x0 x11)) = 0 then (some (0, 0, false)) else (if x11 = 9 then (if (IntKind.u64.wrap (rd x0 x11)) > 1 then (some (0, 0, false)) else (some (Go.bits .or .u64 x5 (shl .u64 (Go.bits .andNot .u64 (IntKind.u64.wrap (rd x0 x11)) 128) (wrap64 (7 * x11))), wrap64 (x11 + 1), true))) else (some (Go.bits .or .u64 x5 (shl .u64 (Go.bits .andNot .u64 (IntKind.u64.wrap (rd x0 x11)) 128) (wrap64 (7 * x11))), wrap64 (x11 + 1), true)))) else (if x11 = 9 then (if (IntKind.u64.wrap (rd x0 x11)) > 1 then (some (0, 0, false)) else (some (Go.bits .or .u64 x5 (shl .u64 (Go.bits .andNot .u64 (IntKind.u64.wrap (rd x0 x11)) 128) (wrap64 (7 * x11))), wrap64 (x11 + 1), true))) else (some (Go.bits .or .u64 x5 (shl .u64 (Go.bits .andNot .u64 (IntKind.u64.wrap (rd x0 x11)) 128) (wrap64 (7 * x11))), wrap64 (x11 + 1), true))))) else (none)) else (none)) else (none)) else (some (0, 0, false))
def le_Get.f (k : Nat) (l0 : List Int) : Option (Int × Int × Bool) := le_Get.l0 k l0 0 (mn (l0.length : Int) 10) 0
set_option maxHeartbeats 8000000 in
set_option maxRecDepth 100000 in
theorem le_Get.calls (k : Nat) (A0 : Option Addr) (c0 : Nat) (l0 : List Int) (r1 : Int) (r2 : Int) (r3 : Bool) (w : World) (hr0 : Kd.C (Kd.int .u8) w A0 l0.length l0) (hc0 : l0.length ≤ c0) (h : le_Get.f k l0 = some (r1, r2, r3)) :
  Calls Try.prog 42 #[.slice A0 l0.length c0] w fun e w' => e = .returned (.tuple #[.int .u64 r1, .int .i64 r2, .bool r3]) ∧ Below w.heap.size w w' := by
 have HR0 := Aside0.mk hr0
 have HC0 := Aside0.mk hc0
 clear hr0 hc0
 have HB := Aside0.mk (Below.refl w.heap.size w)
 have H : (le_Get.l0 k l0 0 (mn (l0.length : Int) 10) 0) = some (r1, r2, r3) := h
 clear h
 obtain ⟨ji2, hji2⟩ : ∃ j_ : Int, (mn (l0.length : Int) 10) = j_ := ⟨_, rfl⟩
 replace H : (le_Get.l0 k l0 0 ji2 0) = some (r1, r2, r3) := by first | (rw [hji2] at H; exact H) | (simp only [hji2] at H ⊢; exact H)
 (try (have hji2h : ji2 ≤ 10 := by (rw [← hji2]; unfold mn; (repeat' split) <;> omega)))
 (try (have hji2g : ji2 ≤ 64 := by omega))
 (try (have hji2l : 0 ≤ ji2 := by (rw [← hji2]; unfold mn; (repeat' split) <;> omega)))
 (try (have hji2m : 0 ≤ ji2 := by omega))
 have hji2_ : (if 10 < (l0.length : Int) then 10 else (l0.length : Int)) = ji2 := hji2
 have H' := Aside0.mk H
 clear H
 go_enter Try.func42, Try.ntmps42
 go_wp2
 go_loopg [5, 11] k (fun kq v5 v11 w' => ∃ (x5_1 : Int) (x11_1 : Int), v5 = .int .u64 x5_1 ∧ v11 = .int .i64 x11_1 ∧ Aside0 (le_Get.l0 kq l0 x5_1 ji2 x11_1 = some (r1, r2, r3)) ∧ Aside0 (kq ≤ k) ∧ Aside0 (Below w.heap.size w w'))
 case atStart => exact ⟨(0), (0), (by first | rfl | (simp; done) | (simp [*]; done)), (by first | rfl | (simp; done) | (simp [*]; done)), H', ⟨Nat.le_refl _⟩, ⟨by repeat (first | (with_reducible first | exact HB.out | apply zab | apply zad | apply zae) | exact HB.out)⟩⟩
 case round =>
  clear H'
  try clear p2
  obtain ⟨x5_1, x11_1, rfl, rfl, HA, HK1, HB⟩ := hrel
  cases gk with
  | zero => exact absurd HA.out (by simp [le_Get.l0])
  | succ k1 =>
   have H := HA.out
   clear HA
   simp only [le_Get.l0] at H
   by_cases c3 : x11_1 < ji2
   ·rw [if_pos c3] at H
    have c3b0 : decide (x11_1 < ji2) = true := decide_eq_true c3
    clear c3
    by_cases c4 : 0 ≤ x11_1
    ·rw [if_pos c4] at H
     have c4b0 : decide (0 ≤ x11_1) = true := decide_eq_true c4
     clear c4
     by_cases c5 : x11_1 < (l0.length : Int)
     ·rw [if_pos c5] at H
      have c5b0 : decide (x11_1 < (l0.length : Int)) = true := decide_eq_true c5
      clear c5
      obtain ⟨ji6, hji6⟩ : ∃ j_ : Int, (wrap64 (7 * x11_1)) = j_ := ⟨_, rfl⟩
      replace H : (if 0 ≤ (ji6) then (if (IntKind.u64.wrap (rd l0 x11_1)) ≥ 128 then (le_Get.l0 k1 l0 (Go.bits .or .u64 x5_1 (shl .u64 (Go.bits .andNot .u64 (IntKind.u64.wrap (rd l0 x11_1)) 128) (ji6))) ji2 (wrap64 (x11_1 + 1))) else (if x11_1 > 0 then (if (IntKind.u64.wrap (rd l0 x11_1)) = 0 then (some (0, 0, false)) else (if x11_1 = 9 then (if (IntKind.u64.wrap (rd l0 x11_1)) > 1 then (some (0, 0, false)) else (some (Go.bits .or .u64 x5_1 (shl .u64 (Go.bits .andNot .u64 (IntKind.u64.wrap (rd l0 x11_1)) 128) (ji6)), wrap64 (x11_1 + 1), true))) else (some (Go.bits .or .u64 x5_1 (shl .u64 (Go.bits .andNot .u64 (IntKind.u64.wrap (rd l0 x11_1)) 128) (ji6)), wrap64 (x11_1 + 1), true)))) else (if x11_1 = 9 then (if (IntKind.u64.wrap (rd l0 x11_1)) > 1 then (some (0, 0, false)) else (some (Go.bits .or .u64 x5_1 (shl .u64 (Go.bits .andNot .u64 (IntKind.u64.wrap (rd l0 x11_1)) 128) (ji6)), wrap64 (x11_1 + 1), true))) else (some (Go.bits .or .u64 x5_1 (shl .u64 (Go.bits .andNot .u64 (IntKind.u64.wrap (rd l0 x11_1)) 128) (ji6)), wrap64 (x11_1 + 1), true))))) else (none)) = some (r1, r2, r3) := by first | (rw [hji6] at H; exact H) | (simp only [hji6] at H ⊢; exact H)
      have hji6w : (IntKind.i64.wrap (7 * x11_1)) = ji6 := (i64_w _).trans hji6
      by_cases c7 : 0 ≤ (ji6)
      ·rw [if_pos c7] at H
       have c7b0 := eq_true c7
       have c7b1 : decide (0 ≤ (ji6)) = true := decide_eq_true c7
       clear c7
       obtain ⟨ji8, hji8⟩ : ∃ j_ : Int, (shl .u64 (Go.bits .andNot .u64 (IntKind.u64.wrap (rd l0 x11_1)) 128) (ji6)) = j_ := ⟨_, rfl⟩
       replace H : (if (IntKind.u64.wrap (rd l0 x11_1)) ≥ 128 then (le_Get.l0 k1 l0 (Go.bits .or .u64 x5_1 (ji8)) ji2 (wrap64 (x11_1 + 1))) else (if x11_1 > 0 then (if (IntKind.u64.wrap (rd l0 x11_1)) = 0 then (some (0, 0, false)) else (if x11_1 = 9 then (if (IntKind.u64.wrap (rd l0 x11_1)) > 1 then (some (0, 0, false)) else (some (Go.bits .or .u64 x5_1 (ji8), wrap64 (x11_1 + 1), true))) else (some (Go.bits .or .u64 x5_1 (ji8), wrap64 (x11_1 + 1), true)))) else (if x11_1 = 9 then (if (IntKind.u64.wrap (rd l0 x11_1)) > 1 then (some (0, 0, false)) else (some (Go.bits .or .u64 x5_1 (ji8), wrap64 (x11_1 + 1), true))) else (some (Go.bits .or .u64 x5_1 (ji8), wrap64 (x11_1 + 1), true))))) = some (r1, r2, r3) := by first | (rw [hji8] at H; exact H) | (simp only [hji8] at H ⊢; exact H)
       have hji8_ : (IntKind.u64.wrap ((Go.bits .andNot .u64 (IntKind.u64.wrap (rd l0 x11_1)) 128) * 2 ^ min (ji6).toNat 64)) = ji8 := hji8
       have hji8z : (ji6) ≤ 64 → (IntKind.u64.wrap ((Go.bits .andNot .u64 (IntKind.u64.wrap (rd l0 x11_1)) 128) * 2 ^ (ji6).toNat)) = ji8 := shl_small hji8
       by_cases c9 : (IntKind.u64.wrap (rd l0 x11_1)) ≥ 128
       ·rw [if_pos c9] at H
        have c9b0 : decide (128 ≤ (IntKind.u64.wrap (rd l0 x11_1))) = true := decide_eq_true c9
        clear c9
        have H' := Aside0.mk H
        clear H
        have p123 : 0 ≤ (x11_1 : Int) := of_decide_eq_true (by first | (with_reducible assumption) | assumption)
        have q123 : x11_1 < (l0.length : Int) := of_decide_eq_true (by first | (with_reducible assumption) | assumption)
        obtain ⟨ad123, e123, hx123_0⟩ := Kd.at_int HR0.out x11_1 p123 q123
        cases e123
        replace hx123_0 := (HB.out.cell (World.block_lt_of_cell? w _ hx123_0)).trans hx123_0
        replace p123 := eq_true p123
        replace q123 := eq_true q123
        go_wp2
        go_roundg k1
        case measure => have := HK1.out; omega
        case rel => exact ⟨(Go.bits .or .u64 x5_1 (ji8)), (wrap64 (x11_1 + 1)), (by first | rfl | (simp; done) | (simp only [← hji8] <;> (first | rfl | simp)) | (simp [*]; done)), (by first | rfl | (simp; done) | (simp [*]; done)), H', ⟨by have := HK1.out; omega⟩, ⟨by repeat (first | (with_reducible first | exact HB.out | apply zab | apply zad | apply zae) | exact HB.out)⟩⟩
       ·rw [if_neg c9] at H
        have c9b0 : decide (128 ≤ (IntKind.u64.wrap (rd l0 x11_1))) = false := decide_eq_false c9
        clear c9
        by_cases c10 : x11_1 > 0
        ·rw [if_pos c10] at H
         have c10b0 : decide (0 < x11_1) = true := decide_eq_true c10
         clear c10
         by_cases c11 : (IntKind.u64.wrap (rd l0 x11_1)) = 0
         ·rw [if_pos c11] at H
          have c11b0 : ((IntKind.u64.wrap (rd l0 x11_1)) == 0) = true := beq_iff_eq.mpr c11
          have c11b1 : ((IntKind.u64.wrap (rd l0 x11_1)) != 0) = false := bne_eq_false_iff_eq.mpr c11
          clear c11
          simp only [Option.some.injEq, Prod.mk.injEq] at H
          obtain ⟨rfl, rfl, rfl⟩ := H
          have p123 : 0 ≤ (x11_1 : Int) := of_decide_eq_true (by first | (with_reducible assumption) | assumption)
          have q123 : x11_1 < (l0.length : Int) := of_decide_eq_true (by first | (with_reducible assumption) | assumption)
          obtain ⟨ad123, e123, hx123_0⟩ := Kd.at_int HR0.out x11_1 p123 q123
          cases e123
          replace hx123_0 := (HB.out.cell (World.block_lt_of_cell? w _ hx123_0)).trans hx123_0
          replace p123 := eq_true p123
          replace q123 := eq_true q123
          go_wp2
          go_ret3
          exact ⟨by first | rfl | (simp [zan, zam] <;> rfl) | (simp only [← hji2, ← hji6, ← hji8]; first | rfl | (simp [zan, zam] <;> rfl)) | (simp [*, zan, zam] <;> rfl), by repeat (first | (with_reducible first | exact HB.out | apply zab | apply zad | apply zae) | exact HB.out)⟩
         ·rw [if_neg c11] at H
          have c11b0 : ((IntKind.u64.wrap (rd l0 x11_1)) == 0) = false := beq_eq_false_iff_ne.mpr c11
          have c11b1 : ((IntKind.u64.wrap (rd l0 x11_1)) != 0) = true := bne_iff_ne.mpr c11
          by_cases c12 : x11_1 = 9
          ·rw [if_pos c12] at H
           have c12b0 : (x11_1 == 9) = true := beq_iff_eq.mpr c12
           have c12b1 : (x11_1 != 9) = false := bne_eq_false_iff_eq.mpr c12
           clear c12
           by_cases c13 : (IntKind.u64.wrap (rd l0 x11_1)) > 1
           ·rw [if_pos c13] at H
            have c13b0 : decide (1 < (IntKind.u64.wrap (rd l0 x11_1))) = true := decide_eq_true c13
            clear c13
            simp only [Option.some.injEq, Prod.mk.injEq] at H
            obtain ⟨rfl, rfl, rfl⟩ := H
            have p123 : 0 ≤ (x11_1 : Int) := of_decide_eq_true (by first | (with_reducible assumption) | assumption)
            have q123 : x11_1 < (l0.length : Int) := of_decide_eq_true (by first | (with_reducible assumption) | assumption)
            obtain ⟨ad123, e123, hx123_0⟩ := Kd.at_int HR0.out x11_1 p123 q123
            cases e123
            replace hx123_0 := (HB.out.cell (World.block_lt_of_cell? w _ hx123_0)).trans hx123_0
            replace p123 := eq_true p123
            replace q123 := eq_true q123
            go_wp2
            go_ret3
            exact ⟨by first | rfl | (simp [zan, zam] <;> rfl) | (simp only [← hji2, ← hji6, ← hji8]; first | rfl | (simp [zan, zam] <;> rfl)) | (simp [*, zan, zam] <;> rfl), by repeat (first | (with_reducible first | exact HB.out | apply zab | apply zad | apply zae) | exact HB.out)⟩
           ·rw [if_neg c13] at H
            have c13b0 : decide (1 < (IntKind.u64.wrap (rd l0 x11_1))) = false := decide_eq_false c13
            clear c13
            simp only [Option.some.injEq, Prod.mk.injEq] at H
            obtain ⟨rfl, rfl, rfl⟩ := H
            have p123 : 0 ≤ (x11_1 : Int) := of_decide_eq_true (by first | (with_reducible assumption) | assumption)
            have q123 : x11_1 < (l0.length : Int) := of_decide_eq_true (by first | (with_reducible assumption) | assumption)
            obtain ⟨ad123, e123, hx123_0⟩ := Kd.at_int HR0.out x11_1 p123 q123
            cases e123
            replace hx123_0 := (HB.out.cell (World.block_lt_of_cell? w _ hx123_0)).trans hx123_0
            replace p123 := eq_true p123
            replace q123 := eq_true q123
            go_wp2
            go_ret3
            exact ⟨by first | rfl | (simp [zan, zam] <;> rfl) | (simp only [← hji2, ← hji6, ← hji8]; first | rfl | (simp [zan, zam] <;> rfl)) | (simp [*, zan, zam] <;> rfl), by repeat (first | (with_reducible first | exact HB.out | apply zab | apply zad | apply zae) | exact HB.out)⟩
          ·rw [if_neg c12] at H
           have c12b0 : (x11_1 == 9) = false := beq_eq_false_iff_ne.mpr c12
           have c12b1 : (x11_1 != 9) = true := bne_iff_ne.mpr c12
           simp only [Option.some.injEq, Prod.mk.injEq] at H
           obtain ⟨rfl, rfl, rfl⟩ := H
           have p123 : 0 ≤ (x11_1 : Int) := of_decide_eq_true (by first | (with_reducible assumption) | assumption)
           have q123 : x11_1 < (l0.length : Int) := of_decide_eq_true (by first | (with_reducible assumption) | assumption)
           obtain ⟨ad123, e123, hx123_0⟩ := Kd.at_int HR0.out x11_1 p123 q123
           cases e123
           replace hx123_0 := (HB.out.cell (World.block_lt_of_cell? w _ hx123_0)).trans hx123_0
           replace p123 := eq_true p123
           replace q123 := eq_true q123
           go_wp2
           go_ret3
           exact ⟨by first | rfl | (simp [zan, zam] <;> rfl) | (simp only [← hji2, ← hji6, ← hji8]; first | rfl | (simp [zan, zam] <;> rfl)) | (simp [*, zan, zam] <;> rfl), by repeat (first | (with_reducible first | exact HB.out | apply zab | apply zad | apply zae) | exact HB.out)⟩
        ·rw [if_neg c10] at H
         have c10b0 : decide (0 < x11_1) = false := decide_eq_false c10
         clear c10
         by_cases c14 : x11_1 = 9
         ·rw [if_pos c14] at H
          have c14b0 : (x11_1 == 9) = true := beq_iff_eq.mpr c14
          have c14b1 : (x11_1 != 9) = false := bne_eq_false_iff_eq.mpr c14
          clear c14
          by_cases c15 : (IntKind.u64.wrap (rd l0 x11_1)) > 1
          ·rw [if_pos c15] at H
           have c15b0 : decide (1 < (IntKind.u64.wrap (rd l0 x11_1))) = true := decide_eq_true c15
           clear c15
           simp only [Option.some.injEq, Prod.mk.injEq] at H
           obtain ⟨rfl, rfl, rfl⟩ := H
           have p123 : 0 ≤ (x11_1 : Int) := of_decide_eq_true (by first | (with_reducible assumption) | assumption)
           have q123 : x11_1 < (l0.length : Int) := of_decide_eq_true (by first | (with_reducible assumption) | assumption)
           obtain ⟨ad123, e123, hx123_0⟩ := Kd.at_int HR0.out x11_1 p123 q123
           cases e123
           replace hx123_0 := (HB.out.cell (World.block_lt_of_cell? w _ hx123_0)).trans hx123_0
           replace p123 := eq_true p123
           replace q123 := eq_true q123
           go_wp2
           go_ret3
           exact ⟨by first | rfl | (simp [zan, zam] <;> rfl) | (simp only [← hji2, ← hji6, ← hji8]; first | rfl | (simp [zan, zam] <;> rfl)) | (simp [*, zan, zam] <;> rfl), by repeat (first | (with_reducible first | exact HB.out | apply zab | apply zad | apply zae) | exact HB.out)⟩
          ·rw [if_neg c15] at H
           have c15b0 : decide (1 < (IntKind.u64.wrap (rd l0 x11_1))) = false := decide_eq_false c15
           clear c15
           simp only [Option.some.injEq, Prod.mk.injEq] at H
           obtain ⟨rfl, rfl, rfl⟩ := H
           have p123 : 0 ≤ (x11_1 : Int) := of_decide_eq_true (by first | (with_reducible assumption) | assumption)
           have q123 : x11_1 < (l0.length : Int) := of_decide_eq_true (by first | (with_reducible assumption) | assumption)
           obtain ⟨ad123, e123, hx123_0⟩ := Kd.at_int HR0.out x11_1 p123 q123
           cases e123
           replace hx123_0 := (HB.out.cell (World.block_lt_of_cell? w _ hx123_0)).trans hx123_0
           replace p123 := eq_true p123
           replace q123 := eq_true q123
           go_wp2
           go_ret3
           exact ⟨by first | rfl | (simp [zan, zam] <;> rfl) | (simp only [← hji2, ← hji6, ← hji8]; first | rfl | (simp [zan, zam] <;> rfl)) | (simp [*, zan, zam] <;> rfl), by repeat (first | (with_reducible first | exact HB.out | apply zab | apply zad | apply zae) | exact HB.out)⟩
         ·rw [if_neg c14] at H
          have c14b0 : (x11_1 == 9) = false := beq_eq_false_iff_ne.mpr c14
          have c14b1 : (x11_1 != 9) = true := bne_iff_ne.mpr c14
          simp only [Option.some.injEq, Prod.mk.injEq] at H
          obtain ⟨rfl, rfl, rfl⟩ := H
          have p123 : 0 ≤ (x11_1 : Int) := of_decide_eq_true (by first | (with_reducible assumption) | assumption)
          have q123 : x11_1 < (l0.length : Int) := of_decide_eq_true (by first | (with_reducible assumption) | assumption)
          obtain ⟨ad123, e123, hx123_0⟩ := Kd.at_int HR0.out x11_1 p123 q123
          cases e123
          replace hx123_0 := (HB.out.cell (World.block_lt_of_cell? w _ hx123_0)).trans hx123_0
          replace p123 := eq_true p123
          replace q123 := eq_true q123
          go_wp2
          go_ret3
          exact ⟨by first | rfl | (simp [zan, zam] <;> rfl) | (simp only [← hji2, ← hji6, ← hji8]; first | rfl | (simp [zan, zam] <;> rfl)) | (simp [*, zan, zam] <;> rfl), by repeat (first | (with_reducible first | exact HB.out | apply zab | apply zad | apply zae) | exact HB.out)⟩
      ·rw [if_neg c7] at H
       exact absurd H (by simp)
     ·rw [if_neg c5] at H
      exact absurd H (by simp)
    ·rw [if_neg c4] at H
     exact absurd H (by simp)
   ·rw [if_neg c3] at H
    have c3b0 : decide (x11_1 < ji2) = false := decide_eq_false c3
    clear c3
    simp only [Option.some.injEq, Prod.mk.injEq] at H
    obtain ⟨rfl, rfl, rfl⟩ := H
    go_wp2
    go_ret3
    exact ⟨by first | rfl | (simp [zan, zam] <;> rfl) | (simp only [← hji2]; first | rfl | (simp [zan, zam] <;> rfl)) | (simp [*, zan, zam] <;> rfl), by repeat (first | (with_reducible first | exact HB.out | apply zab | apply zad | apply zae) | exact HB.out)⟩
theorem u64_small {n : Nat} (h : n < 18446744073709551616) : IntKind.wrap .u64 (n : Int) = (n : Int) := by simp [IntKind.wrap, IntKind.bits, IntKind.signed]; omega
theorem or_nat {a b : Nat} (ha : a < 18446744073709551616) (hb : b < 18446744073709551616) : Go.bits .or .u64 (a : Int) (b : Int) = ((a ||| b : Nat) : Int) := by
 have e1 : (BitVec.ofInt 64 (a : Int)).toNat = a := by rw [BitVec.ofInt_natCast, BitVec.toNat_ofNat, Nat.mod_eq_of_lt ha]
 have e2 : (BitVec.ofInt 64 (b : Int)).toNat = b := by rw [BitVec.ofInt_natCast, BitVec.toNat_ofNat, Nat.mod_eq_of_lt hb]
 show IntKind.wrap .u64 (((BitVec.ofInt 64 (a : Int) ||| BitVec.ofInt 64 (b : Int)).toNat : Nat) : Int) = _
 rw [BitVec.toNat_or, e1, e2]
 exact u64_small (Nat.or_lt_two_pow (n := 64) ha hb)
theorem or_sum {a x s : Nat} (ha : a < 2 ^ s) (hx : x * 2 ^ s < 18446744073709551616) (hs : s < 64) : Go.bits .or .u64 (a : Int) ((x * 2 ^ s : Nat) : Int) = ((a + x * 2 ^ s : Nat) : Int) := by
  have h64 : 2 ^ s < 2 ^ 64 := Nat.pow_lt_pow_right (by decide) hs
  rw [or_nat (by have : (2:Nat) ^ 64 = 18446744073709551616 := by decide
                 omega) hx]
  congr 1
  rw [Nat.or_comm, ← Nat.shiftLeft_eq, ← Nat.shiftLeft_add_eq_or_of_lt ha, Nat.add_comm]
theorem low_seven {c : Nat} (h : c < 256) : Go.bits .andNot .u64 (IntKind.wrap .u64 (c : Int)) 128 = ((c % 128 : Nat) : Int) := by
 have h0 : ∀ b : Fin 256, Go.bits .andNot .u64 (IntKind.wrap .u64 ((b.val : Nat) : Int)) 128 = ((b.val % 128 : Nat) : Int) := by decide +kernel
 exact h0 ⟨c, h⟩
theorem shl_nat {x s : Nat} (hs : s < 64) (h : x * 2 ^ s < 18446744073709551616) : shl .u64 (x : Int) (s : Int) = ((x * 2 ^ s : Nat) : Int) := by
 unfold shl
 rw [Int.toNat_natCast, Nat.min_eq_left (show s ≤ IntKind.bits .u64 from by show s ≤ 64; omega)]
 rw [show (x : Int) * 2 ^ s = ((x * 2 ^ s : Nat) : Int) from by push_cast; rfl]
 exact u64_small h
theorem le_Get_loop (l : List Int) (hl : ∀ c ∈ l, 0 ≤ c ∧ c < 256) (hlen : l.length < 4611686018427387904) : ∀ (d i k : Nat) (acc : Int) (a : Nat), i + d = 10 → d < k → i ≤ l.length → (i ≤ 9 → acc = (a : Int) ∧ a < 128 ^ i) →
  le_Get.l0 k l acc (mn (l.length : Int) 10) (i : Int) = some (tellN (za6 i a (l.drop i))) := by
 have hmn : mn (l.length : Int) 10 = ((min l.length 10 : Nat) : Int) := by unfold mn; split <;> omega
 rw [hmn]
 intro d
 induction d with
 | zero =>
  intro i k acc a hi hk hil _
  obtain ⟨k, rfl⟩ := rounds_of hk
  simp only [le_Get.l0]
  rw [if_neg (by omega), getNAux_late _ _ (by omega)]
  rfl
 | succ d ih =>
  intro i k acc a hi hk hil hA
  obtain ⟨k, rfl⟩ := rounds_of hk
  obtain ⟨rfl, ha⟩ := hA (by omega)
  simp only [le_Get.l0]
  by_cases h : i < l.length
  ·have hc := hl (l.getD i 0) (by simp [List.getD, h])
   have hd : l.drop i = l.getD i 0 :: l.drop (i + 1) := by rw [List.drop_eq_getElem_cons h]; simp [List.getD, h]
   rw [if_pos (by omega), if_pos (by omega), if_pos (by omega), show rd l (i : Int) = l.getD i 0 from by simp [rd], hd]
   have ew : wrap64 (7 * (i : Int)) = ((7 * i : Nat) : Int) := by unfold wrap64; omega
   rw [ew, if_pos (by omega), wrap_succ (by omega)]
   obtain ⟨c, hce⟩ := Int.eq_ofNat_of_zero_le hc.1
   rw [hce] at hc ⊢
   have hc2 : c < 256 := by omega
   rw [low_seven hc2, u64_small (show c < 18446744073709551616 from by omega)]
   have hp : (2 : Nat) ^ (7 * i) = 128 ^ i := by rw [Nat.pow_mul]
   have hG : za6 i a (((c : Nat) : Int) :: l.drop (i + 1)) = if 128 ≤ ((c : Nat) : Int) then za6 (i + 1) (a + ((c : Nat) : Int).toNat % 128 * 128 ^ i) (l.drop (i + 1)) else if (0 < i ∧ ((c : Nat) : Int) = 0) ∨ (i = 9 ∧ 1 < ((c : Nat) : Int)) then none else some (a + ((c : Nat) : Int).toNat * 128 ^ i, i + 1) := by
    rw [za6, if_neg (by omega)]
   rw [hG]
   have hpl : 128 ^ i ≤ 128 ^ 9 := Nat.pow_le_pow_right (by decide) (by omega)
   have h9 : (128 : Nat) ^ 9 = 9223372036854775808 := by decide
   have hsum : ∀ x : Nat, x * 128 ^ i < 18446744073709551616 → Go.bits .or .u64 (a : Int) (shl .u64 (x : Int) ((7 * i : Nat) : Int)) = ((a + x * 128 ^ i : Nat) : Int) := by
    intro x hx
    rw [shl_nat (by omega) (by rw [hp]; exact hx), or_sum (by rw [hp]; exact ha) (by rw [hp]; exact hx) (by omega), hp]
   by_cases h128 : (c : Int) ≥ 128
   ·rw [if_pos h128, if_pos (show (128 : Int) ≤ ((c : Nat) : Int) from h128)]
    refine ih (i + 1) k _ (a + ((c : Nat) : Int).toNat % 128 * 128 ^ i) (by omega) (by omega) (by omega) (fun h8 => ?_)
    have hpl8 : 128 ^ i ≤ 128 ^ 8 := Nat.pow_le_pow_right (by decide) (by omega)
    have h88 : (128 : Nat) ^ 8 = 72057594037927936 := by decide
    have hx : c % 128 * 128 ^ i ≤ 127 * 128 ^ i := Nat.mul_le_mul_right _ (by omega)
    rw [hsum _ (by omega)]
    refine ⟨rfl, ?_⟩
    show a + c % 128 * 128 ^ i < 128 ^ (i + 1)
    rw [Nat.pow_succ]
    omega
   ·have hcm : c % 128 = c := Nat.mod_eq_of_lt (by omega)
    rw [if_neg h128, if_neg (show ¬ (128 : Int) ≤ ((c : Nat) : Int) from h128), hcm]
    have hlow : ∀ (hx : c * 128 ^ i < 18446744073709551616), some (Go.bits .or .u64 (a : Int) (shl .u64 (c : Int) ((7 * i : Nat) : Int)), ((i + 1 : Nat) : Int), true) = some (tellN (some (a + ((c : Nat) : Int).toNat * 128 ^ i, i + 1))) := by
     intro hx
     rw [hsum _ hx]
     rfl
    have hsmall : i ≠ 9 → c * 128 ^ i < 18446744073709551616 := by
     intro h8
     have hpl8 : 128 ^ i ≤ 128 ^ 8 := Nat.pow_le_pow_right (by decide) (by omega)
     have h88 : (128 : Nat) ^ 8 = 72057594037927936 := by decide
     have hx : c * 128 ^ i ≤ 127 * 128 ^ i := Nat.mul_le_mul_right _ (by omega)
     omega
    have hone : c ≤ 1 → c * 128 ^ i < 18446744073709551616 := by
     intro h1
     have hx : c * 128 ^ i ≤ 1 * 128 ^ i := Nat.mul_le_mul_right _ h1
     omega
    by_cases h0 : (i : Int) > 0
    ·rw [if_pos h0]
     by_cases hc0 : (c : Int) = 0
     ·rw [if_pos hc0, if_pos (.inl ⟨by omega, hc0⟩)]
      rfl
     ·rw [if_neg hc0]
      by_cases hi9 : (i : Int) = 9
      ·rw [if_pos hi9]
       by_cases hc1 : (c : Int) > 1
       ·rw [if_pos hc1, if_pos (.inr ⟨by omega, hc1⟩)]
        rfl
       ·rw [if_neg hc1, if_neg (by omega)]
        exact hlow (hone (by omega))
      ·rw [if_neg hi9, if_neg (by omega)]
       exact hlow (hsmall (by omega))
    ·rw [if_neg h0, if_neg (by omega), if_neg (by omega)]
     exact hlow (hsmall (by omega))
  ·rw [if_neg (by omega), List.drop_of_length_le (by omega)]
   rfl
theorem le_Get_is (l : List Int) (hl : ∀ c ∈ l, 0 ≤ c ∧ c < 256) (hlen : l.length < 4611686018427387904) {k : Nat} (hk : 10 < k) : le_Get.f k l = some (tellN (getN l)) :=
 le_Get_loop l hl hlen 10 0 k 0 0 (by omega) (by omega) (by omega) (fun _ => ⟨rfl, by decide⟩)
theorem le_Get.told (A0 : Option Addr) (c0 : Nat) (l0 : List Int) (w : World) (hb : zaJ l0) (hlen : l0.length < 4611686018427387904) (hr0 : Kd.C (Kd.int .u8) w A0 l0.length l0) (hc0 : l0.length ≤ c0) :
  Calls Try.prog 42 #[.slice A0 l0.length c0] w (getPost l0 w) := by
 have h := le_Get_is l0 hb hlen (k := 11) (by decide)
 cases hg : tellN (getN l0) with
 | mk n p =>
  obtain ⟨u, b⟩ := p
  rw [hg] at h
  refine (le_Get.calls 11 A0 c0 l0 n u b w hr0 hc0 h).mono ?_
  rintro e w' ⟨rfl, h3⟩
  unfold getPost
  rw [hg]
  exact ⟨rfl, h3⟩
theorem le_Get.yes (A0 : Option Addr) (c0 : Nat) (l0 : List Int) (w : World) {n u : Nat} (hg : getN l0 = some (n, u)) (hb : zaJ l0) (hlen : l0.length < 4611686018427387904) (hr0 : Kd.C (Kd.int .u8) w A0 l0.length l0) (hc0 : l0.length ≤ c0) : Calls Try.prog 42 #[.slice A0 l0.length c0] w (numYes n u w) :=
 (le_Get.told A0 c0 l0 w hb hlen hr0 hc0).mono fun e w' h => by unfold getPost at h; rw [hg] at h; exact h
theorem le_Get.no (A0 : Option Addr) (c0 : Nat) (l0 : List Int) (w : World) (hg : getN l0 = none) (hb : zaJ l0) (hlen : l0.length < 4611686018427387904) (hr0 : Kd.C (Kd.int .u8) w A0 l0.length l0) (hc0 : l0.length ≤ c0) : Calls Try.prog 42 #[.slice A0 l0.length c0] w (numNo w) :=
 (le_Get.told A0 c0 l0 w hb hlen hr0 hc0).mono fun e w' h => by unfold getPost at h; rw [hg] at h; exact h
set_option maxHeartbeats 1000000 in
set_option maxRecDepth 100000 in
theorem za5 (w0 : World) (B : Nat) (s : Option (List Int)) (m : Nat) (w : World) (h : RdAt w0 B s w) (hm : m ≤ 1125899906842624) :
  Calls Try.prog 25 #[.pointer (some ⟨B, 0, none⟩), .int .i64 (m : Int)] w (rdPost w0 B (zay s (rN m)) (.int .i64 (wasO 0 s (rN m) : Nat)) w) := by
 have HH := Aside0.mk h
 obtain ⟨⟨A, c, l, bad, h1, h2, h3, h4, h5, hs⟩, h6, h7⟩ := h
 have HR := Aside0.mk h3
 have HC := Aside0.mk h2
 have hwm : IntKind.u64.wrap (m : Int) = (m : Int) := u64_small' (by omega)
 obtain ⟨k1, k2, k3, k4⟩ := know h1
 have HB := Aside0.mk h6
 cases hg : getN l with
 | none =>
  have HN := Aside0.mk (le_Get.no A c l w hg h4 h5 (Kd.C_below h3 h6) h2)
  have e1 : zay s (rN m) = s.bind (skipR 0 false) := by
   rw [hs]
   cases bad
   ·show ((some l).bind (rN m)).map (·.2) = (some l).bind (skipR 0 false)
    rw [Option.bind_some, Option.bind_some, rN_none hg]
    rfl
   ·rfl
  have e2 : wasO 0 s (rN m) = 0 := by
   rw [hs]
   cases bad
   ·show (((some l).bind (rN m)).map (·.1)).getD 0 = 0
    rw [Option.bind_some, rN_none hg]
    rfl
   ·rfl
  have e3 : s.bind (skipR 0 false) = none := by
   rw [hs]
   cases bad
   ·rfl
   ·rfl
  rw [e1, e2]
  have HE3 := Aside0.mk e3
  clear h1 h2 h3 h4 h6 hs hg e1 e2 e3
  go_enter Try.func25, Try.ntmps25
  go_wp2_with fail
  go_at_call 42
  refine HN.out.mono ?_
  rintro e w1 ⟨rfl, hb1⟩
  have HH1 := Aside0.mk (HH.out.grow hb1)
  have HO1 := Aside0.mk (Only.of_below hb1 (Nat.le_of_lt HH.out.lt))
  clear hb1 k1 k2 k3 k4
  go_wp2_with fail
  go_at_call 43
  refine (skip_told w0 B s 0 false _ HH1.out (by decide)).mono ?_
  rintro e w2 ⟨rfl, hrd, ho⟩
  have HRD := Aside0.mk hrd
  have HO2 := Aside0.mk (HO1.out.trans ho)
  obtain ⟨⟨A2, c2, l2, bad2, g1, _, _, _, _, g2⟩, _, _⟩ := hrd
  rw [HE3.out] at g2
  have hbad : bad2 = true := by
   cases bad2
   ·cases g2
   ·rfl
  subst hbad
  obtain ⟨j1, j2, j3, j4⟩ := know g1
  clear g1 g2 ho
  go_wp2_with fail
  go_ret
  exact ⟨rfl, HRD.out, HO2.out⟩
 | some p =>
  obtain ⟨a, u⟩ := p
  have hlt := (getN_some h4 hg).1
  have hu := getN_used hg
  have HN := Aside0.mk (le_Get.yes A c l w hg h4 h5 (Kd.C_below h3 h6) h2)
  have e1 : zay s (rN m) = s.bind (skipR u (decide (a ≤ m))) := by
   rw [hs]
   cases bad
   ·show ((some l).bind (rN m)).map (·.2) = (some l).bind (skipR u (decide (a ≤ m)))
    rw [Option.bind_some, Option.bind_some, rN_some hg]
    unfold skipR
    by_cases hle : a ≤ m
    ·rw [if_pos hle, if_pos ⟨decide_eq_true hle, hu.2.1⟩]; rfl
    ·rw [if_neg hle, if_neg (fun h => hle (of_decide_eq_true h.1))]; rfl
   ·rfl
  have e2 : wasO 0 s (rN m) = if (s.bind (skipR u (decide (a ≤ m)))).isSome then a else 0 := by
   rw [hs]
   cases bad
   ·show (((some l).bind (rN m)).map (·.1)).getD 0 = if ((some l).bind (skipR u (decide (a ≤ m)))).isSome then a else 0
    rw [Option.bind_some, Option.bind_some, rN_some hg]
    unfold skipR
    by_cases hle : a ≤ m
    ·have h9 : (if decide (a ≤ m) = true ∧ u ≤ l.length then some (l.drop u) else none) = some (l.drop u) := if_pos ⟨decide_eq_true hle, hu.2.1⟩
     rw [if_pos hle, h9]; rfl
    ·have h9 : (if decide (a ≤ m) = true ∧ u ≤ l.length then some (l.drop u) else none) = none := if_neg (fun h => hle (of_decide_eq_true h.1))
     rw [if_neg hle, h9]; rfl
   ·rfl
  have hle2 : (s.bind (skipR u (decide (a ≤ m)))).isSome = true → a ≤ m := by
   intro hh
   by_cases hle : a ≤ m
   ·exact hle
   ·exfalso
    rw [decide_eq_false hle] at hh
    cases s with
    | none => cases hh
    | some x => simp [skipR] at hh
  rw [e1, e2]
  have hle1 : decide ((a : Int) ≤ (m : Int)) = decide (a ≤ m) := by rw [decide_eq_decide]; omega
  obtain ⟨q, hq⟩ : ∃ q, decide (a ≤ m) = q := ⟨_, rfl⟩
  rw [hq] at hle1 hle2 ⊢
  obtain ⟨s1, hs1⟩ : ∃ s1, s.bind (skipR u q) = s1 := ⟨_, rfl⟩
  have HS1 := Aside0.mk hs1
  rw [hs1] at hle2 ⊢
  have HLE := Aside0.mk hle2
  obtain ⟨z, hz⟩ : ∃ z : Nat, (if s1.isSome then a else 0) = z := ⟨_, rfl⟩
  rw [hz]
  have HZ := Aside0.mk hz
  clear hz
  have hu63 : u < 4611686018427387904 := by omega
  clear h1 h2 h3 h4 h6 hs hg e1 e2 hs1 hle2 hu hlt h5
  go_enter Try.func25, Try.ntmps25
  go_wp2_with fail
  go_at_call 42
  refine HN.out.mono ?_
  rintro e w1 ⟨rfl, hb1⟩
  have HH1 := Aside0.mk (HH.out.grow hb1)
  have HO1 := Aside0.mk (Only.of_below hb1 (Nat.le_of_lt HH.out.lt))
  clear hb1 k1 k2 k3 k4
  go_wp2_with fail
  go_at_call 43
  refine (skip_told w0 B s u q _ HH1.out hu63).mono ?_
  rintro e w2 ⟨rfl, hrd, ho⟩
  rw [HS1.out] at hrd
  have HRD := Aside0.mk hrd
  have HO2 := Aside0.mk (HO1.out.trans ho)
  obtain ⟨⟨A2, c2, l2, bad2, g1, _, _, _, _, g2⟩, _, _⟩ := hrd
  obtain ⟨j1, j2, j3, j4⟩ := know g1
  clear g1 ho
  cases bad2 with
  | true =>
   rw [if_pos rfl] at g2
   subst g2
   obtain rfl : 0 = z := HZ.out
   go_wp2_with fail
   go_ret
   exact ⟨rfl, HRD.out, HO2.out⟩
  | false =>
   rw [if_neg (by decide)] at g2
   subst g2
   have ham := HLE.out rfl
   obtain rfl : a = z := HZ.out
   have hwa : IntKind.i64.wrap (a : Int) = (a : Int) := IntWalk.i64_in _ (by omega)
   clear ham
   go_wp2_with fail
   go_ret
   exact ⟨rfl, HRD.out, HO2.out⟩
set_option maxHeartbeats 1000000 in
set_option maxRecDepth 100000 in
theorem text_told (w0 : World) (B : Nat) (s : Option (List Int)) (w : World) (h : RdAt w0 B s w) :
  Calls Try.prog 44 #[.pointer (some ⟨B, 0, none⟩)] w (rdPost w0 B (zay s rT) (.string (wasO ⟨#[]⟩ s rT)) w) := by
 have HH := Aside0.mk h
 obtain ⟨s1, hs1⟩ : ∃ s1, zay s (rN 12) = s1 := ⟨_, rfl⟩
 obtain ⟨m, hm⟩ : ∃ m, wasO 0 s (rN 12) = m := ⟨_, rfl⟩
 have hm12 : m ≤ 12 := hm ▸ wasO_rN_le s 12
 have hm63 : m < 4611686018427387904 := by omega
 have HS1 := Aside0.mk hs1
 have HM := Aside0.mk hm
 obtain ⟨s2, hs2⟩ : ∃ s2, s1.bind (skipR m true) = s2 := ⟨_, rfl⟩
 have HS2 := Aside0.mk hs2
 have HE := Aside0.mk (show zay s rT = s2 from by rw [restO_rT, hs1, hm, hs2])
 obtain ⟨t, ht⟩ : ∃ t, wasO (⟨#[]⟩ : ByteArray) s rT = t := ⟨_, rfl⟩
 have HT := Aside0.mk ht
 rw [HE.out, ht]
 clear h hs1 hm hs2 ht hm12
 go_enter Try.func44, Try.ntmps44
 go_wp2_with fail
 go_at_call 25
 refine (za5 w0 B s 12 _ HH.out (by decide)).mono ?_
 rintro e w1 ⟨rfl, hrd, ho⟩
 rw [HS1.out] at hrd
 rw [HM.out]
 have HR1 := Aside0.mk hrd
 have HO1 := Aside0.mk ho
 obtain ⟨⟨A, c, l, bad, g1, g2, g3, g4, g5, g6⟩, g7, g8⟩ := hrd
 obtain ⟨k1, k2, k3, k4⟩ := know g1
 have HC := Aside0.mk g2
 have HL := Aside0.mk g3
 have HBY := Aside0.mk g4
 have HG6 := Aside0.mk g6
 clear g1 g2 g3 g4 g6 g7 ho
 go_wp2_with fail
 go_at_call 43
 refine (skip_told w0 B s1 m true _ HR1.out hm63).mono ?_
 rintro e w2 ⟨rfl, hrd, ho⟩
 rw [HS2.out] at hrd
 have HR2 := Aside0.mk hrd
 have HO2 := Aside0.mk (HO1.out.trans ho)
 obtain ⟨⟨A2, c2, l2, bad2, q1, q2, q3, q4, q5, q6⟩, q7, q8⟩ := hrd
 obtain ⟨j1, j2, j3, j4⟩ := know q1
 have HQ7 := Aside0.mk q7
 clear q1 q2 q3 q4 q7 ho k1 k2 k3 k4
 cases bad2 with
 | true =>
  rw [if_pos rfl] at q6
  subst q6
  have he : t = ⟨#[]⟩ := by
   rw [← HT.out]
   cases hz : s1 with
   | none => exact wasO_rT_none (HS1.out.trans hz)
   | some r =>
    rw [wasO_rT_some (HS1.out.trans hz), HM.out]
    have hz2 := HS2.out
    rw [hz, Option.bind_some] at hz2
    unfold skipR at hz2
    by_cases hle : m ≤ r.length
    ·rw [if_pos ⟨rfl, hle⟩] at hz2; cases hz2
    ·rw [if_neg hle]
  subst he
  go_wp2_with fail
  go_ret
  exact ⟨rfl, HR2.out, HO2.out⟩
 | false =>
  rw [if_neg (by decide)] at q6
  have hs : s1 = some l ∧ m ≤ l.length ∧ t = strOfNums (l.take m) := by
   cases hz : s1 with
   | none =>
    have hz2 := HS2.out
    rw [hz, q6] at hz2
    cases hz2
   | some r =>
    have hz2 := HS2.out
    rw [hz, q6, Option.bind_some] at hz2
    unfold skipR at hz2
    have h6 := HG6.out
    rw [hz] at h6
    cases bad with
    | true => rw [if_pos rfl] at h6; cases h6
    | false =>
     rw [if_neg (by decide)] at h6
     obtain rfl := Option.some.inj h6
     by_cases hle : m ≤ r.length
     ·refine ⟨rfl, hle, ?_⟩
      rw [← HT.out, wasO_rT_some (HS1.out.trans hz), HM.out, if_pos hle]
     ·rw [if_neg (fun hh => hle hh.2)] at hz2; cases hz2
  obtain ⟨hs1, hml, rfl⟩ := hs
  obtain ⟨i0, hi0, _, hsz0, _⟩ := info_parts info5
  obtain ⟨hcut, hcC⟩ := take_row (P := Try.prog) (d := Kd.int .u8) Try.underlying25 hi0 A c l m (m : Int) rfl hml HC.out
  have hrow := hcC _ (Kd.C_below HL.out HQ7.out)
  have hlt : (l.take m).length = m := by rw [List.length_take]; omega
  have hconv := Kd.C_string (P := Try.prog) (c := c) Try.underlying25 Try.underlying5 Try.underlying9 hrow
  rw [← hlt] at hconv
  try simp only [hlt] at hconv
  clear hcC hrow hlt hi0 hsz0 hs1 q6 HG6
  go_wp2_with fail
  go_ret
  exact ⟨rfl, HR2.out, HO2.out⟩
def le_Zag.f (a0 : Int) : Option (Int) := some (Go.bits .xor .i64 (wrap64 (a0 / 2)) (wrap64 (-(wrap64 (Go.bits .and .u64 a0 1)))))
set_option maxHeartbeats 8000000 in
set_option maxRecDepth 100000 in
theorem le_Zag.calls (a0 : Int) (r : Int) (w : World) (h : le_Zag.f a0 = some r) :
  Calls Try.prog 79 #[.int .u64 a0] w fun e w' => e = .returned (.int .i64 r) ∧ Drawn0 w w' := by
 have H : (some (Go.bits .xor .i64 (wrap64 (a0 / 2)) (wrap64 (-(wrap64 (Go.bits .and .u64 a0 1)))))) = some r := h
 clear h
 obtain rfl := Option.some.inj H
 go_enter Try.func79, Try.ntmps79
 go_wp2
 go_ret
 exact ⟨by first | rfl | (simp; done) | (simp [*]; done), by repeat (first | exact Drawn0.refl _ | apply Drawn0.step)⟩
theorem zag_is {m : Nat} (h : m < 18446744073709551616) : le_Zag.f (m : Int) = some (zagN m) := by
 unfold le_Zag.f zagN
 have hand : Go.bits .and .u64 (m : Int) 1 = ((m % 2 : Nat) : Int) := by
  show IntKind.wrap .u64 (((BitVec.ofInt 64 (m : Int) &&& BitVec.ofInt 64 1).toNat : Nat) : Int) = _
  rw [BitVec.toNat_and, ofInt_u64 (by omega) (by omega), show (BitVec.ofInt 64 1).toNat = 1 from by decide, Int.toNat_natCast, Nat.and_one_is_mod, wrap_u64]
  omega
 rw [hand]
 have e1 : wrap64 ((m : Int) / 2) = ((m / 2 : Nat) : Int) := by unfold wrap64; omega
 rw [e1]
 by_cases h2 : m % 2 = 0
 ·rw [if_pos h2, h2, show wrap64 (-wrap64 ((0 : Nat) : Int)) = 0 from by unfold wrap64; decide]
  rw [xor_zeroI _ (by rw [ofInt_u64 (by omega) (by omega), wrap_i64]; unfold wrap64; omega)]
 ·rw [if_neg h2, show m % 2 = 1 from by omega, show wrap64 (-wrap64 ((1 : Nat) : Int)) = -1 from by unfold wrap64; decide]
  show some (IntKind.wrap .i64 (((BitVec.ofInt 64 ((m / 2 : Nat) : Int) ^^^ BitVec.ofInt 64 (-1)).toNat : Nat) : Int)) = _
  rw [show BitVec.ofInt 64 (-1) = BitVec.allOnes 64 from by decide, not64, ofInt_u64 (by omega) (by omega), wrap_i64]
  congr 1
  unfold wrap64
  omega
set_option maxHeartbeats 4000000 in
set_option maxRecDepth 100000 in
theorem value_Get.told (w : World) (A : Option Addr) (c : Nat) (l : List Int) (hr0 : Kd.C (Kd.int .u8) w A l.length l) (hc0 : l.length ≤ c) (hb : zaJ l) (hl : l.length < 4611686018427387904) {x : SValue} {m : Nat} {b : Bool} (hq : gotV (getV l) = (x, m, b)) :
  Calls Try.prog 73 #[.slice A l.length c] w (valPost3 x m b w) := by
 have HR := Aside0.mk hr0
 have HC := Aside0.mk hc0
 clear hr0
 cases l with
 | nil =>
  obtain ⟨rfl, rfl, rfl⟩ : x = ⟨0, 0, ⟨#[]⟩⟩ ∧ m = 0 ∧ b = false := by
   have h : ((⟨0, 0, ⟨#[]⟩⟩ : SValue), 0, false) = (x, m, b) := hq
   simp only [Prod.mk.injEq] at h
   exact ⟨h.1.symm, h.2.1.symm, h.2.2.symm⟩
  clear hq hl
  show Calls _ _ #[.slice A 0 c] w _
  have HKr := Aside0.mk (zag (zat w (.cells #[.int .i64 0, .int .i64 0, .string ⟨#[]⟩] 73)) (.cells #[.int .i64 0, .int .i64 0, .string ⟨#[]⟩] 73))
  have HB := Aside0.mk (show Below w.heap.size w ((w.alloc (.cells #[.int .i64 0, .int .i64 0, .string ⟨#[]⟩] 73)).alloc (.cells #[.int .i64 0, .int .i64 0, .string ⟨#[]⟩] 73)) from zab (zab (Below.refl _ _) _) _)
  go_enter Try.func73, Try.ntmps73
  go_wp2
  exact bodyPost_ret (v := .tuple #[.agg #[.int .i64 0, .int .i64 0, .string ⟨#[]⟩], .int .i64 0, .bool false]) (by simp [results, Try.results73, go_sem]) rfl ⟨rfl, HB.out⟩
 | cons k r =>
  have hk := hb k (by simp)
  obtain ⟨hk0, hk1⟩ := hk
  have HBR := Aside0.mk (show zaJ r from fun c hc => hb c (by simp [hc]))
  clear hb
  obtain ⟨i0, hi0, _, hsz0, _⟩ := info_parts info5
  obtain ⟨A1, hcut1, hD1, hlc1⟩ := drop_row (P := Try.prog) (d := Kd.int .u8) Try.underlying25 hi0 hsz0 A c (k :: r) 1 1 rfl (by simp) HC.out
  rw [List.drop_succ_cons, List.drop_zero] at hD1 hlc1
  simp only [List.drop_succ_cons, List.drop_zero] at hcut1
  have HD1 := Aside0.mk (hD1 w HR.out)
  have HL1 := Aside0.mk hlc1
  obtain ⟨ad, had, hx⟩ := Kd.at_int HR.out 0 (by omega) (by simp)
  subst had
  replace hx : w.cell? ad = some (.int .u8 k) := hx
  have HX := Aside0.mk hx
  have hlr : r.length + 1 < 4611686018427387904 := by simpa using hl
  have hln : (k :: r).length = r.length + 1 := rfl
  rw [hln] at hcut1 hc0 ⊢
  have HLN := Aside0.mk hln
  clear hD1 hlc1 hx hl hln
  have hw0 : IntKind.wrap .i64 k = k := IntWalk.i64_in _ (by omega)
  cases hg : getN r with
  | none =>
   obtain ⟨rfl, rfl, rfl⟩ : x = ⟨0, 0, ⟨#[]⟩⟩ ∧ m = 0 ∧ b = false := by
    have h : gotV (getV (k :: r)) = ((⟨0, 0, ⟨#[]⟩⟩ : SValue), 0, false) := by unfold getV; simp only [hg]; rfl
    rw [h] at hq
    simp only [Prod.mk.injEq] at hq
    exact ⟨hq.1.symm, hq.2.1.symm, hq.2.2.symm⟩
   have HG := Aside0.mk hg
   clear hg hq hw0
   go_enter Try.func73, Try.ntmps73
   go_wp2_with (go_at_call 42; refine (le_Get.no A1 _ r _ HG.out HBR.out (by omega) (Kd.C_below HD1.out (zab (zab (Below.refl _ _) _) _)) HL1.out).mono ?_; rintro e w1 ⟨rfl, hb1⟩; have HB1 := Aside0.mk (zah (zab (zab (Below.refl _ _) _) _) hb1); have HKr1 := Aside0.mk (zak (zag (zat w (.cells #[.int .i64 0, .int .i64 0, .string ⟨#[]⟩] 73)) (.cells #[.int .i64 0, .int .i64 0, .string ⟨#[]⟩] 73)) hb1); obtain ⟨kr1, kr2, kr3, kr4⟩ := know HKr1.out; have HKn1 := Aside0.mk (zak (za7 w (.cells #[.int .i64 0, .int .i64 0, .string ⟨#[]⟩] 73) (.cells #[.int .i64 0, .int .i64 0, .string ⟨#[]⟩] 73)) hb1); obtain ⟨kn1, kn2, kn3, kn4⟩ := know HKn1.out; clear hb1)
   have hz := zbt HKr1.out (.int .i64 0) (.int .i64 0) (.string ⟨#[]⟩)
   have hbz := below_put3 HB1.out (Nat.le_refl _) (.int .i64 0) (.int .i64 0) (.string ⟨#[]⟩)
   generalize World.setCell (World.setCell (World.setCell _ _ _) _ _) _ _ = W3 at hz hbz ⊢
   have hz0 : W3.cell? ⟨w.heap.size, 0, none⟩ = some (.int .i64 0) := zac hz 0
   have hz1 : W3.cell? ⟨w.heap.size, 1, none⟩ = some (.int .i64 0) := zac hz 1
   have hz2 : W3.cell? ⟨w.heap.size, 2, none⟩ = some (.string ⟨#[]⟩) := zac hz 2
   exact bodyPost_ret (v := .tuple #[.agg #[.int .i64 0, .int .i64 0, .string ⟨#[]⟩], .int .i64 0, .bool false]) (by simp [results, Try.results73, go_sem, hz0, hz1, hz2]) rfl ⟨rfl, hbz⟩
  | some p =>
   obtain ⟨n, u⟩ := p
   have hu := (getN_used hg).2
   have hnb : n < 18446744073709551616 := (getN_some HBR.out hg).1
   have HG := Aside0.mk hg
   by_cases hk3 : k = 0
   ·subst hk3
    obtain ⟨rfl, rfl, rfl⟩ : x = ⟨0, zagN n, ⟨#[]⟩⟩ ∧ m = u + 1 ∧ b = true := by
     have h : gotV (getV (0 :: r)) = ((⟨0, zagN n, ⟨#[]⟩⟩ : SValue), u + 1, true) := by unfold getV; simp only [hg]; rfl
     rw [h] at hq
     simp only [Prod.mk.injEq] at hq
     exact ⟨hq.1.symm, hq.2.1.symm, hq.2.2.symm⟩
    have HZ := Aside0.mk (zag_is hnb)
    have HZB := Aside0.mk (zag_in hnb)
    have HM := Aside0.mk (show mayV ⟨0, zagN n, ⟨#[]⟩⟩ = true from mayV_iff.2 (.inl ⟨rfl, (by decide +kernel : (⟨#[]⟩ : ByteArray).toList = [])⟩))
    generalize zagN n = z at *
    clear hg hq hw0
    go_enter Try.func73, Try.ntmps73
    go_wp2_with (first
     | (go_at_call 42; refine (le_Get.yes A1 _ r _ HG.out HBR.out (by omega) (Kd.C_below HD1.out (zab (zab (Below.refl _ _) _) _)) HL1.out).mono ?_; rintro e w1 ⟨rfl, hb1⟩; have HB1 := Aside0.mk (zah (zab (zab (Below.refl _ _) _) _) hb1); have HKr1 := Aside0.mk (zak (zag (zat w (.cells #[.int .i64 0, .int .i64 0, .string ⟨#[]⟩] 73)) (.cells #[.int .i64 0, .int .i64 0, .string ⟨#[]⟩] 73)) hb1); obtain ⟨kr1, kr2, kr3, kr4⟩ := know HKr1.out; have HKn1 := Aside0.mk (zak (za7 w (.cells #[.int .i64 0, .int .i64 0, .string ⟨#[]⟩] 73) (.cells #[.int .i64 0, .int .i64 0, .string ⟨#[]⟩] 73)) hb1); obtain ⟨kn1, kn2, kn3, kn4⟩ := know HKn1.out; have hx1 := zaB HB1.out HX.out; clear hb1)
     | (go_at_call 79; refine (le_Zag.calls (n : Int) _ _ HZ.out).mono ?_; rintro e w2 ⟨rfl, hd2⟩; have hb2 := hd2.below; have HB2 := Aside0.mk (zah (zab HB1.out _) hb2); have HKr2 := Aside0.mk (zak (zag HKr1.out _) hb2); have HKv2 := Aside0.mk (zak (zat w1 (.cells #[.int .i64 0, .int .i64 0, .string ⟨#[]⟩] 73)) hb2); have hcv2 := za2 HKv2.out; have hfv2 := frozen_of HKv2.out; clear hb2 hd2)
     | (go_at_call 66; refine (zbq ⟨0, z, ⟨#[]⟩⟩ _ HZB.out HM.out).mono ?_; rintro e w3 ⟨rfl, hb3⟩; have HB3 := Aside0.mk (zah (zaf (j := 1) (v := Value.int .i64 z) (g := w1.heap.size) HB2.out (zao HB1.out)) hb3); have HKr3 := Aside0.mk (zak (zaG HKr2.out (p := ⟨w1.heap.size, 1, none⟩) (Nat.ne_of_lt (zaA HKr1.out)) (Value.int .i64 z)) hb3); have HKv3 := Aside0.mk (zak (blk_set HKv2.out 1 (Value.int .i64 z)) hb3); have hcr3 := za2 HKr3.out; have hfr3 := frozen_of HKr3.out; have hcv3 := za2 HKv3.out; clear hb3))
    have hz := zbt HKr3.out (.int .i64 0) (.int .i64 z) (.string ⟨#[]⟩)
    have hbz := below_put3 HB3.out (Nat.le_refl _) (.int .i64 0) (.int .i64 z) (.string ⟨#[]⟩)
    generalize World.setCell (World.setCell (World.setCell _ _ _) _ _) _ _ = W3 at hz hbz ⊢
    have hz0 : W3.cell? ⟨w.heap.size, 0, none⟩ = some (.int .i64 0) := zac hz 0
    have hz1 : W3.cell? ⟨w.heap.size, 1, none⟩ = some (.int .i64 z) := zac hz 1
    have hz2 : W3.cell? ⟨w.heap.size, 2, none⟩ = some (.string ⟨#[]⟩) := zac hz 2
    exact bodyPost_ret (v := .tuple #[.agg #[.int .i64 0, .int .i64 z, .string ⟨#[]⟩], .int .i64 ((u + 1 : Nat) : Int), .bool true]) (by simp [results, Try.results73, go_sem, hz0, hz1, hz2]) rfl ⟨rfl, hbz⟩
   ·by_cases hk4 : k = 2
    ·subst hk4
     have hq2 : gotV (getV (2 :: r)) = if n ≤ 40 ∧ n ≤ r.length - u then (⟨2, 0, strOfNums ((r.drop u).take n)⟩, u + 1 + n, true) else (⟨0, 0, ⟨#[]⟩⟩, 0, false) := by
      have h : getV (2 :: r) = if n ≤ 40 ∧ n ≤ r.length - u then some (⟨2, 0, strOfNums ((r.drop u).take n)⟩, u + 1 + n) else none := by
       unfold getV
       simp only [hg]
       rfl
      rw [h]
      split <;> rfl
     rw [hq2] at hq
     clear hq2 hk3
     have hwe : IntKind.wrap .u64 ((r.length : Int) + 1 - ((u : Int) + 1)) = (r.length : Int) + 1 - ((u : Int) + 1) := by rw [wrap_u64]; omega
     by_cases hfit : n ≤ r.length - u
     ·have hwn : IntKind.wrap .i64 (n : Int) = (n : Int) := IntWalk.i64_in _ (by omega)
      obtain ⟨A2, hcut2, hD2, hln2⟩ := mid_row (P := Try.prog) (d := Kd.int .u8) Try.underlying25 hi0 hsz0 (some ad) c (2 :: r) (u + 1) n ((u : Int) + 1) (((u : Int) + 1) + (n : Int)) (by omega) (by omega) (by rw [HLN.out]; omega) HC.out
      rw [List.drop_succ_cons] at hD2 hln2
      rw [HLN.out] at hcut2
      have HD2 := Aside0.mk (hD2 w (by rw [HLN.out]; exact HR.out))
      have hstr := fun (W : World) (h : Below w.heap.size w W) => Kd.C_string (P := Try.prog) (c := c - (u + 1)) Try.underlying25 Try.underlying5 Try.underlying9 (Kd.C_below HD2.out h)
      have hsz : (strOfNums ((r.drop u).take n)).size = n := by rw [strOfNums_size]; exact hln2
      have HSTR := Aside0.mk hstr
      have HSZ := Aside0.mk hsz
      have hf1 : (n : Int) ≤ (r.length : Int) + 1 - ((u : Int) + 1) := by omega
      clear hD2 hln2 hstr hsz
      by_cases h40 : n ≤ 40
      ·skip
       obtain ⟨rfl, rfl, rfl⟩ : x = ⟨2, 0, strOfNums ((r.drop u).take n)⟩ ∧ m = u + 1 + n ∧ b = true := by
        rw [if_pos ⟨h40, hfit⟩] at hq
        simp only [Prod.mk.injEq] at hq
        exact ⟨hq.1.symm, hq.2.1.symm, hq.2.2.symm⟩
       have HM := Aside0.mk (show mayV ⟨2, 0, strOfNums ((r.drop u).take n)⟩ = true from by exact mayV_iff.2 (.inr (.inr (.inl ⟨rfl, rfl, by rw [HSZ.out]; omega⟩))))
       generalize strOfNums ((r.drop u).take n) = t at *
       clear hg hq hi0 hsz0
       go_enter Try.func73, Try.ntmps73
       go_wp2_with (first
        | (go_at_call 42; refine (le_Get.yes A1 _ r _ HG.out HBR.out (by omega) (Kd.C_below HD1.out (zab (zab (Below.refl _ _) _) _)) HL1.out).mono ?_; rintro e w1 ⟨rfl, hb1⟩; have HB1 := Aside0.mk (zah (zab (zab (Below.refl _ _) _) _) hb1); have HKr1 := Aside0.mk (zak (zag (zat w (.cells #[.int .i64 0, .int .i64 0, .string ⟨#[]⟩] 73)) (.cells #[.int .i64 0, .int .i64 0, .string ⟨#[]⟩] 73)) hb1); obtain ⟨kr1, kr2, kr3, kr4⟩ := know HKr1.out; have HKn1 := Aside0.mk (zak (za7 w (.cells #[.int .i64 0, .int .i64 0, .string ⟨#[]⟩] 73) (.cells #[.int .i64 0, .int .i64 0, .string ⟨#[]⟩] 73)) hb1); obtain ⟨kn1, kn2, kn3, kn4⟩ := know HKn1.out; have hx1 := zaB HB1.out HX.out; have hstr1 := HSTR.out _ (zab HB1.out (.cells #[.int .i64 2, .int .i64 0, .string ⟨#[]⟩] 73)); clear hb1)
        | (go_at_call 66; refine (zbq ⟨2, 0, t⟩ _ zero_i64 HM.out).mono ?_; rintro e w3 ⟨rfl, hb3⟩; have HB3 := Aside0.mk (zah (zab HB1.out _) hb3); have HKr3 := Aside0.mk (zak (zag HKr1.out _) hb3); have HKv3 := Aside0.mk (zak (zat w1 (.cells #[.int .i64 2, .int .i64 0, .string t] 73)) hb3); have hcr3 := za2 HKr3.out; have hfr3 := frozen_of HKr3.out; have hcv3 := za2 HKv3.out; have HKn3 := Aside0.mk (zak (zag HKn1.out _) hb3); have hcn3 := za2 HKn3.out; clear hb3))
       have hz := zbt HKr3.out (.int .i64 2) (.int .i64 0) (.string t)
       have hbz := below_put3 HB3.out (Nat.le_refl _) (.int .i64 2) (.int .i64 0) (.string t)
       generalize World.setCell (World.setCell (World.setCell _ _ _) _ _) _ _ = W3 at hz hbz ⊢
       have hz0 : W3.cell? ⟨w.heap.size, 0, none⟩ = some (.int .i64 2) := zac hz 0
       have hz1 : W3.cell? ⟨w.heap.size, 1, none⟩ = some (.int .i64 0) := zac hz 1
       have hz2 : W3.cell? ⟨w.heap.size, 2, none⟩ = some (.string t) := zac hz 2
       exact bodyPost_ret (v := .tuple #[.agg #[.int .i64 2, .int .i64 0, .string t], .int .i64 ((u + 1 + n : Nat) : Int), .bool true]) (by simp [results, Try.results73, go_sem, hz0, hz1, hz2]) rfl ⟨rfl, hbz⟩
      skip
      ·skip
       obtain ⟨rfl, rfl, rfl⟩ : x = ⟨0, 0, ⟨#[]⟩⟩ ∧ m = 0 ∧ b = false := by
        rw [if_neg (by omega)] at hq
        simp only [Prod.mk.injEq] at hq
        exact ⟨hq.1.symm, hq.2.1.symm, hq.2.2.symm⟩
       have HM := Aside0.mk (show mayV ⟨2, 0, strOfNums ((r.drop u).take n)⟩ = false from by rw [← Bool.not_eq_true, mayV_iff]; simp only [HSZ.out]; omega)
       generalize strOfNums ((r.drop u).take n) = t at *
       clear hg hq hi0 hsz0
       go_enter Try.func73, Try.ntmps73
       go_wp2_with (first
        | (go_at_call 42; refine (le_Get.yes A1 _ r _ HG.out HBR.out (by omega) (Kd.C_below HD1.out (zab (zab (Below.refl _ _) _) _)) HL1.out).mono ?_; rintro e w1 ⟨rfl, hb1⟩; have HB1 := Aside0.mk (zah (zab (zab (Below.refl _ _) _) _) hb1); have HKr1 := Aside0.mk (zak (zag (zat w (.cells #[.int .i64 0, .int .i64 0, .string ⟨#[]⟩] 73)) (.cells #[.int .i64 0, .int .i64 0, .string ⟨#[]⟩] 73)) hb1); obtain ⟨kr1, kr2, kr3, kr4⟩ := know HKr1.out; have HKn1 := Aside0.mk (zak (za7 w (.cells #[.int .i64 0, .int .i64 0, .string ⟨#[]⟩] 73) (.cells #[.int .i64 0, .int .i64 0, .string ⟨#[]⟩] 73)) hb1); obtain ⟨kn1, kn2, kn3, kn4⟩ := know HKn1.out; have hx1 := zaB HB1.out HX.out; have hstr1 := HSTR.out _ (zab HB1.out (.cells #[.int .i64 2, .int .i64 0, .string ⟨#[]⟩] 73)); clear hb1)
        | (go_at_call 66; refine (zbq ⟨2, 0, t⟩ _ zero_i64 HM.out).mono ?_; rintro e w3 ⟨rfl, hb3⟩; have HB3 := Aside0.mk (zah (zab HB1.out _) hb3); have HKr3 := Aside0.mk (zak (zag HKr1.out _) hb3); have HKv3 := Aside0.mk (zak (zat w1 (.cells #[.int .i64 2, .int .i64 0, .string t] 73)) hb3); have hcr3 := za2 HKr3.out; have hfr3 := frozen_of HKr3.out; have hcv3 := za2 HKv3.out; have HKn3 := Aside0.mk (zak (zag HKn1.out _) hb3); have hcn3 := za2 HKn3.out; clear hb3))
       have hz := zbt HKr3.out (.int .i64 0) (.int .i64 0) (.string ⟨#[]⟩)
       have hbz := below_put3 HB3.out (Nat.le_refl _) (.int .i64 0) (.int .i64 0) (.string ⟨#[]⟩)
       generalize World.setCell (World.setCell (World.setCell _ _ _) _ _) _ _ = W3 at hz hbz ⊢
       have hz0 : W3.cell? ⟨w.heap.size, 0, none⟩ = some (.int .i64 0) := zac hz 0
       have hz1 : W3.cell? ⟨w.heap.size, 1, none⟩ = some (.int .i64 0) := zac hz 1
       have hz2 : W3.cell? ⟨w.heap.size, 2, none⟩ = some (.string ⟨#[]⟩) := zac hz 2
       exact bodyPost_ret (v := .tuple #[.agg #[.int .i64 0, .int .i64 0, .string ⟨#[]⟩], .int .i64 0, .bool false]) (by simp [results, Try.results73, go_sem, hz0, hz1, hz2]) rfl ⟨rfl, hbz⟩
     ·obtain ⟨rfl, rfl, rfl⟩ : x = ⟨0, 0, ⟨#[]⟩⟩ ∧ m = 0 ∧ b = false := by
       rw [if_neg (by omega)] at hq
       simp only [Prod.mk.injEq] at hq
       exact ⟨hq.1.symm, hq.2.1.symm, hq.2.2.symm⟩
      have hf1 : (r.length : Int) + 1 - ((u : Int) + 1) < (n : Int) := by omega
      clear hg hq hi0 hsz0
      go_enter Try.func73, Try.ntmps73
      go_wp2_with (go_at_call 42; refine (le_Get.yes A1 _ r _ HG.out HBR.out (by omega) (Kd.C_below HD1.out (zab (zab (Below.refl _ _) _) _)) HL1.out).mono ?_; rintro e w1 ⟨rfl, hb1⟩; have HB1 := Aside0.mk (zah (zab (zab (Below.refl _ _) _) _) hb1); have HKr1 := Aside0.mk (zak (zag (zat w (.cells #[.int .i64 0, .int .i64 0, .string ⟨#[]⟩] 73)) (.cells #[.int .i64 0, .int .i64 0, .string ⟨#[]⟩] 73)) hb1); obtain ⟨kr1, kr2, kr3, kr4⟩ := know HKr1.out; have HKn1 := Aside0.mk (zak (za7 w (.cells #[.int .i64 0, .int .i64 0, .string ⟨#[]⟩] 73) (.cells #[.int .i64 0, .int .i64 0, .string ⟨#[]⟩] 73)) hb1); obtain ⟨kn1, kn2, kn3, kn4⟩ := know HKn1.out; have hx1 := zaB HB1.out HX.out; clear hb1)
      have hz := zbt (zag HKr1.out (.cells #[.int .i64 2, .int .i64 0, .string ⟨#[]⟩] 73)) (.int .i64 0) (.int .i64 0) (.string ⟨#[]⟩)
      have hbz := below_put3 (zab HB1.out (.cells #[.int .i64 2, .int .i64 0, .string ⟨#[]⟩] 73)) (Nat.le_refl _) (.int .i64 0) (.int .i64 0) (.string ⟨#[]⟩)
      generalize World.setCell (World.setCell (World.setCell _ _ _) _ _) _ _ = W3 at hz hbz ⊢
      have hz0 : W3.cell? ⟨w.heap.size, 0, none⟩ = some (.int .i64 0) := zac hz 0
      have hz1 : W3.cell? ⟨w.heap.size, 1, none⟩ = some (.int .i64 0) := zac hz 1
      have hz2 : W3.cell? ⟨w.heap.size, 2, none⟩ = some (.string ⟨#[]⟩) := zac hz 2
      exact bodyPost_ret (v := .tuple #[.agg #[.int .i64 0, .int .i64 0, .string ⟨#[]⟩], .int .i64 0, .bool false]) (by simp [results, Try.results73, go_sem, hz0, hz1, hz2]) rfl ⟨rfl, hbz⟩
    ·have hq2 := getV_rest hg hk3 hk4 hnb
     rw [hq] at hq2
     clear hq
     have hqb : -9223372036854775808 ≤ IntKind.wrap .i64 (n : Int) ∧ IntKind.wrap .i64 (n : Int) ≤ 9223372036854775807 := by rw [wrap_i64]; unfold wrap64; omega
     obtain ⟨q, hwn⟩ : ∃ q, IntKind.wrap .i64 (n : Int) = q := ⟨_, rfl⟩
     rw [hwn] at hq2 hqb
     have HQB := Aside0.mk hqb
     have e0 : (k == 0) = false := by simpa using hk3
     have e2 : (k == 2) = false := by simpa using hk4
     clear hqb hg hi0 hsz0 hk3 hk4
     cases hm : mayV ⟨k, q, ⟨#[]⟩⟩ with
     | false =>
      rw [hm] at hq2
      obtain ⟨rfl, rfl, rfl⟩ : x = ⟨0, 0, ⟨#[]⟩⟩ ∧ m = 0 ∧ b = false := by
       have h : (x, m, b) = ((⟨0, 0, ⟨#[]⟩⟩ : SValue), 0, false) := hq2
       simp only [Prod.mk.injEq] at h
       exact h
      have HM := Aside0.mk hm
      clear hm hq2
      go_enter Try.func73, Try.ntmps73
      go_wp2_with (first
       | (go_at_call 42; refine (le_Get.yes A1 _ r _ HG.out HBR.out (by omega) (Kd.C_below HD1.out (zab (zab (Below.refl _ _) _) _)) HL1.out).mono ?_; rintro e w1 ⟨rfl, hb1⟩; have HB1 := Aside0.mk (zah (zab (zab (Below.refl _ _) _) _) hb1); have HKr1 := Aside0.mk (zak (zag (zat w (.cells #[.int .i64 0, .int .i64 0, .string ⟨#[]⟩] 73)) (.cells #[.int .i64 0, .int .i64 0, .string ⟨#[]⟩] 73)) hb1); obtain ⟨kr1, kr2, kr3, kr4⟩ := know HKr1.out; have HKn1 := Aside0.mk (zak (za7 w (.cells #[.int .i64 0, .int .i64 0, .string ⟨#[]⟩] 73) (.cells #[.int .i64 0, .int .i64 0, .string ⟨#[]⟩] 73)) hb1); obtain ⟨kn1, kn2, kn3, kn4⟩ := know HKn1.out; have hx1 := zaB HB1.out HX.out; clear hb1)
       | (go_at_call 66; refine (zbq ⟨k, q, ⟨#[]⟩⟩ _ HQB.out HM.out).mono ?_; rintro e w3 ⟨rfl, hb3⟩; have HB3 := Aside0.mk (zah (zab HB1.out _) hb3); have HKr3 := Aside0.mk (zak (zag HKr1.out _) hb3); have HKv3 := Aside0.mk (zak (zat w1 (.cells #[.int .i64 k, .int .i64 q, .string ⟨#[]⟩] 73)) hb3); have hcr3 := za2 HKr3.out; have hfr3 := frozen_of HKr3.out; have hcv3 := za2 HKv3.out; have HKn3 := Aside0.mk (zak (zag HKn1.out _) hb3); have hcn3 := za2 HKn3.out; clear hb3))
      have hz := zbt HKr3.out (.int .i64 0) (.int .i64 0) (.string ⟨#[]⟩)
      have hbz := below_put3 HB3.out (Nat.le_refl _) (.int .i64 0) (.int .i64 0) (.string ⟨#[]⟩)
      generalize World.setCell (World.setCell (World.setCell _ _ _) _ _) _ _ = W3 at hz hbz ⊢
      have hz0 : W3.cell? ⟨w.heap.size, 0, none⟩ = some (.int .i64 0) := zac hz 0
      have hz1 : W3.cell? ⟨w.heap.size, 1, none⟩ = some (.int .i64 0) := zac hz 1
      have hz2 : W3.cell? ⟨w.heap.size, 2, none⟩ = some (.string ⟨#[]⟩) := zac hz 2
      exact bodyPost_ret (v := .tuple #[.agg #[.int .i64 0, .int .i64 0, .string ⟨#[]⟩], .int .i64 0, .bool false]) (by simp [results, Try.results73, go_sem, hz0, hz1, hz2]) rfl ⟨rfl, hbz⟩
     | true =>
      rw [hm] at hq2
      obtain ⟨rfl, rfl, rfl⟩ : x = ⟨k, q, ⟨#[]⟩⟩ ∧ m = u + 1 ∧ b = true := by
       have h : (x, m, b) = ((⟨k, q, ⟨#[]⟩⟩ : SValue), u + 1, true) := hq2
       simp only [Prod.mk.injEq] at h
       exact h
      have HM := Aside0.mk hm
      clear hm hq2
      go_enter Try.func73, Try.ntmps73
      go_wp2_with (first
       | (go_at_call 42; refine (le_Get.yes A1 _ r _ HG.out HBR.out (by omega) (Kd.C_below HD1.out (zab (zab (Below.refl _ _) _) _)) HL1.out).mono ?_; rintro e w1 ⟨rfl, hb1⟩; have HB1 := Aside0.mk (zah (zab (zab (Below.refl _ _) _) _) hb1); have HKr1 := Aside0.mk (zak (zag (zat w (.cells #[.int .i64 0, .int .i64 0, .string ⟨#[]⟩] 73)) (.cells #[.int .i64 0, .int .i64 0, .string ⟨#[]⟩] 73)) hb1); obtain ⟨kr1, kr2, kr3, kr4⟩ := know HKr1.out; have HKn1 := Aside0.mk (zak (za7 w (.cells #[.int .i64 0, .int .i64 0, .string ⟨#[]⟩] 73) (.cells #[.int .i64 0, .int .i64 0, .string ⟨#[]⟩] 73)) hb1); obtain ⟨kn1, kn2, kn3, kn4⟩ := know HKn1.out; have hx1 := zaB HB1.out HX.out; clear hb1)
       | (go_at_call 66; refine (zbq ⟨k, q, ⟨#[]⟩⟩ _ HQB.out HM.out).mono ?_; rintro e w3 ⟨rfl, hb3⟩; have HB3 := Aside0.mk (zah (zab HB1.out _) hb3); have HKr3 := Aside0.mk (zak (zag HKr1.out _) hb3); have HKv3 := Aside0.mk (zak (zat w1 (.cells #[.int .i64 k, .int .i64 q, .string ⟨#[]⟩] 73)) hb3); have hcr3 := za2 HKr3.out; have hfr3 := frozen_of HKr3.out; have hcv3 := za2 HKv3.out; have HKn3 := Aside0.mk (zak (zag HKn1.out _) hb3); have hcn3 := za2 HKn3.out; clear hb3))
      have hz := zbt HKr3.out (.int .i64 k) (.int .i64 q) (.string ⟨#[]⟩)
      have hbz := below_put3 HB3.out (Nat.le_refl _) (.int .i64 k) (.int .i64 q) (.string ⟨#[]⟩)
      generalize World.setCell (World.setCell (World.setCell _ _ _) _ _) _ _ = W3 at hz hbz ⊢
      have hz0 : W3.cell? ⟨w.heap.size, 0, none⟩ = some (.int .i64 k) := zac hz 0
      have hz1 : W3.cell? ⟨w.heap.size, 1, none⟩ = some (.int .i64 q) := zac hz 1
      have hz2 : W3.cell? ⟨w.heap.size, 2, none⟩ = some (.string ⟨#[]⟩) := zac hz 2
      exact bodyPost_ret (v := .tuple #[.agg #[.int .i64 k, .int .i64 q, .string ⟨#[]⟩], .int .i64 ((u + 1 : Nat) : Int), .bool true]) (by simp [results, Try.results73, go_sem, hz0, hz1, hz2]) rfl ⟨rfl, hbz⟩
theorem infoThing : (Try.prog.info? 119).map (fun i => (i.zero, i.size, i.bytes)) = some (some .nilIface, 1, 16) := by kernel_rfl
theorem Spares.low {S : Nat → Prop} {w0 W w1 : World} (h : Spares S w0 W) (k : Below w0.heap.size W w1) : Spares S w0 w1 := ⟨h.1.trans (k.mono (Nat.zero_le _)), fun i hi hs => (k.block i hi).trans (h.2 i hi hs)⟩
def zbd (v V : Value) (k : Bool) : Obj := .cells #[v, V, .bool k] 105 (0, 0)
def pileRel (w0 : World) (B : Nat) (V : Value) (k : Bool) (xs : List SValue) (w : World) : Prop := ∃ v, w.heap[B]? = some (zbd v V k) ∧ Kd.R kThing 119 w w0.heap.size (fun _ => True) v xs ∧ Spares (fun i => i = B) w0 w
theorem pileRel.size {w0 : World} {B : Nat} {V : Value} {k : Bool} {xs : List SValue} {w : World} (h : pileRel w0 B V k xs w) : w0.heap.size ≤ w.heap.size := by obtain ⟨_, _, _, hs⟩ := h; exact hs.size
theorem pileRel.below {w0 : World} {B : Nat} {V : Value} {k : Bool} {xs : List SValue} {w w1 : World} (h : pileRel w0 B V k xs w) (hb : Below w.heap.size w w1) : pileRel w0 B V k xs w1 := by
 obtain ⟨v, h1, h2, h3⟩ := h
 exact ⟨v, zak h1 hb, Kd.R_below h2 hb, h3.step hb⟩
theorem thing_types : ∀ q, q ∈ 119 :: kThing.E → q ≠ 105 := by
 intro q hq
 rw [show kThing.E = [] from rfl, List.mem_singleton] at hq
 subst hq
 decide
theorem pile_put {w0 w : World} {B : Nat} {v V v1 : Value} {k : Bool} {xs : List SValue} (h1 : w.heap[B]? = some (zbd v V k)) (h2 : Kd.R kThing 119 w w0.heap.size (fun _ => True) v1 xs) (h3 : Spares (fun i => i = B) w0 w) : pileRel w0 B V k xs (w.setCell ⟨B, 0, none⟩ v1) :=
 ⟨v1, zar h1 0 v1 rfl, Kd.R_set h2 h1 thing_types 0 v1, h3.set 0 (.inl rfl) v1⟩
set_option maxHeartbeats 1000000 in
set_option maxRecDepth 100000 in
theorem lay_told (w0 : World) (B : Nat) (V : Value) (k : Bool) (xs : List SValue) (x : SValue) (w : World) (h : pileRel w0 B V k xs w) (hB : B < w0.heap.size) (hl : xs.length ≤ 1000) :
  Calls Try.prog 74 #[.pointer (some ⟨B, 0, none⟩), thV x] w fun e w' => e = .returned (.tuple #[]) ∧ pileRel w0 B V k (xs ++ [x]) w' := by
 obtain ⟨v, hb, ho, hs⟩ := h
 obtain ⟨A, c, rfl⟩ := Kd.R_slice ho
 have HO := Aside0.mk ho
 have HS := Aside0.mk hs
 have HK := Aside0.mk hb
 have hne := Kd.R_ne ho hb (by decide : (119 : Nat) ≠ 105)
 have HNE := Aside0.mk hne
 have hone := thV_one x
 unfold zbd at hb
 obtain ⟨k1, k2, k3, k4⟩ := know hb
 obtain ⟨t, u, hy⟩ := thV_iface x
 rw [hy] at hone ⊢
 have HY := Aside0.mk hy
 have hsz := hs.size
 clear ho hs hb hne hy hone
 go_enter Try.func74, Try.ntmps74
 go_wp2_with ((with_reducible refine zaz (b := .append) (xs := #[.tmp 8, .tmp 10]) rfl ?_); at_builtin; refine Kd.R_append kThing (w0 := w) w0.heap.size rfl (.tmp 8) (.tmp 10) 102 119 .nilIface 16 rfl Try.underlying102 infoThing rfl (by decide) (by decide) (.slice A xs.length c) xs x [.iface t u] (fun _ => True) (fun _ => False) ?hs ?hx ?aP (fun _ h => h.elim) (fun _ _ => trivial) HO.out (Below.refl _ _) hsz (by omega) ?_; (case hs => rfl); (case hx => rfl); (case aP => rw [← HY.out]; rfl); intro v1 w1 ho1 hb1 hg1 hat1; have HO1 := Aside0.mk ho1; have HB1 := Aside0.mk hb1; have HK1 := Aside0.mk (zba HK.out hg1 HNE.out); obtain ⟨A1, c1, hv1⟩ := Kd.R_slice ho1; rw [List.length_append, List.length_singleton] at hv1; subst hv1; obtain ⟨j1, j2, j3, j4⟩ := know HK1.out; clear ho1 hb1 hg1 hat1 k1 k2 k3 k4)
 go_end0
 exact ⟨rfl, pile_put HK1.out HO1.out (HS.out.low HB1.out)⟩
set_option maxHeartbeats 1000000 in
set_option maxRecDepth 100000 in
theorem cloneTh_told (ad : Addr) (m c : Nat) (l : List SValue) (w : World) (hr0 : Kd.C kThing w (some ad) m l) (hm : m ≤ 1000) :
  Calls Try.prog 80 #[.slice (some ad) m c] w (rowPost kThing 119 l w) := by
 obtain rfl : l.length = m := hr0.1
 have HR := Aside0.mk hr0
 clear hr0
 have hu := Try.underlying102
 have hq := fun (W : World) (m c : Nat) => Go.Lib.run_eql_slice_nil (P := Try.prog) W 102 119 (some ad) m c 0 0 hu
 go_enter Try.func80, Try.ntmps80
 go_wp2_with ((with_reducible refine zaz (b := .append) (xs := #[.tmp 5, .tmp 6]) rfl ?_); at_builtin; refine Kd.R_append_rows kThing (Rr := Kd.K kThing (w.alloc (.cells #[] 119))) (w0 := w) w.heap.size rfl (.tmp 5) (.tmp 6) 102 119 .nilIface 16 rfl Try.underlying102 infoThing rfl (by decide) (by omega) (.slice (some ⟨w.heap.size, 0, none⟩) 0 0) [] l (some ad) l.length c (fun _ => True) (fun _ => False) rfl rfl ?aO ?aR ?aK (fun _ h => h.elim) (fun _ _ => trivial) ?aB ?aS ?aL ?_; (case aO => exact Kd.R_empty _ _ _ _ (Nat.le_refl _)); (case aR => exact Kd.C_below HR.out ((Below.refl _ _).alloc (Nat.le_refl _) _)); (case aB => exact (Below.refl _ _).alloc (Nat.le_refl _) _); (case aK => exact (fun x cs h => h)); (case aS => simp); (case aL => simp; omega); intro v1 w2 ho hb hg hat; have HO := Aside0.mk ho; clear ho hg hat)
 go_ret
 exact ⟨_, rfl, HO.out, hb⟩
def takePost (w0 : World) (B n : Nat) (V : Value) (k : Bool) (xs : List SValue) (w : World) (e : Ending) (w' : World) : Prop := ∃ A c, (e = .returned (.tuple #[.slice (some A) n c, .bool true]) ∧ n ≤ c ∧ Kd.C kThing w' (some A) n (xs.drop (xs.length - n))) ∧ pileRel w0 B V k (xs.take (xs.length - n)) w' ∧ Spares (fun i => i = B) w w'
set_option maxHeartbeats 1000000 in
set_option maxRecDepth 100000 in
theorem take_no (w0 : World) (B n : Nat) (V : Value) (k : Bool) (xs : List SValue) (w : World) (h : pileRel w0 B V k xs w) (hn : xs.length < n) (hn2 : n ≤ 2) :
  Calls Try.prog 77 #[.pointer (some ⟨B, 0, none⟩), .int .i64 (n : Int)] w fun e w' => e = .returned (.tuple #[.slice none 0 0, .bool false]) ∧ w' = w := by
 have HH := Aside0.mk h
 obtain ⟨v, hb, ho, hs⟩ := h
 obtain ⟨A, c, rfl⟩ := Kd.R_slice ho
 unfold zbd at hb
 obtain ⟨k1, k2, k3, k4⟩ := know hb
 have hw : IntKind.i64.wrap ((xs.length : Int) - (n : Int)) = (xs.length : Int) - (n : Int) := IntWalk.i64_in _ (by omega)
 have hd : decide ((xs.length : Int) - (n : Int) < 0) = true := decide_eq_true (by omega)
 have hd2 : (xs.length : Int) - (n : Int) < 0 := by omega
 clear ho hs hb hn hn2
 go_enter Try.func77, Try.ntmps77
 go_wp2
 go_ret2
 exact ⟨rfl, rfl⟩
set_option maxHeartbeats 1000000 in
set_option maxRecDepth 100000 in
theorem take_told (w0 : World) (B n : Nat) (V : Value) (k : Bool) (xs : List SValue) (w : World) (h : pileRel w0 B V k xs w) (hB : B < w0.heap.size) (hn0 : 1 ≤ n) (hn2 : n ≤ 2) (hl : xs.length ≤ 1000) (hle : n ≤ xs.length) :
  Calls Try.prog 77 #[.pointer (some ⟨B, 0, none⟩), .int .i64 (n : Int)] w (takePost w0 B n V k xs w) := by
 obtain ⟨v, hb, ho, hs⟩ := h
 obtain ⟨A, c, rfl, hc, hr⟩ := Kd.R_reads ho
 obtain ⟨i0, hi0, _, hsz0, _⟩ := info_parts infoThing
 obtain ⟨m, hm⟩ : ∃ m, xs.length = m + n := ⟨xs.length - n, by omega⟩
 obtain ⟨A', hcut, hC', hlc⟩ := drop_row (P := Try.prog) (d := kThing) Try.underlying102 hi0 hsz0 A c xs m (m : Int) rfl (by omega) hc
 obtain ⟨hcut2, hC2⟩ := take_row (P := Try.prog) (d := kThing) Try.underlying102 hi0 A c xs m (m : Int) rfl (by omega) hc
 have hln : (xs.drop m).length = n := by rw [List.length_drop]; omega
 rw [hln] at hcut hC' hlc
 have hrow := hC' w hr
 obtain ⟨a, rfl⟩ : ∃ a, A' = some a := by
  obtain ⟨ad, e, _⟩ := hrow.2.2 (by omega)
  exact ⟨ad, e⟩
 have HROW := Aside0.mk hrow
 have HO := Aside0.mk ho
 have HS := Aside0.mk hs
 have HK := Aside0.mk hb
 unfold takePost
 rw [show xs.length - n = m from by omega]
 have HT := Aside0.mk (Kd.R_take (m := m) ho (by omega))
 unfold zbd at hb
 obtain ⟨k1, k2, k3, k4⟩ := know hb
 have hw : IntKind.i64.wrap ((xs.length : Int) - (n : Int)) = (m : Int) := by rw [IntWalk.i64_in _ (by omega)]; omega
 have hm0 : ¬ (m : Int) < 0 := by omega
 have hn1000 : n ≤ 1000 := by omega
 clear ho hs hb hC' hC2 hlc hi0 hsz0 hr hrow hm
 go_enter Try.func77, Try.ntmps77
 go_wp2_with (go_at_call 80; refine (cloneTh_told a n _ (xs.drop m) _ HROW.out hn1000).mono ?_; rintro e w1 ⟨v1, rfl, ho1, hb1⟩; obtain ⟨A1, c1, hv1, hc1, hr1⟩ := Kd.R_reads ho1; rw [hln] at hv1 hc1 hr1; subst hv1; have HC1 := Aside0.mk hc1; have HR1 := Aside0.mk hr1; have HOR := Aside0.mk ho1; have HB1 := Aside0.mk hb1; have HK1 := Aside0.mk (zak HK.out hb1); obtain ⟨j1, j2, j3, j4⟩ := know HK1.out; clear ho1 hb1 hc1 hr1 k1 k2 k3 k4)
 go_ret2
 have hb : A1 ≠ none := by
  rintro rfl
  obtain ⟨ad, e, _⟩ := HR1.out.2.2 (by omega)
  cases e
 obtain ⟨a1, rfl⟩ := Option.ne_none_iff_exists'.1 hb
 refine ⟨a1, c1, ⟨rfl, HC1.out, ?_⟩, pile_put HK1.out (Kd.R_below HT.out HB1.out) (HS.out.step HB1.out), Spares.set (S := fun i => i = B) (Spares.of_below HB1.out) (g := B) 0 (.inl rfl) _⟩
 have hfin := (Kd.R_reads' (Kd.R_set HOR.out HK1.out thing_types 0 (.slice A m c))).2.2
 rwa [hln] at hfin
def cmp_isNaN_int.f (a0 : Int) : Option (Bool) := some (a0 != a0)
set_option maxHeartbeats 8000000 in
set_option maxRecDepth 100000 in
theorem cmp_isNaN_int.calls (a0 : Int) (r : Bool) (w : World) (h : cmp_isNaN_int.f a0 = some r) :
  Calls Try.prog 86 #[.int .i64 a0] w fun e w' => e = .returned (.bool r) ∧ Drawn0 w w' := by
 have H : (some (a0 != a0)) = some r := h
 clear h
 obtain rfl := Option.some.inj H
 go_enter Try.func86, Try.ntmps86
 go_wp2
 go_ret
 exact ⟨by first | rfl | (simp; done) | (simp [*]; done), by repeat (first | exact Drawn0.refl _ | apply Drawn0.step)⟩
def cmp_Or_int.l0 : Nat → Int → List Int → Int → Int → Option (Int)
 | 0, _, _, _, _ => none
 | k + 1, x3, x6, x7, x8 => if x8 < x7 then (if 0 ≤ x8 then (if x8 < (x6.length : Int) then (if (rd x6 x8) = x3 then (cmp_Or_int.l0 k x3 x6 x7 (wrap64 (x8 + 1))) else (some (rd x6 x8))) else (none)) else (none)) else (some x3)
def cmp_Or_int.f (k : Nat) (l0 : List Int) : Option (Int) := cmp_Or_int.l0 k 0 l0 (l0.length : Int) 0
set_option maxHeartbeats 8000000 in
set_option maxRecDepth 100000 in
theorem cmp_Or_int.calls (k : Nat) (A0 : Option Addr) (c0 : Nat) (l0 : List Int) (r : Int) (w : World) (hr0 : Kd.C (Kd.int .i64) w A0 l0.length l0) (hc0 : l0.length ≤ c0) (h : cmp_Or_int.f k l0 = some r) :
  Calls Try.prog 83 #[.slice A0 l0.length c0] w fun e w' => e = .returned (.int .i64 r) ∧ Drawn0 w w' := by
 have HR0 := Aside0.mk hr0
 have HC0 := Aside0.mk hc0
 clear hr0 hc0
 have H : (cmp_Or_int.l0 k 0 l0 (l0.length : Int) 0) = some r := h
 clear h
 have H' := Aside0.mk H
 clear H
 go_enter Try.func83, Try.ntmps83
 go_wp2
 go_loopg [8] k (fun kq v8 w' => ∃ (x8_1 : Int), v8 = .int .i64 x8_1 ∧ Aside0 (cmp_Or_int.l0 kq 0 l0 (l0.length : Int) x8_1 = some r) ∧ Aside0 (kq ≤ k) ∧ Drawn0 w w')
 case atStart => exact ⟨(0), (by first | rfl | (simp; done) | (simp [*]; done)), H', ⟨Nat.le_refl _⟩, by repeat (first | exact Drawn0.refl _ | apply Drawn0.step)⟩
 case round =>
  clear H'
  obtain ⟨x8_1, rfl, HA, HK1, ⟨m1, rfl⟩⟩ := hrel
  cases gk with
  | zero => exact absurd HA.out (by simp [cmp_Or_int.l0])
  | succ k1 =>
   have H := HA.out
   clear HA
   simp only [cmp_Or_int.l0] at H
   by_cases c2 : x8_1 < (l0.length : Int)
   ·rw [if_pos c2] at H
    have c2b0 : decide (x8_1 < (l0.length : Int)) = true := decide_eq_true c2
    clear c2
    by_cases c3 : 0 ≤ x8_1
    ·rw [if_pos c3] at H
     have c3b0 : decide (0 ≤ x8_1) = true := decide_eq_true c3
     clear c3
     by_cases c4 : x8_1 < (l0.length : Int)
     ·rw [if_pos c4] at H
      have c4b0 : decide (x8_1 < (l0.length : Int)) = true := decide_eq_true c4
      clear c4
      by_cases c5 : (rd l0 x8_1) = 0
      ·rw [if_pos c5] at H
       have c5b0 : ((rd l0 x8_1) == 0) = true := beq_iff_eq.mpr c5
       have c5b1 : ((rd l0 x8_1) != 0) = false := bne_eq_false_iff_eq.mpr c5
       clear c5
       have H' := Aside0.mk H
       clear H
       have p148 : 0 ≤ (x8_1 : Int) := of_decide_eq_true (by first | (with_reducible assumption) | assumption)
       have q148 : x8_1 < (l0.length : Int) := of_decide_eq_true (by first | (with_reducible assumption) | assumption)
       obtain ⟨ad148, e148, hx148_0⟩ := Kd.at_int HR0.out x8_1 p148 q148
       cases e148
       replace p148 := eq_true p148
       replace q148 := eq_true q148
       go_wp2
       go_roundg k1
       case measure => have := HK1.out; omega
       case rel => exact ⟨(wrap64 (x8_1 + 1)), (by first | rfl | (simp; done) | (simp [*]; done)), H', ⟨by have := HK1.out; omega⟩, by repeat (first | exact Drawn0.refl _ | apply Drawn0.step)⟩
      ·rw [if_neg c5] at H
       have c5b0 : ((rd l0 x8_1) == 0) = false := beq_eq_false_iff_ne.mpr c5
       have c5b1 : ((rd l0 x8_1) != 0) = true := bne_iff_ne.mpr c5
       obtain rfl := Option.some.inj H
       have p148 : 0 ≤ (x8_1 : Int) := of_decide_eq_true (by first | (with_reducible assumption) | assumption)
       have q148 : x8_1 < (l0.length : Int) := of_decide_eq_true (by first | (with_reducible assumption) | assumption)
       obtain ⟨ad148, e148, hx148_0⟩ := Kd.at_int HR0.out x8_1 p148 q148
       cases e148
       replace p148 := eq_true p148
       replace q148 := eq_true q148
       go_wp2
       go_ret
       exact ⟨by first | rfl | (simp; done) | (simp [*]; done), by repeat (first | exact Drawn0.refl _ | apply Drawn0.step)⟩
     ·rw [if_neg c4] at H
      exact absurd H (by simp)
    ·rw [if_neg c3] at H
     exact absurd H (by simp)
   ·rw [if_neg c2] at H
    have c2b0 : decide (x8_1 < (l0.length : Int)) = false := decide_eq_false c2
    clear c2
    obtain rfl := Option.some.inj H
    go_wp2
    go_ret
    exact ⟨by first | rfl | (simp; done) | (simp [*]; done), by repeat (first | exact Drawn0.refl _ | apply Drawn0.step)⟩
def cmp_Compare_int.f (a0 : Int) (a1 : Int) : Option (Int) := (cmp_isNaN_int.f a0).bind fun t149 => ((cmp_isNaN_int.f a1).bind fun t150 => (if t149 = true then (if t150 = true then (some 0) else (some (-1))) else (if t150 = true then (some 1) else (if a0 < a1 then (some (-1)) else (if a0 > a1 then (some 1) else (some 0))))))
set_option maxHeartbeats 8000000 in
set_option maxRecDepth 100000 in
theorem cmp_Compare_int.calls (a0 : Int) (a1 : Int) (r : Int) (w : World) (h : cmp_Compare_int.f a0 a1 = some r) :
  Calls Try.prog 84 #[.int .i64 a0, .int .i64 a1] w fun e w' => e = .returned (.int .i64 r) ∧ Drawn0 w w' := by
 have H : ((cmp_isNaN_int.f a0).bind fun t149 => ((cmp_isNaN_int.f a1).bind fun t150 => (if t149 = true then (if t150 = true then (some 0) else (some (-1))) else (if t150 = true then (some 1) else (if a0 < a1 then (some (-1)) else (if a0 > a1 then (some 1) else (some 0))))))) = some r := h
 clear h
 replace H := Option.bind_eq_some_iff.mp H
 obtain ⟨t149, A30, H⟩ := H
 replace H : ((cmp_isNaN_int.f a1).bind fun t150 => (if t149 = true then (if t150 = true then (some 0) else (some (-1))) else (if t150 = true then (some 1) else (if a0 < a1 then (some (-1)) else (if a0 > a1 then (some 1) else (some 0)))))) = some r := H
 have A3 := Aside0.mk A30
 clear A30
 replace H := Option.bind_eq_some_iff.mp H
 obtain ⟨t150, A40, H⟩ := H
 replace H : (if t149 = true then (if t150 = true then (some 0) else (some (-1))) else (if t150 = true then (some 1) else (if a0 < a1 then (some (-1)) else (if a0 > a1 then (some 1) else (some 0))))) = some r := H
 have A4 := Aside0.mk A40
 clear A40
 by_cases c5 : t149 = true
 ·subst c5
  have H1 : (if t150 = true then (some 0) else (some (-1))) = some r := by rw [if_pos rfl] at H; exact H
  clear H
  have H := H1
  clear H1
  by_cases c6 : t150 = true
  ·subst c6
   have H1 : (some 0) = some r := by rw [if_pos rfl] at H; exact H
   clear H
   have H := H1
   clear H1
   obtain rfl := Option.some.inj H
   go_enter Try.func84, Try.ntmps84
   go_wp2_with (first | ((with_reducible refine zap (f := 86) rfl ?_); refine zau (some 8) rfl rfl Try.func86 (by kernel_rfl) rfl #[.int .i64 a0] rfl (by (try simp only [List.map_toArray, List.map_cons, List.map_nil]); first | done | rfl | (simp only [List.length_drop, List.length_take]; rfl)) ?_; (with_reducible refine (cmp_isNaN_int.calls a0 true _ A3.out).mono ?_); rintro e w' ⟨rfl, ⟨nd, rfl⟩⟩; refine ⟨_, rfl, ?_⟩) | ((with_reducible refine zap (f := 86) rfl ?_); refine zau (some 10) rfl rfl Try.func86 (by kernel_rfl) rfl #[.int .i64 a1] rfl (by (try simp only [List.map_toArray, List.map_cons, List.map_nil]); first | done | rfl | (simp only [List.length_drop, List.length_take]; rfl)) ?_; (with_reducible refine (cmp_isNaN_int.calls a1 true _ A4.out).mono ?_); rintro e w' ⟨rfl, ⟨nd, rfl⟩⟩; refine ⟨_, rfl, ?_⟩))
   go_ret
   exact ⟨by first | rfl | (simp; done) | (simp [*]; done), by repeat (first | exact Drawn0.refl _ | apply Drawn0.step)⟩
  ·replace c6 := Bool.eq_false_iff.mpr c6
   subst c6
   have H1 : (some (-1)) = some r := by rw [if_neg (show ¬ (false = true) by decide)] at H; exact H
   clear H
   have H := H1
   clear H1
   obtain rfl := Option.some.inj H
   go_enter Try.func84, Try.ntmps84
   go_wp2_with (first | ((with_reducible refine zap (f := 86) rfl ?_); refine zau (some 8) rfl rfl Try.func86 (by kernel_rfl) rfl #[.int .i64 a0] rfl (by (try simp only [List.map_toArray, List.map_cons, List.map_nil]); first | done | rfl | (simp only [List.length_drop, List.length_take]; rfl)) ?_; (with_reducible refine (cmp_isNaN_int.calls a0 true _ A3.out).mono ?_); rintro e w' ⟨rfl, ⟨nd, rfl⟩⟩; refine ⟨_, rfl, ?_⟩) | ((with_reducible refine zap (f := 86) rfl ?_); refine zau (some 10) rfl rfl Try.func86 (by kernel_rfl) rfl #[.int .i64 a1] rfl (by (try simp only [List.map_toArray, List.map_cons, List.map_nil]); first | done | rfl | (simp only [List.length_drop, List.length_take]; rfl)) ?_; (with_reducible refine (cmp_isNaN_int.calls a1 false _ A4.out).mono ?_); rintro e w' ⟨rfl, ⟨nd, rfl⟩⟩; refine ⟨_, rfl, ?_⟩))
   go_ret
   exact ⟨by first | rfl | (simp; done) | (simp [*]; done), by repeat (first | exact Drawn0.refl _ | apply Drawn0.step)⟩
 ·replace c5 := Bool.eq_false_iff.mpr c5
  subst c5
  have H1 : (if t150 = true then (some 1) else (if a0 < a1 then (some (-1)) else (if a0 > a1 then (some 1) else (some 0)))) = some r := by rw [if_neg (show ¬ (false = true) by decide)] at H; exact H
  clear H
  have H := H1
  clear H1
  by_cases c7 : t150 = true
  ·subst c7
   have H1 : (some 1) = some r := by rw [if_pos rfl] at H; exact H
   clear H
   have H := H1
   clear H1
   obtain rfl := Option.some.inj H
   go_enter Try.func84, Try.ntmps84
   go_wp2_with (first | ((with_reducible refine zap (f := 86) rfl ?_); refine zau (some 8) rfl rfl Try.func86 (by kernel_rfl) rfl #[.int .i64 a0] rfl (by (try simp only [List.map_toArray, List.map_cons, List.map_nil]); first | done | rfl | (simp only [List.length_drop, List.length_take]; rfl)) ?_; (with_reducible refine (cmp_isNaN_int.calls a0 false _ A3.out).mono ?_); rintro e w' ⟨rfl, ⟨nd, rfl⟩⟩; refine ⟨_, rfl, ?_⟩) | ((with_reducible refine zap (f := 86) rfl ?_); refine zau (some 10) rfl rfl Try.func86 (by kernel_rfl) rfl #[.int .i64 a1] rfl (by (try simp only [List.map_toArray, List.map_cons, List.map_nil]); first | done | rfl | (simp only [List.length_drop, List.length_take]; rfl)) ?_; (with_reducible refine (cmp_isNaN_int.calls a1 true _ A4.out).mono ?_); rintro e w' ⟨rfl, ⟨nd, rfl⟩⟩; refine ⟨_, rfl, ?_⟩))
   go_ret
   exact ⟨by first | rfl | (simp; done) | (simp [*]; done), by repeat (first | exact Drawn0.refl _ | apply Drawn0.step)⟩
  ·replace c7 := Bool.eq_false_iff.mpr c7
   subst c7
   have H1 : (if a0 < a1 then (some (-1)) else (if a0 > a1 then (some 1) else (some 0))) = some r := by rw [if_neg (show ¬ (false = true) by decide)] at H; exact H
   clear H
   have H := H1
   clear H1
   by_cases c8 : a0 < a1
   ·rw [if_pos c8] at H
    have c8b0 : decide (a0 < a1) = true := decide_eq_true c8
    clear c8
    obtain rfl := Option.some.inj H
    go_enter Try.func84, Try.ntmps84
    go_wp2_with (first | ((with_reducible refine zap (f := 86) rfl ?_); refine zau (some 8) rfl rfl Try.func86 (by kernel_rfl) rfl #[.int .i64 a0] rfl (by (try simp only [List.map_toArray, List.map_cons, List.map_nil]); first | done | rfl | (simp only [List.length_drop, List.length_take]; rfl)) ?_; (with_reducible refine (cmp_isNaN_int.calls a0 false _ A3.out).mono ?_); rintro e w' ⟨rfl, ⟨nd, rfl⟩⟩; refine ⟨_, rfl, ?_⟩) | ((with_reducible refine zap (f := 86) rfl ?_); refine zau (some 10) rfl rfl Try.func86 (by kernel_rfl) rfl #[.int .i64 a1] rfl (by (try simp only [List.map_toArray, List.map_cons, List.map_nil]); first | done | rfl | (simp only [List.length_drop, List.length_take]; rfl)) ?_; (with_reducible refine (cmp_isNaN_int.calls a1 false _ A4.out).mono ?_); rintro e w' ⟨rfl, ⟨nd, rfl⟩⟩; refine ⟨_, rfl, ?_⟩))
    go_ret
    exact ⟨by first | rfl | (simp; done) | (simp [*]; done), by repeat (first | exact Drawn0.refl _ | apply Drawn0.step)⟩
   ·rw [if_neg c8] at H
    have c8b0 : decide (a0 < a1) = false := decide_eq_false c8
    clear c8
    by_cases c9 : a0 > a1
    ·rw [if_pos c9] at H
     have c9b0 : decide (a1 < a0) = true := decide_eq_true c9
     clear c9
     obtain rfl := Option.some.inj H
     go_enter Try.func84, Try.ntmps84
     go_wp2_with (first | ((with_reducible refine zap (f := 86) rfl ?_); refine zau (some 8) rfl rfl Try.func86 (by kernel_rfl) rfl #[.int .i64 a0] rfl (by (try simp only [List.map_toArray, List.map_cons, List.map_nil]); first | done | rfl | (simp only [List.length_drop, List.length_take]; rfl)) ?_; (with_reducible refine (cmp_isNaN_int.calls a0 false _ A3.out).mono ?_); rintro e w' ⟨rfl, ⟨nd, rfl⟩⟩; refine ⟨_, rfl, ?_⟩) | ((with_reducible refine zap (f := 86) rfl ?_); refine zau (some 10) rfl rfl Try.func86 (by kernel_rfl) rfl #[.int .i64 a1] rfl (by (try simp only [List.map_toArray, List.map_cons, List.map_nil]); first | done | rfl | (simp only [List.length_drop, List.length_take]; rfl)) ?_; (with_reducible refine (cmp_isNaN_int.calls a1 false _ A4.out).mono ?_); rintro e w' ⟨rfl, ⟨nd, rfl⟩⟩; refine ⟨_, rfl, ?_⟩))
     go_ret
     exact ⟨by first | rfl | (simp; done) | (simp [*]; done), by repeat (first | exact Drawn0.refl _ | apply Drawn0.step)⟩
    ·rw [if_neg c9] at H
     have c9b0 : decide (a1 < a0) = false := decide_eq_false c9
     clear c9
     obtain rfl := Option.some.inj H
     go_enter Try.func84, Try.ntmps84
     go_wp2_with (first | ((with_reducible refine zap (f := 86) rfl ?_); refine zau (some 8) rfl rfl Try.func86 (by kernel_rfl) rfl #[.int .i64 a0] rfl (by (try simp only [List.map_toArray, List.map_cons, List.map_nil]); first | done | rfl | (simp only [List.length_drop, List.length_take]; rfl)) ?_; (with_reducible refine (cmp_isNaN_int.calls a0 false _ A3.out).mono ?_); rintro e w' ⟨rfl, ⟨nd, rfl⟩⟩; refine ⟨_, rfl, ?_⟩) | ((with_reducible refine zap (f := 86) rfl ?_); refine zau (some 10) rfl rfl Try.func86 (by kernel_rfl) rfl #[.int .i64 a1] rfl (by (try simp only [List.map_toArray, List.map_cons, List.map_nil]); first | done | rfl | (simp only [List.length_drop, List.length_take]; rfl)) ?_; (with_reducible refine (cmp_isNaN_int.calls a1 false _ A4.out).mono ?_); rintro e w' ⟨rfl, ⟨nd, rfl⟩⟩; refine ⟨_, rfl, ?_⟩))
     go_ret
     exact ⟨by first | rfl | (simp; done) | (simp [*]; done), by repeat (first | exact Drawn0.refl _ | apply Drawn0.step)⟩
def cmp_isNaN_string.f (a0 : ByteArray) : Option (Bool) := some (a0.toList != a0.toList)
set_option maxHeartbeats 8000000 in
set_option maxRecDepth 100000 in
theorem cmp_isNaN_string.calls (a0 : ByteArray) (r : Bool) (w : World) (h : cmp_isNaN_string.f a0 = some r) :
  Calls Try.prog 87 #[.string a0] w fun e w' => e = .returned (.bool r) ∧ Drawn0 w w' := by
 have H : (some (a0.toList != a0.toList)) = some r := h
 clear h
 obtain rfl := Option.some.inj H
 go_enter Try.func87, Try.ntmps87
 go_wp2
 go_ret
 exact ⟨by first | rfl | (simp; done) | (simp [*]; done), by repeat (first | exact Drawn0.refl _ | apply Drawn0.step)⟩
def cmpS (a b : ByteArray) : Int := if Op.bytesLess a.toList b.toList = true then -1 else if (a.toList == b.toList) = true then 0 else 1
def cmp_Compare_string.f (a0 : ByteArray) (a1 : ByteArray) : Option Int := some (cmpS a0 a1)
set_option maxHeartbeats 4000000 in
set_option maxRecDepth 100000 in
theorem cmp_Compare_string.calls (a0 : ByteArray) (a1 : ByteArray) (r : Int) (w : World) (h : cmp_Compare_string.f a0 a1 = some r) :
  Calls Try.prog 85 #[.string a0, .string a1] w fun e w' => e = .returned (.int .i64 r) ∧ Drawn0 w w' := by
 obtain rfl := Option.some.inj h
 clear h
 have hN : ∀ s : ByteArray, cmp_isNaN_string.f s = some false := fun s => by
  unfold cmp_isNaN_string.f
  rw [bne_self_eq_false]
 have HN := Aside0.mk hN
 unfold cmpS
 obtain ⟨p, hp⟩ : ∃ p, Op.bytesLess a0.toList a1.toList = p := ⟨_, rfl⟩
 obtain ⟨q, hq⟩ : ∃ q, (a0.toList == a1.toList) = q := ⟨_, rfl⟩
 clear hN
 cases p <;> cases q
 all_goals
  go_enter Try.func85, Try.ntmps85
  go_wp2_with (first
   | (go_at_call 87; refine (cmp_isNaN_string.calls _ false _ (HN.out _)).mono ?_; rintro e w' ⟨rfl, ⟨nd, rfl⟩⟩))
  all_goals
   go_ret
   exact ⟨by simp [*], by repeat (first | exact Drawn0.refl _ | apply Drawn0.step)⟩
def value_Less.j0 : Nat → Bool → Int → Int → ByteArray → Int → Int → ByteArray → Option (Bool × Bool)
 | 0, _, _, _, _, _, _, _ => none
 | k + 1, x20, x152000, x152001, x152002, x153000, x153001, x153002 => if x20 = true then (some (false, false)) else ((cmp_Compare_int.f x152001 x153001).bind fun t155 => ((cmp_Compare_string.f x152002 x153002).bind fun t156 => ((cmp_Or_int.f k (([t155, t156] : List Int))).bind fun t160 => (some (decide (t160 < 0), true)))))
def value_Less.f (k : Nat) (a0_0 : Int) (a0_1 : Int) (a0_2 : ByteArray) (a1_0 : Int) (a1_1 : Int) (a1_2 : ByteArray) : Option (Bool × Bool) := (value_May.f a0_0 a0_1 a0_2).bind fun t153 => (if t153 = true then ((value_May.f a1_0 a1_1 a1_2).bind fun t154 => (if t154 = true then (value_Less.j0 k (a0_0 != a1_0) a0_0 a0_1 a0_2 a1_0 a1_1 a1_2) else (value_Less.j0 k true a0_0 a0_1 a0_2 a1_0 a1_1 a1_2))) else (value_Less.j0 k true a0_0 a0_1 a0_2 a1_0 a1_1 a1_2))
def value_Less.T3 : Bool × List (List Nat × List Nat) := (true, [([], []), ([0], [0]), ([], []), ([2], [2]), ([1, 3], [1, 3]), ([], []), ([5], [5]), ([], []), ([7], [7]), ([6, 8, 4], [6, 8]), ([4, 9], [4, 9]), ([10, 9], [10]), ([11], [11]), ([12, 11, 0, 1, 2, 3, 4, 5, 6, 7, 8, 9, 10, 11, 12], [12]), ([13, 0, 1, 2, 3, 4, 5, 6, 7, 8, 9, 10, 11, 12, 13], [])])
def value_Less.B3 : List Nat := [0, 1, 0, 4, 15, 0, 32, 0, 128, 511, 1023, 2047, 4095, 8191, 16383]
theorem value_Less.tab3 : rtab .any (opsOf Try.f81 3) = value_Less.T3 := by kernel_rfl
theorem value_Less.bits3 : waitsOk value_Less.T3.2 value_Less.B3 = true := by kernel_rfl
set_option maxHeartbeats 8000000 in
set_option maxRecDepth 100000 in
theorem value_Less.calls (k : Nat) (a0_0 : Int) (a0_1 : Int) (a0_2 : ByteArray) (a1_0 : Int) (a1_1 : Int) (a1_2 : ByteArray) (r1 : Bool) (r2 : Bool) (w : World) (h : value_Less.f k a0_0 a0_1 a0_2 a1_0 a1_1 a1_2 = some (r1, r2)) :
  Calls Try.prog 81 #[.agg #[.int .i64 a0_0, .int .i64 a0_1, .string a0_2], .agg #[.int .i64 a1_0, .int .i64 a1_1, .string a1_2]] w fun e w' => e = .returned (.tuple #[.bool r1, .bool r2]) ∧ Below w.heap.size w w' := by
 have hu73 := Try.underlying73
 have HB := Aside0.mk (Below.refl w.heap.size w)
 have H : ((value_May.f a0_0 a0_1 a0_2).bind fun t153 => (if t153 = true then ((value_May.f a1_0 a1_1 a1_2).bind fun t154 => (if t154 = true then (value_Less.j0 k (a0_0 != a1_0) a0_0 a0_1 a0_2 a1_0 a1_1 a1_2) else (value_Less.j0 k true a0_0 a0_1 a0_2 a1_0 a1_1 a1_2))) else (value_Less.j0 k true a0_0 a0_1 a0_2 a1_0 a1_1 a1_2))) = some (r1, r2) := h
 clear h
 have HC3 := Aside0.mk H
 clear H
 go_enter Try.func81, Try.ntmps81
 go_upto_region 1 with (first | ((with_reducible refine zaw (N := 2) rfl ?_); refine zas ?hg (N := 2) ?hd (cs := #[.int .i64 a0_0, .int .i64 a0_1, .string a0_2]) (t := 73) ?hr ?_; (case hd => rfl); (case hg => rfl); (case hr => first | (go_simp; done) | (go_simp; rfl)); intro gb151 hg w4 hbox hb; have n0_ := Aside0.mk (zah (by repeat (first | (with_reducible first | exact HB.out | apply zab | apply zad | apply zae) | exact HB.out)) hb); have n1_ := Aside0.mk (hbox); have n2_ := Aside0.mk ((by rw [hg]; exact (zao (by repeat (first | (with_reducible first | exact HB.out | apply zab | apply zad | apply zae) | exact HB.out))) : w.heap.size ≤ gb151)); have n3_ := Aside0.mk ((by rw [hg]; exact (zao (by repeat (first | (with_reducible first | exact HB.out | apply zab | apply zad | apply zae) | exact HB.out))) : w.heap.size ≤ gb151)); clear HB; have HB := n0_; have BK151 := n1_; have GW151 := n2_; have GE151 := n3_; clear n0_ n1_ n2_ n3_; clear hb hbox hg) | ((with_reducible refine zaw (N := 3) rfl ?_); refine zas ?hg (N := 3) ?hd (cs := #[.int .i64 a1_0, .int .i64 a1_1, .string a1_2]) (t := 73) ?hr ?_; (case hd => rfl); (case hg => rfl); (case hr => first | (go_simp; done) | (go_simp; rfl)); intro gb152 hg w5 hbox hb; have n0_ := Aside0.mk (zak (g := gb151) (o := .cells #[.int .i64 a0_0, .int .i64 a0_1, .string a0_2] 73 (0, 0)) (by (with_reducible repeat (first | refine zai ?_ _ | refine zal ?_ | refine zag ?_ _)); exact BK151.out) hb); have n1_ := Aside0.mk (zah (by repeat (first | (with_reducible first | exact HB.out | apply zab | apply zad | apply zae | refine zaf ?_ GE151.out) | exact HB.out)) hb); have n2_ := Aside0.mk (hbox); have n3_ := Aside0.mk ((by rw [hg]; exact (zao (by repeat (first | (with_reducible first | exact HB.out | apply zab | apply zad | apply zae | refine zaf ?_ GE151.out) | exact HB.out))) : w.heap.size ≤ gb152)); have n4_ := Aside0.mk ((by rw [hg]; exact (zao (by repeat (first | (with_reducible first | exact HB.out | apply zab | apply zad | apply zae | refine zaf ?_ GE151.out) | exact HB.out))) : w.heap.size ≤ gb152)); have n5_ := Aside0.mk ((by rw [hg]; exact Nat.ne_of_lt (zaA (g := gb151) (o := .cells #[.int .i64 a0_0, .int .i64 a0_1, .string a0_2] 73 (0, 0)) (by (with_reducible repeat (first | refine zai ?_ _ | refine zal ?_ | refine zag ?_ _)); exact BK151.out)) : gb151 ≠ gb152)); have n6_ := Aside0.mk ((by rw [hg]; exact Nat.ne_of_gt (zaA (g := gb151) (o := .cells #[.int .i64 a0_0, .int .i64 a0_1, .string a0_2] 73 (0, 0)) (by (with_reducible repeat (first | refine zai ?_ _ | refine zal ?_ | refine zag ?_ _)); exact BK151.out)) : gb152 ≠ gb151)); clear BK151; clear HB; have BK151 := n0_; have HB := n1_; have BK152 := n2_; have GW152 := n3_; have GE152 := n4_; have NB151_152 := n5_; have NB152_151 := n6_; clear n0_ n1_ n2_ n3_ n4_ n5_ n6_; clear hb hbox hg))
 (try simp only [Act.put, List.setIfInBounds_toArray, List.set_cons_zero, List.set_cons_succ])
 go_cut [20] (fun v20 wc => ∃ (kq : Nat) (x20_2 : Bool), v20 = .bool x20_2 ∧ Aside0 (value_Less.j0 kq x20_2 a0_0 a0_1 a0_2 a1_0 a1_1 a1_2 = some (r1, r2)) ∧ Aside0 (kq ≤ k) ∧ Aside0 (wc.heap[gb151]? = some (.cells #[.int .i64 a0_0, .int .i64 a0_1, .string a0_2] 73 (0, 0))) ∧ Aside0 (wc.heap[gb152]? = some (.cells #[.int .i64 a1_0, .int .i64 a1_1, .string a1_2] 73 (0, 0))) ∧ Aside0 (Below w.heap.size w wc))
 case first =>
  have H := HC3.out
  clear HC3
  replace H := Option.bind_eq_some_iff.mp H
  obtain ⟨t153, A60, H⟩ := H
  replace H : (if t153 = true then ((value_May.f a1_0 a1_1 a1_2).bind fun t154 => (if t154 = true then (value_Less.j0 k (a0_0 != a1_0) a0_0 a0_1 a0_2 a1_0 a1_1 a1_2) else (value_Less.j0 k true a0_0 a0_1 a0_2 a1_0 a1_1 a1_2))) else (value_Less.j0 k true a0_0 a0_1 a0_2 a1_0 a1_1 a1_2)) = some (r1, r2) := H
  have A6 := Aside0.mk A60
  clear A60
  by_cases c7 : t153 = true
  ·subst c7
   have H1 : ((value_May.f a1_0 a1_1 a1_2).bind fun t154 => (if t154 = true then (value_Less.j0 k (a0_0 != a1_0) a0_0 a0_1 a0_2 a1_0 a1_1 a1_2) else (value_Less.j0 k true a0_0 a0_1 a0_2 a1_0 a1_1 a1_2))) = some (r1, r2) := by rw [if_pos rfl] at H; exact H
   clear H
   have H := H1
   clear H1
   replace H := Option.bind_eq_some_iff.mp H
   obtain ⟨t154, A80, H⟩ := H
   replace H : (if t154 = true then (value_Less.j0 k (a0_0 != a1_0) a0_0 a0_1 a0_2 a1_0 a1_1 a1_2) else (value_Less.j0 k true a0_0 a0_1 a0_2 a1_0 a1_1 a1_2)) = some (r1, r2) := H
   have A8 := Aside0.mk A80
   clear A80
   by_cases c9 : t154 = true
   ·subst c9
    have H1 : (value_Less.j0 k (a0_0 != a1_0) a0_0 a0_1 a0_2 a1_0 a1_1 a1_2) = some (r1, r2) := by rw [if_pos rfl] at H; exact H
    clear H
    have H := H1
    clear H1
    have H' := Aside0.mk H
    clear H
    have hnb10 := NB151_152.out
    have hnc10 := NB152_151.out
    have hcz11_0 : w5.cell? ⟨gb151, 0, none⟩ = some (.int .i64 a0_0) := (zac BK151.out 0).trans rfl
    have hcz11_1 : w5.cell? ⟨gb151, 1, none⟩ = some (.int .i64 a0_1) := (zac BK151.out 1).trans rfl
    have hcz11_2 : w5.cell? ⟨gb151, 2, none⟩ = some (.string a0_2) := (zac BK151.out 2).trans rfl
    have hfz11_0 := zaa BK151.out 0
    have hfz11_1 := zaa BK151.out 1
    have hfz11_2 := zaa BK151.out 2
    go_wp2_with (first | ((with_reducible refine zap (f := 66) rfl ?_); refine zau (some 7) rfl rfl Try.func66 (by kernel_rfl) rfl #[.agg #[.int .i64 a0_0, .int .i64 a0_1, .string a0_2]] rfl (by (try simp only [List.map_toArray, List.map_cons, List.map_nil]); first | done | rfl | (simp only [List.length_drop, List.length_take]; rfl)) ?_; (with_reducible refine (value_May.calls a0_0 a0_1 a0_2 true _ A6.out).mono ?_); rintro e w12 ⟨rfl, hb⟩; refine ⟨_, rfl, ?_⟩; have n0_ := Aside0.mk (zak (g := gb151) (o := .cells #[.int .i64 a0_0, .int .i64 a0_1, .string a0_2] 73 (0, 0)) (by (with_reducible repeat (first | refine zai ?_ _ | refine zal ?_ | refine zag ?_ _)); exact BK151.out) hb); have n1_ := Aside0.mk (zak (g := gb152) (o := .cells #[.int .i64 a1_0, .int .i64 a1_1, .string a1_2] 73 (0, 0)) (by (with_reducible repeat (first | refine zai ?_ _ | refine zal ?_ | refine zag ?_ _)); exact BK152.out) hb); have n2_ := Aside0.mk (zah (by repeat (first | (with_reducible first | exact HB.out | apply zab | apply zad | apply zae | refine zaf ?_ GE151.out | refine zaf ?_ GE152.out) | exact HB.out)) hb); clear BK151; clear BK152; clear HB; have BK151 := n0_; have BK152 := n1_; have HB := n2_; clear n0_ n1_ n2_; (try clear hb); (try clear hb2); (try clear hk); (try clear hi); have hcz13_0 : w12.cell? ⟨gb152, 0, none⟩ = some (.int .i64 a1_0) := (zac BK152.out 0).trans rfl; have hcz13_1 : w12.cell? ⟨gb152, 1, none⟩ = some (.int .i64 a1_1) := (zac BK152.out 1).trans rfl; have hcz13_2 : w12.cell? ⟨gb152, 2, none⟩ = some (.string a1_2) := (zac BK152.out 2).trans rfl; have hfz13_0 := zaa BK152.out 0; have hfz13_1 := zaa BK152.out 1; have hfz13_2 := zaa BK152.out 2) | (go_at_call 66; (with_reducible refine (value_May.calls a1_0 a1_1 a1_2 true _ A8.out).mono ?_); rintro e w14 ⟨rfl, hb⟩; have n0_ := Aside0.mk (zak (g := gb151) (o := .cells #[.int .i64 a0_0, .int .i64 a0_1, .string a0_2] 73 (0, 0)) (by (with_reducible repeat (first | refine zai ?_ _ | refine zal ?_ | refine zag ?_ _)); exact BK151.out) hb); have n1_ := Aside0.mk (zak (g := gb152) (o := .cells #[.int .i64 a1_0, .int .i64 a1_1, .string a1_2] 73 (0, 0)) (by (with_reducible repeat (first | refine zai ?_ _ | refine zal ?_ | refine zag ?_ _)); exact BK152.out) hb); have n2_ := Aside0.mk (zah (by repeat (first | (with_reducible first | exact HB.out | apply zab | apply zad | apply zae | refine zaf ?_ GE151.out | refine zaf ?_ GE152.out) | exact HB.out)) hb); clear BK151; clear BK152; clear HB; have BK151 := n0_; have BK152 := n1_; have HB := n2_; clear n0_ n1_ n2_; (try clear hb); (try clear hb2); (try clear hk); (try clear hi); have hcz15_0 : w14.cell? ⟨gb151, 0, none⟩ = some (.int .i64 a0_0) := (zac BK151.out 0).trans rfl; have hcz15_1 : w14.cell? ⟨gb151, 1, none⟩ = some (.int .i64 a0_1) := (zac BK151.out 1).trans rfl; have hcz15_2 : w14.cell? ⟨gb151, 2, none⟩ = some (.string a0_2) := (zac BK151.out 2).trans rfl; have hfz15_0 := zaa BK151.out 0; have hfz15_1 := zaa BK151.out 1; have hfz15_2 := zaa BK151.out 2; have hcz16_0 : w14.cell? ⟨gb152, 0, none⟩ = some (.int .i64 a1_0) := (zac BK152.out 0).trans rfl; have hcz16_1 : w14.cell? ⟨gb152, 1, none⟩ = some (.int .i64 a1_1) := (zac BK152.out 1).trans rfl; have hcz16_2 : w14.cell? ⟨gb152, 2, none⟩ = some (.string a1_2) := (zac BK152.out 2).trans rfl; have hfz16_0 := zaa BK152.out 0; have hfz16_1 := zaa BK152.out 1; have hfz16_2 := zaa BK152.out 2))
    go_meet
    case rel => exact ⟨_, ((a0_0 != a1_0)), (by first | rfl | (simp; done) | (simp [*]; done)), H', ⟨by first | omega | exact Nat.le_refl _⟩, ⟨by (with_reducible repeat (first | refine zai ?_ _ | refine zal ?_ | refine zag ?_ _)); exact BK151.out⟩, ⟨by (with_reducible repeat (first | refine zai ?_ _ | refine zal ?_ | refine zag ?_ _)); exact BK152.out⟩, ⟨by repeat (first | (with_reducible first | exact HB.out | apply zab | apply zad | apply zae | refine zaf ?_ GE151.out | refine zaf ?_ GE152.out) | exact HB.out)⟩⟩
   ·replace c9 := Bool.eq_false_iff.mpr c9
    subst c9
    have H1 : (value_Less.j0 k true a0_0 a0_1 a0_2 a1_0 a1_1 a1_2) = some (r1, r2) := by rw [if_neg (show ¬ (false = true) by decide)] at H; exact H
    clear H
    have H := H1
    clear H1
    have H' := Aside0.mk H
    clear H
    have hnb17 := NB151_152.out
    have hnc17 := NB152_151.out
    have hcz18_0 : w5.cell? ⟨gb151, 0, none⟩ = some (.int .i64 a0_0) := (zac BK151.out 0).trans rfl
    have hcz18_1 : w5.cell? ⟨gb151, 1, none⟩ = some (.int .i64 a0_1) := (zac BK151.out 1).trans rfl
    have hcz18_2 : w5.cell? ⟨gb151, 2, none⟩ = some (.string a0_2) := (zac BK151.out 2).trans rfl
    have hfz18_0 := zaa BK151.out 0
    have hfz18_1 := zaa BK151.out 1
    have hfz18_2 := zaa BK151.out 2
    go_wp2_with (first | ((with_reducible refine zap (f := 66) rfl ?_); refine zau (some 7) rfl rfl Try.func66 (by kernel_rfl) rfl #[.agg #[.int .i64 a0_0, .int .i64 a0_1, .string a0_2]] rfl (by (try simp only [List.map_toArray, List.map_cons, List.map_nil]); first | done | rfl | (simp only [List.length_drop, List.length_take]; rfl)) ?_; (with_reducible refine (value_May.calls a0_0 a0_1 a0_2 true _ A6.out).mono ?_); rintro e w19 ⟨rfl, hb⟩; refine ⟨_, rfl, ?_⟩; have n0_ := Aside0.mk (zak (g := gb151) (o := .cells #[.int .i64 a0_0, .int .i64 a0_1, .string a0_2] 73 (0, 0)) (by (with_reducible repeat (first | refine zai ?_ _ | refine zal ?_ | refine zag ?_ _)); exact BK151.out) hb); have n1_ := Aside0.mk (zak (g := gb152) (o := .cells #[.int .i64 a1_0, .int .i64 a1_1, .string a1_2] 73 (0, 0)) (by (with_reducible repeat (first | refine zai ?_ _ | refine zal ?_ | refine zag ?_ _)); exact BK152.out) hb); have n2_ := Aside0.mk (zah (by repeat (first | (with_reducible first | exact HB.out | apply zab | apply zad | apply zae | refine zaf ?_ GE151.out | refine zaf ?_ GE152.out) | exact HB.out)) hb); clear BK151; clear BK152; clear HB; have BK151 := n0_; have BK152 := n1_; have HB := n2_; clear n0_ n1_ n2_; (try clear hb); (try clear hb2); (try clear hk); (try clear hi); have hcz20_0 : w19.cell? ⟨gb152, 0, none⟩ = some (.int .i64 a1_0) := (zac BK152.out 0).trans rfl; have hcz20_1 : w19.cell? ⟨gb152, 1, none⟩ = some (.int .i64 a1_1) := (zac BK152.out 1).trans rfl; have hcz20_2 : w19.cell? ⟨gb152, 2, none⟩ = some (.string a1_2) := (zac BK152.out 2).trans rfl; have hfz20_0 := zaa BK152.out 0; have hfz20_1 := zaa BK152.out 1; have hfz20_2 := zaa BK152.out 2) | (go_at_call 66; (with_reducible refine (value_May.calls a1_0 a1_1 a1_2 false _ A8.out).mono ?_); rintro e w21 ⟨rfl, hb⟩; have n0_ := Aside0.mk (zak (g := gb151) (o := .cells #[.int .i64 a0_0, .int .i64 a0_1, .string a0_2] 73 (0, 0)) (by (with_reducible repeat (first | refine zai ?_ _ | refine zal ?_ | refine zag ?_ _)); exact BK151.out) hb); have n1_ := Aside0.mk (zak (g := gb152) (o := .cells #[.int .i64 a1_0, .int .i64 a1_1, .string a1_2] 73 (0, 0)) (by (with_reducible repeat (first | refine zai ?_ _ | refine zal ?_ | refine zag ?_ _)); exact BK152.out) hb); have n2_ := Aside0.mk (zah (by repeat (first | (with_reducible first | exact HB.out | apply zab | apply zad | apply zae | refine zaf ?_ GE151.out | refine zaf ?_ GE152.out) | exact HB.out)) hb); clear BK151; clear BK152; clear HB; have BK151 := n0_; have BK152 := n1_; have HB := n2_; clear n0_ n1_ n2_; (try clear hb); (try clear hb2); (try clear hk); (try clear hi)))
    go_meet
    case rel => exact ⟨_, (true), (by first | rfl | (simp; done) | (simp [*]; done)), H', ⟨by first | omega | exact Nat.le_refl _⟩, ⟨by (with_reducible repeat (first | refine zai ?_ _ | refine zal ?_ | refine zag ?_ _)); exact BK151.out⟩, ⟨by (with_reducible repeat (first | refine zai ?_ _ | refine zal ?_ | refine zag ?_ _)); exact BK152.out⟩, ⟨by repeat (first | (with_reducible first | exact HB.out | apply zab | apply zad | apply zae | refine zaf ?_ GE151.out | refine zaf ?_ GE152.out) | exact HB.out)⟩⟩
  ·replace c7 := Bool.eq_false_iff.mpr c7
   subst c7
   have H1 : (value_Less.j0 k true a0_0 a0_1 a0_2 a1_0 a1_1 a1_2) = some (r1, r2) := by rw [if_neg (show ¬ (false = true) by decide)] at H; exact H
   clear H
   have H := H1
   clear H1
   have H' := Aside0.mk H
   clear H
   have hnb22 := NB151_152.out
   have hnc22 := NB152_151.out
   have hcz23_0 : w5.cell? ⟨gb151, 0, none⟩ = some (.int .i64 a0_0) := (zac BK151.out 0).trans rfl
   have hcz23_1 : w5.cell? ⟨gb151, 1, none⟩ = some (.int .i64 a0_1) := (zac BK151.out 1).trans rfl
   have hcz23_2 : w5.cell? ⟨gb151, 2, none⟩ = some (.string a0_2) := (zac BK151.out 2).trans rfl
   have hfz23_0 := zaa BK151.out 0
   have hfz23_1 := zaa BK151.out 1
   have hfz23_2 := zaa BK151.out 2
   go_wp2_with (first | ((with_reducible refine zap (f := 66) rfl ?_); refine zau (some 7) rfl rfl Try.func66 (by kernel_rfl) rfl #[.agg #[.int .i64 a0_0, .int .i64 a0_1, .string a0_2]] rfl (by (try simp only [List.map_toArray, List.map_cons, List.map_nil]); first | done | rfl | (simp only [List.length_drop, List.length_take]; rfl)) ?_; (with_reducible refine (value_May.calls a0_0 a0_1 a0_2 false _ A6.out).mono ?_); rintro e w24 ⟨rfl, hb⟩; refine ⟨_, rfl, ?_⟩; have n0_ := Aside0.mk (zak (g := gb151) (o := .cells #[.int .i64 a0_0, .int .i64 a0_1, .string a0_2] 73 (0, 0)) (by (with_reducible repeat (first | refine zai ?_ _ | refine zal ?_ | refine zag ?_ _)); exact BK151.out) hb); have n1_ := Aside0.mk (zak (g := gb152) (o := .cells #[.int .i64 a1_0, .int .i64 a1_1, .string a1_2] 73 (0, 0)) (by (with_reducible repeat (first | refine zai ?_ _ | refine zal ?_ | refine zag ?_ _)); exact BK152.out) hb); have n2_ := Aside0.mk (zah (by repeat (first | (with_reducible first | exact HB.out | apply zab | apply zad | apply zae | refine zaf ?_ GE151.out | refine zaf ?_ GE152.out) | exact HB.out)) hb); clear BK151; clear BK152; clear HB; have BK151 := n0_; have BK152 := n1_; have HB := n2_; clear n0_ n1_ n2_; (try clear hb); (try clear hb2); (try clear hk); (try clear hi)))
   go_meet
   case rel => exact ⟨_, (true), (by first | rfl | (simp; done) | (simp [*]; done)), H', ⟨by first | omega | exact Nat.le_refl _⟩, ⟨by (with_reducible repeat (first | refine zai ?_ _ | refine zal ?_ | refine zag ?_ _)); exact BK151.out⟩, ⟨by (with_reducible repeat (first | refine zai ?_ _ | refine zal ?_ | refine zag ?_ _)); exact BK152.out⟩, ⟨by repeat (first | (with_reducible first | exact HB.out | apply zab | apply zad | apply zae | refine zaf ?_ GE151.out | refine zaf ?_ GE152.out) | exact HB.out)⟩⟩
 case rest =>
  clear HC3
  try clear c1
  try clear c2
  try clear p2
  try clear c6
  try clear c7
  try clear c8
  try clear c9
  try clear c10
  try clear c17
  try clear c22
  try clear hcz11_0
  try clear hcz11_1
  try clear hcz11_2
  try clear hcz13_0
  try clear hcz13_1
  try clear hcz13_2
  try clear hcz15_0
  try clear hcz15_1
  try clear hcz15_2
  try clear hcz16_0
  try clear hcz16_1
  try clear hcz16_2
  try clear hcz18_0
  try clear hcz18_1
  try clear hcz18_2
  try clear hcz20_0
  try clear hcz20_1
  try clear hcz20_2
  try clear hcz23_0
  try clear hcz23_1
  try clear hcz23_2
  try clear hfz11_0
  try clear hfz11_1
  try clear hfz11_2
  try clear hfz13_0
  try clear hfz13_1
  try clear hfz13_2
  try clear hfz15_0
  try clear hfz15_1
  try clear hfz15_2
  try clear hfz16_0
  try clear hfz16_1
  try clear hfz16_2
  try clear hfz18_0
  try clear hfz18_1
  try clear hfz18_2
  try clear hfz20_0
  try clear hfz20_1
  try clear hfz20_2
  try clear hfz23_0
  try clear hfz23_1
  try clear hfz23_2
  obtain ⟨kq, x20_2, rfl, HA, HJ2, BK151, BK152, HB⟩ := hcut
  cases kq with
  | zero => exact absurd HA.out (by simp [value_Less.j0])
  | succ kj2 =>
   have H := HA.out
   clear HA
   simp only [value_Less.j0] at H
   by_cases c25 : x20_2 = true
   ·subst c25
    have H1 : (some (false, false)) = some (r1, r2) := by rw [if_pos rfl] at H; exact H
    clear H
    have H := H1
    clear H1
    simp only [Option.some.injEq, Prod.mk.injEq] at H
    obtain ⟨rfl, rfl⟩ := H
    go_wp2
    go_ret2
    exact ⟨by first | rfl | (simp [zan, zam] <;> rfl) | (simp [*, zan, zam] <;> rfl), by repeat (first | (with_reducible first | exact HB.out | apply zab | apply zad | apply zae | refine zaf ?_ GE151.out | refine zaf ?_ GE152.out) | exact HB.out)⟩
   ·replace c25 := Bool.eq_false_iff.mpr c25
    subst c25
    have H1 : ((cmp_Compare_int.f a0_1 a1_1).bind fun t155 => ((cmp_Compare_string.f a0_2 a1_2).bind fun t156 => ((cmp_Or_int.f kj2 (([t155, t156] : List Int))).bind fun t160 => (some (decide (t160 < 0), true))))) = some (r1, r2) := by rw [if_neg (show ¬ (false = true) by decide)] at H; exact H
    clear H
    have H := H1
    clear H1
    replace H := Option.bind_eq_some_iff.mp H
    obtain ⟨t155, A260, H⟩ := H
    replace H : ((cmp_Compare_string.f a0_2 a1_2).bind fun t156 => ((cmp_Or_int.f kj2 (([t155, t156] : List Int))).bind fun t160 => (some (decide (t160 < 0), true)))) = some (r1, r2) := H
    have A26 := Aside0.mk A260
    clear A260
    replace H := Option.bind_eq_some_iff.mp H
    obtain ⟨t156, A270, H⟩ := H
    replace H : ((cmp_Or_int.f kj2 (([t155, t156] : List Int))).bind fun t160 => (some (decide (t160 < 0), true))) = some (r1, r2) := H
    have A27 := Aside0.mk A270
    clear A270
    obtain ⟨y157, hy157⟩ : ∃ y_ : List Int, y_ = (([t155, t156] : List Int)) := ⟨_, rfl⟩
    replace H : ((cmp_Or_int.f kj2 y157).bind fun t160 => (some (decide (t160 < 0), true))) = some (r1, r2) := by first | (rw [hy157]; with_reducible exact H) | (have H2_ := (Option.bind_some _ _).symm.trans H; rw [hy157]; with_reducible exact H2_) | (have H2_ := (Option.bind_some _ _).symm.trans H; with_reducible exact H2_) | with_reducible exact H | (rw [hy157]; exact H) | exact H
    have Ny157 := Aside0.mk hy157
    clear hy157
    replace H := Option.bind_eq_some_iff.mp H
    obtain ⟨t160, A280, H⟩ := H
    replace H : (some (decide (t160 < 0), true)) = some (r1, r2) := H
    have A28 := Aside0.mk A280
    clear A280
    simp only [Option.some.injEq, Prod.mk.injEq] at H
    obtain ⟨rfl, rfl⟩ := H
    try go_wp2
    have n0_ := Aside0.mk (zal BK151.out)
    have n1_ := Aside0.mk (zal BK152.out)
    have n2_ := Aside0.mk (zae HB.out)
    clear BK151
    clear BK152
    clear HB
    have BK151 := n0_
    have BK152 := n1_
    have HB := n2_
    clear n0_ n1_ n2_
    refine start_ (n := 15) (S := fun w' => w'.cell? ⟨gb151, 0, none⟩ = some (.int .i64 a0_0) ∧ w'.cell? ⟨gb151, 1, none⟩ = some (.int .i64 a0_1) ∧ w'.cell? ⟨gb151, 2, none⟩ = some (.string a0_2) ∧ w'.cell? ⟨gb152, 0, none⟩ = some (.int .i64 a1_0) ∧ w'.cell? ⟨gb152, 1, none⟩ = some (.int .i64 a1_1) ∧ w'.cell? ⟨gb152, 2, none⟩ = some (.string a1_2)) (ds := []) #[false, false, false, false, false, false, false, false, false, false, false, false, false, false, false] (by kernel_rfl) rfl rfl ⟨(zac BK151.out 0).trans rfl, (zac BK151.out 1).trans rfl, (zac BK151.out 2).trans rfl, (zac BK152.out 0).trans rfl, (zac BK152.out 1).trans rfl, (zac BK152.out 2).trans rfl⟩ (fun hHeld => ?_); refine with_tabW value_Less.tab3 value_Less.bits3 (fun HT_ HW_ => ?_)
    generalize wc.drew = w29 at BK151 BK152 HB hHeld ⊢
    refine pure_ (i := 0) (N := some 21) (v := ?_) (a' := ?_) #[true, false, false, false, false, false, false, false, false, false, false, false, false, false, false] rfl rfl (any_of HT_.out (by kernel_rfl)) (fun _ _ _ h => h) (Or.inl ⟨by rfl, ?_⟩) ?_ ?_
    rotate_left
    ·intro w'
     go_simp
     with_reducible rfl
    rotate_left
    ·simp only [Act.put, List.setIfInBounds_toArray, List.set_cons_zero, List.set_cons_succ, i64_w, i32_w]
     rfl
    refine pure_ (i := 2) (N := some 23) (v := ?_) (a' := ?_) #[true, false, true, false, false, false, false, false, false, false, false, false, false, false, false] rfl rfl (any_of HT_.out (by kernel_rfl)) (fun _ _ _ h => h) (Or.inl ⟨by rfl, ?_⟩) ?_ ?_
    rotate_left
    ·intro w'
     go_simp
     with_reducible rfl
    rotate_left
    ·simp only [Act.put, List.setIfInBounds_toArray, List.set_cons_zero, List.set_cons_succ, i64_w, i32_w]
     rfl
    refine pure_ (i := 5) (N := some 26) (v := ?_) (a' := ?_) #[true, false, true, false, false, true, false, false, false, false, false, false, false, false, false] rfl rfl (any_of HT_.out (by kernel_rfl)) (fun _ _ _ h => h) (Or.inl ⟨by rfl, ?_⟩) ?_ ?_
    rotate_left
    ·intro w'
     go_simp
     with_reducible rfl
    rotate_left
    ·simp only [Act.put, List.setIfInBounds_toArray, List.set_cons_zero, List.set_cons_succ, i64_w, i32_w]
     rfl
    refine pure_ (i := 7) (N := some 28) (v := ?_) (a' := ?_) #[true, false, true, false, false, true, false, true, false, false, false, false, false, false, false] rfl rfl (any_of HT_.out (by kernel_rfl)) (fun _ _ _ h => h) (Or.inl ⟨by rfl, ?_⟩) ?_ ?_
    rotate_left
    ·intro w'
     go_simp
     with_reducible rfl
    rotate_left
    ·simp only [Act.put, List.setIfInBounds_toArray, List.set_cons_zero, List.set_cons_succ, i64_w, i32_w]
     rfl
    refine take_ (i := 1) (N := some 22) (v := ?_) (a' := ?_) #[true, true, true, false, false, true, false, true, false, false, false, false, false, false, false] rfl rfl (take_ofW HT_.out HW_.out (by kernel_rfl)) (fun _ _ _ h => h) (Or.inl ⟨by rfl, ?_⟩) hHeld ?_ ?_
    rotate_left
    ·rintro w' ⟨s0, s1, s2, s3, s4, s5⟩
     go_simp
     with_reducible rfl
    rotate_left
    ·simp only [Act.put, List.setIfInBounds_toArray, List.set_cons_zero, List.set_cons_succ, i64_w, i32_w]
     rfl
    refine take_ (i := 3) (N := some 24) (v := ?_) (a' := ?_) #[true, true, true, true, false, true, false, true, false, false, false, false, false, false, false] rfl rfl (take_ofW HT_.out HW_.out (by kernel_rfl)) (fun _ _ _ h => h) (Or.inl ⟨by rfl, ?_⟩) hHeld ?_ ?_
    rotate_left
    ·rintro w' ⟨s0, s1, s2, s3, s4, s5⟩
     go_simp
     with_reducible rfl
    rotate_left
    ·simp only [Act.put, List.setIfInBounds_toArray, List.set_cons_zero, List.set_cons_succ, i64_w, i32_w]
     rfl
    refine take_ (i := 6) (N := some 27) (v := ?_) (a' := ?_) #[true, true, true, true, false, true, true, true, false, false, false, false, false, false, false] rfl rfl (take_ofW HT_.out HW_.out (by kernel_rfl)) (fun _ _ _ h => h) (Or.inl ⟨by rfl, ?_⟩) hHeld ?_ ?_
    rotate_left
    ·rintro w' ⟨s0, s1, s2, s3, s4, s5⟩
     go_simp
     with_reducible rfl
    rotate_left
    ·simp only [Act.put, List.setIfInBounds_toArray, List.set_cons_zero, List.set_cons_succ, i64_w, i32_w]
     rfl
    refine take_ (i := 8) (N := some 29) (v := ?_) (a' := ?_) #[true, true, true, true, false, true, true, true, true, false, false, false, false, false, false] rfl rfl (take_ofW HT_.out HW_.out (by kernel_rfl)) (fun _ _ _ h => h) (Or.inl ⟨by rfl, ?_⟩) hHeld ?_ ?_
    rotate_left
    ·rintro w' ⟨s0, s1, s2, s3, s4, s5⟩
     go_simp
     with_reducible rfl
    rotate_left
    ·simp only [Act.put, List.setIfInBounds_toArray, List.set_cons_zero, List.set_cons_succ, i64_w, i32_w]
     rfl
    refine one_ (i := 4) (N := some 25) #[true, true, true, true, true, true, true, true, true, false, false, false, false, false, false] rfl rfl (one_of HT_.out (by kernel_rfl)) (by decide) (fun K hK => ?_)
    refine goes_ Try.func84 (by kernel_rfl) rfl #[.int .i64 a0_1, .int .i64 a1_1] (by rfl) rfl rfl (by (try simp only [List.map_toArray, List.map_cons, List.map_nil]); first | done | rfl | (simp only [List.length_drop, List.length_take]; rfl)) ?_
    with_reducible refine (cmp_Compare_int.calls a0_1 a1_1 t155 _ A26.out).mono ?_
    rintro e w' ⟨rfl, ⟨nd, rfl⟩⟩
    refine ⟨_, rfl, ?_⟩
    refine hK.out _ _ ⟨(zac BK151.out 0).trans rfl, (zac BK151.out 1).trans rfl, (zac BK151.out 2).trans rfl, (zac BK152.out 0).trans rfl, (zac BK152.out 1).trans rfl, (zac BK152.out 2).trans rfl⟩ (fun hHeld => ?_)
    clear hK K
    refine norm_ (a' := ?_) ?_ ?_
    rotate_left
    ·show Act.put _ (some 25) _ = _
     simp only [Act.put, List.setIfInBounds_toArray, List.set_cons_zero, List.set_cons_succ, i64_w, i32_w]
     rfl
    refine one_ (i := 9) (N := some 30) #[true, true, true, true, true, true, true, true, true, true, false, false, false, false, false] rfl rfl (one_of HT_.out (by kernel_rfl)) (by decide) (fun K hK => ?_)
    refine goes_ Try.func85 (by kernel_rfl) rfl #[.string a0_2, .string a1_2] (by rfl) rfl rfl (by (try simp only [List.map_toArray, List.map_cons, List.map_nil]); first | done | rfl | (simp only [List.length_drop, List.length_take]; rfl)) ?_
    with_reducible refine (cmp_Compare_string.calls a0_2 a1_2 t156 _ A27.out).mono ?_
    rintro e w' ⟨rfl, ⟨nd, rfl⟩⟩
    refine ⟨_, rfl, ?_⟩
    refine hK.out _ _ ⟨(zac BK151.out 0).trans rfl, (zac BK151.out 1).trans rfl, (zac BK151.out 2).trans rfl, (zac BK152.out 0).trans rfl, (zac BK152.out 1).trans rfl, (zac BK152.out 2).trans rfl⟩ (fun hHeld => ?_)
    clear hK K
    refine norm_ (a' := ?_) ?_ ?_
    rotate_left
    ·show Act.put _ (some 30) _ = _
     simp only [Act.put, List.setIfInBounds_toArray, List.set_cons_zero, List.set_cons_succ, i64_w, i32_w]
     rfl
    refine one_ (i := 10) (N := some 31) #[true, true, true, true, true, true, true, true, true, true, true, false, false, false, false] rfl rfl (one_of HT_.out (by kernel_rfl)) (by decide) (fun K hK => ?_)
    refine Kd.R_lit_step (Kd.int .i64) _ 3 ?hg (N := 31) ?hd (xs := ([t155, t156] : List Int)) (inner := [.int .i64 t155, .int .i64 t156]) (ok := fun _ => True) (okp := fun _ => True) ?hr ?hp (fun _ hk => hk) trivial (Below.refl _ _) (Nat.le_refl _) (by simp) ?_; (case hd => rfl); (case hg => rfl); (case hr => first | (go_simp; done) | (go_simp; rfl)); (case hp => exact (Reps.one (show Kd.M (Kd.int .i64) _ _ _ t155 [.int .i64 t155] from rfl) (Reps.one (show Kd.M (Kd.int .i64) _ _ _ t156 [.int .i64 t156] from rfl) (Reps.none _ _))))
    intro v158 w30 ho31 hb hg_ hnew_
    clear hg_ hnew_
    (first | rw [← Ny157.out] at ho31 | (simp only [Int.reduceToNat] at ho31; rw [← Ny157.out] at ho31))
    have n0_ := Aside0.mk (Kd.R_lower ho31 (zao (by repeat (first | (with_reducible first | exact HB.out | apply zab | apply zad | apply zae | refine zaf ?_ GE151.out | refine zaf ?_ GE152.out) | exact HB.out))))
    have n1_ := Aside0.mk (zak (g := gb151) (o := .cells #[.int .i64 a0_0, .int .i64 a0_1, .string a0_2] 73 (0, 0)) (by (with_reducible repeat (first | refine zai ?_ _ | refine zal ?_ | refine zag ?_ _)); exact BK151.out) hb)
    have n2_ := Aside0.mk (zak (g := gb152) (o := .cells #[.int .i64 a1_0, .int .i64 a1_1, .string a1_2] 73 (0, 0)) (by (with_reducible repeat (first | refine zai ?_ _ | refine zal ?_ | refine zag ?_ _)); exact BK152.out) hb)
    have n3_ := Aside0.mk (zah (by repeat (first | (with_reducible first | exact HB.out | apply zab | apply zad | apply zae | refine zaf ?_ GE151.out | refine zaf ?_ GE152.out) | exact HB.out)) hb)
    clear BK151
    clear BK152
    clear HB
    have HO159 := n0_
    have BK151 := n1_
    have BK152 := n2_
    have HB := n3_
    clear n0_ n1_ n2_ n3_
    clear hb ho31
    obtain ⟨Ao32, co32, eo32⟩ := Kd.R_slice HO159.out
    (first | subst eo32 | (injection eo32 with f1_ f2_ f3_; have f4_ := f1_.symm; have f5_ := f3_.symm; clear f1_ f2_ f3_; subst f4_; subst f5_))
    refine hK.out _ _ ⟨(zac BK151.out 0).trans rfl, (zac BK151.out 1).trans rfl, (zac BK151.out 2).trans rfl, (zac BK152.out 0).trans rfl, (zac BK152.out 1).trans rfl, (zac BK152.out 2).trans rfl⟩ (fun hHeld => ?_)
    clear hK K
    refine norm_ (a' := ?_) ?_ ?_
    rotate_left
    ·show Act.put _ (some 31) _ = _
     simp only [Act.put, List.setIfInBounds_toArray, List.set_cons_zero, List.set_cons_succ, i64_w, i32_w]
     rfl
    refine one_ (i := 11) (N := some 32) #[true, true, true, true, true, true, true, true, true, true, true, true, false, false, false] rfl rfl (one_of HT_.out (by kernel_rfl)) (by decide) (fun K hK => ?_)
    refine goes_ Try.func83 (by kernel_rfl) rfl #[.slice Ao32 y157.length co32] (by rfl) rfl rfl (by (try simp only [List.map_toArray, List.map_cons, List.map_nil]); first | done | rfl | (simp only [List.length_drop, List.length_take]; rfl)) ?_
    with_reducible refine (cmp_Or_int.calls kj2 _ _ y157 t160 _ ?side1 ?side2 A28.out).mono ?_
    (case side1 => repeat (first | exact (Kd.R_reads' HO159.out).2.2 | (with_reducible refine Kd.C_alloc ?_ _) | (with_reducible refine Kd.C_drewN ?_ _) | (with_reducible refine Kd.C_drew ?_)))
    (case side2 => exact (Kd.R_reads' HO159.out).2.1)
    rintro e w' ⟨rfl, ⟨nd, rfl⟩⟩
    refine ⟨_, rfl, ?_⟩
    refine hK.out _ _ ⟨(zac BK151.out 0).trans rfl, (zac BK151.out 1).trans rfl, (zac BK151.out 2).trans rfl, (zac BK152.out 0).trans rfl, (zac BK152.out 1).trans rfl, (zac BK152.out 2).trans rfl⟩ (fun hHeld => ?_)
    clear hK K
    refine norm_ (a' := ?_) ?_ ?_
    rotate_left
    ·show Act.put _ (some 32) _ = _
     simp only [Act.put, List.setIfInBounds_toArray, List.set_cons_zero, List.set_cons_succ, i64_w, i32_w]
     rfl
    refine pure_ (i := 12) (N := some 33) (v := ?_) (a' := ?_) #[true, true, true, true, true, true, true, true, true, true, true, true, true, false, false] rfl rfl (any_of HT_.out (by kernel_rfl)) (fun _ _ _ h => h) (Or.inl ⟨by rfl, ?_⟩) ?_ ?_
    rotate_left
    ·intro w'
     go_simp
     with_reducible rfl
    rotate_left
    ·simp only [Act.put, List.setIfInBounds_toArray, List.set_cons_zero, List.set_cons_succ, i64_w, i32_w]
     rfl
    refine pure_ (i := 13) (N := some 4) (v := ?_) (a' := ?_) #[true, true, true, true, true, true, true, true, true, true, true, true, true, true, false] rfl rfl (any_of HT_.out (by kernel_rfl)) (fun _ _ _ h => h) (Or.inl ⟨by rfl, ?_⟩) ?_ ?_
    rotate_left
    ·intro w'
     go_simp
     with_reducible rfl
    rotate_left
    ·simp only [Act.put, List.setIfInBounds_toArray, List.set_cons_zero, List.set_cons_succ, i64_w, i32_w]
     rfl
    refine pure_ (i := 14) (N := some 5) (v := ?_) (a' := ?_) #[true, true, true, true, true, true, true, true, true, true, true, true, true, true, true] rfl rfl (any_of HT_.out (by kernel_rfl)) (fun _ _ _ h => h) (Or.inl ⟨by rfl, ?_⟩) ?_ ?_
    rotate_left
    ·intro w'
     go_simp
     with_reducible rfl
    rotate_left
    ·simp only [Act.put, List.setIfInBounds_toArray, List.set_cons_zero, List.set_cons_succ, i64_w, i32_w]
     rfl
    refine done_ (done_of HT_.out (by kernel_rfl)) ?_
    try go_wp2
    go_ret2
    exact ⟨by first | rfl | (simp [zan, zam] <;> rfl) | (simp [*, zan, zam] <;> rfl), by repeat (first | (with_reducible first | exact HB.out | apply zab | apply zad | apply zae | refine zaf ?_ GE151.out | refine zaf ?_ GE152.out) | exact HB.out)⟩
theorem or_two (a b : Int) : cmp_Or_int.f 5 [a, b] = some (if a = 0 then b else a) := by
 unfold cmp_Or_int.f
 simp only [cmp_Or_int.l0, List.length_cons, List.length_nil]
 have e0 : rd [a, b] 0 = a := rfl
 have e1 : rd [a, b] 1 = b := rfl
 have e2 : wrap64 (0 + 1) = 1 := by decide +kernel
 have e3 : wrap64 (1 + 1) = 2 := by decide +kernel
 rw [if_pos (by decide), if_pos (by decide), if_pos (by decide), e0]
 by_cases h : a = 0
 ·rw [if_pos h, if_pos h, e2, if_pos (by decide), if_pos (by decide), if_pos (by decide), e1, e3]
  by_cases hb : b = 0
  ·rw [if_pos hb, if_neg (by decide), hb]
  ·rw [if_neg hb]
 ·rw [if_neg h, if_neg h]
theorem cmp_int_is (a b : Int) : cmp_Compare_int.f a b = some (if a < b then -1 else if a > b then 1 else 0) := by
 unfold cmp_Compare_int.f cmp_isNaN_int.f
 rw [bne_self_eq_false, bne_self_eq_false, Option.bind_some, Option.bind_some, if_neg (by decide), if_neg (by decide)]
 split
 ·rfl
 split <;> rfl
theorem less_is {x y : SValue} (hx : okV x) (hy : okV y) (he : x.f0 = y.f0) : value_Less.f 6 x.f0 x.f1 x.f2 y.f0 y.f1 y.f2 = some (lessV x y, true) := by
 unfold value_Less.f
 have mx : value_May.f x.f0 x.f1 x.f2 = some true := by unfold value_May.f; rw [if_pos (show -9223372036854775808 ≤ x.f1 ∧ x.f1 ≤ 9223372036854775807 from hx.2), show mayV ⟨x.f0, x.f1, x.f2⟩ = true from hx.1]
 have my : value_May.f y.f0 y.f1 y.f2 = some true := by unfold value_May.f; rw [if_pos (show -9223372036854775808 ≤ y.f1 ∧ y.f1 ≤ 9223372036854775807 from hy.2), show mayV ⟨y.f0, y.f1, y.f2⟩ = true from hy.1]
 have hne : (x.f0 != y.f0) = false := by rw [he]; exact bne_self_eq_false _
 rw [mx, my, Option.bind_some, Option.bind_some, if_pos rfl, if_pos rfl, hne]
 simp only [value_Less.j0]
 rw [if_neg (by decide), cmp_int_is, Option.bind_some, show cmp_Compare_string.f x.f2 y.f2 = some (cmpS x.f2 y.f2) from rfl, Option.bind_some, or_two, Option.bind_some]
 unfold lessV
 by_cases h2 : x.f0 = 2
 ·have h3 : y.f0 = 2 := he ▸ h2
  rw [if_pos h2, (mayV_bytes hx.1 h2).1, (mayV_bytes hy.1 h3).1]
  rw [if_pos (by decide)]
  unfold cmpS
  cases Op.bytesLess x.f2.toList y.f2.toList
  ·rw [if_neg (by decide)]
   split <;> rfl
  ·rw [if_pos rfl]; rfl
 ·have h3 : y.f0 ≠ 2 := fun h => h2 (he.trans h)
  have hc : cmpS x.f2 y.f2 = 0 := by unfold cmpS; rw [mayV_text hx.1 h2, mayV_text hy.1 h3]; rfl
  rw [if_neg h2, hc]
  congr 2
  rw [decide_eq_decide]
  split <;> (split at * <;> omega)
theorem less_told (x y : SValue) (w : World) (hx : okV x) (hy : okV y) (he : x.f0 = y.f0) {b : Bool} (hb : lessV x y = b) : Calls Try.prog 81 #[.agg #[.int .i64 x.f0, .int .i64 x.f1, .string x.f2], .agg #[.int .i64 y.f0, .int .i64 y.f1, .string y.f2]] w fun e w' => e = .returned (.tuple #[.bool b, .bool true]) ∧ Below w.heap.size w w' := by
 subst hb
 exact value_Less.calls 6 _ _ _ _ _ _ _ _ w (less_is hx hy he)
def expr_sum.f (a0 : Int) (a1 : Int) (a2 : Int) : Option (Int × Bool) := if a0 = 2 then (some (wrap64 (a1 + a2), ((decide ((wrap64 (a1 + a2)) > a1)) == (decide (a2 > 0))))) else (if a0 = 3 then (some (wrap64 (a1 - a2), ((decide ((wrap64 (a1 - a2)) < a1)) == (decide (a2 > 0))))) else (if a1 = 0 then (some (0, true)) else (if a2 = 0 then (some (0, true)) else (if (wrap64 (Int.tdiv (wrap64 (a1 * a2)) a2)) = a1 then (if a2 = (-1) then (if (a1 = (wrap64 (a1 * a2))) then (some (wrap64 (a1 * a2), false)) else (if a1 = (-1) then (some (wrap64 (a1 * a2), !(a2 == (wrap64 (a1 * a2))))) else (some (wrap64 (a1 * a2), !false)))) else (if a1 = (-1) then (some (wrap64 (a1 * a2), !(a2 == (wrap64 (a1 * a2))))) else (some (wrap64 (a1 * a2), !false)))) else (some (wrap64 (a1 * a2), false))))))
set_option maxHeartbeats 8000000 in
set_option maxRecDepth 100000 in
theorem expr_sum.calls (a0 : Int) (a1 : Int) (a2 : Int) (r1 : Int) (r2 : Bool) (w : World) (h : expr_sum.f a0 a1 a2 = some (r1, r2)) :
  Calls Try.prog 82 #[.int .i64 a0, .int .i64 a1, .int .i64 a2] w fun e w' => e = .returned (.tuple #[.int .i64 r1, .bool r2]) ∧ Drawn0 w w' := by
 have H : (if a0 = 2 then (some (wrap64 (a1 + a2), ((decide ((wrap64 (a1 + a2)) > a1)) == (decide (a2 > 0))))) else (if a0 = 3 then (some (wrap64 (a1 - a2), ((decide ((wrap64 (a1 - a2)) < a1)) == (decide (a2 > 0))))) else (if a1 = 0 then (some (0, true)) else (if a2 = 0 then (some (0, true)) else (if (wrap64 (Int.tdiv (wrap64 (a1 * a2)) a2)) = a1 then (if a2 = (-1) then (if (a1 = (wrap64 (a1 * a2))) then (some (wrap64 (a1 * a2), false)) else (if a1 = (-1) then (some (wrap64 (a1 * a2), !(a2 == (wrap64 (a1 * a2))))) else (some (wrap64 (a1 * a2), !false)))) else (if a1 = (-1) then (some (wrap64 (a1 * a2), !(a2 == (wrap64 (a1 * a2))))) else (some (wrap64 (a1 * a2), !false)))) else (some (wrap64 (a1 * a2), false))))))) = some (r1, r2) := h
 clear h
 by_cases c4 : a0 = 2
 ·rw [if_pos c4] at H
  have c4b0 : (a0 == 2) = true := beq_iff_eq.mpr c4
  have c4b1 : (a0 != 2) = false := bne_eq_false_iff_eq.mpr c4
  clear c4
  simp only [Option.some.injEq, Prod.mk.injEq] at H
  obtain ⟨rfl, rfl⟩ := H
  go_enter Try.func82, Try.ntmps82
  go_wp2
  go_ret2
  exact ⟨by first | rfl | (simp; done) | (simp [*]; done), by repeat (first | exact Drawn0.refl _ | apply Drawn0.step)⟩
 ·rw [if_neg c4] at H
  have c4b0 : (a0 == 2) = false := beq_eq_false_iff_ne.mpr c4
  have c4b1 : (a0 != 2) = true := bne_iff_ne.mpr c4
  by_cases c5 : a0 = 3
  ·rw [if_pos c5] at H
   have c5b0 : (a0 == 3) = true := beq_iff_eq.mpr c5
   have c5b1 : (a0 != 3) = false := bne_eq_false_iff_eq.mpr c5
   clear c5
   simp only [Option.some.injEq, Prod.mk.injEq] at H
   obtain ⟨rfl, rfl⟩ := H
   go_enter Try.func82, Try.ntmps82
   go_wp2
   go_ret2
   exact ⟨by first | rfl | (simp; done) | (simp [*]; done), by repeat (first | exact Drawn0.refl _ | apply Drawn0.step)⟩
  ·rw [if_neg c5] at H
   have c5b0 : (a0 == 3) = false := beq_eq_false_iff_ne.mpr c5
   have c5b1 : (a0 != 3) = true := bne_iff_ne.mpr c5
   by_cases c6 : a1 = 0
   ·rw [if_pos c6] at H
    have c6b0 : (a1 == 0) = true := beq_iff_eq.mpr c6
    have c6b1 : (a1 != 0) = false := bne_eq_false_iff_eq.mpr c6
    clear c6
    simp only [Option.some.injEq, Prod.mk.injEq] at H
    obtain ⟨rfl, rfl⟩ := H
    go_enter Try.func82, Try.ntmps82
    go_wp2
    go_ret2
    exact ⟨by first | rfl | (simp; done) | (simp [*]; done), by repeat (first | exact Drawn0.refl _ | apply Drawn0.step)⟩
   ·rw [if_neg c6] at H
    have c6b0 : (a1 == 0) = false := beq_eq_false_iff_ne.mpr c6
    have c6b1 : (a1 != 0) = true := bne_iff_ne.mpr c6
    by_cases c7 : a2 = 0
    ·rw [if_pos c7] at H
     have c7b0 : (a2 == 0) = true := beq_iff_eq.mpr c7
     have c7b1 : (a2 != 0) = false := bne_eq_false_iff_eq.mpr c7
     clear c7
     simp only [Option.some.injEq, Prod.mk.injEq] at H
     obtain ⟨rfl, rfl⟩ := H
     go_enter Try.func82, Try.ntmps82
     go_wp2
     go_ret2
     exact ⟨by first | rfl | (simp; done) | (simp [*]; done), by repeat (first | exact Drawn0.refl _ | apply Drawn0.step)⟩
    ·rw [if_neg c7] at H
     have c7b0 : (a2 == 0) = false := beq_eq_false_iff_ne.mpr c7
     have c7b1 : (a2 != 0) = true := bne_iff_ne.mpr c7
     by_cases c8 : (wrap64 (Int.tdiv (wrap64 (a1 * a2)) a2)) = a1
     ·rw [if_pos c8] at H
      have c8b0 : ((wrap64 (Int.tdiv (wrap64 (a1 * a2)) a2)) == a1) = true := beq_iff_eq.mpr c8
      have c8b1 : ((wrap64 (Int.tdiv (wrap64 (a1 * a2)) a2)) != a1) = false := bne_eq_false_iff_eq.mpr c8
      clear c8
      by_cases c9 : a2 = (-1)
      ·rw [if_pos c9] at H
       have c9b0 : (a2 == (-1)) = true := beq_iff_eq.mpr c9
       have c9b1 : (a2 != (-1)) = false := bne_eq_false_iff_eq.mpr c9
       clear c9
       by_cases c10 : (a1 = (wrap64 (a1 * a2)))
       ·rw [if_pos c10] at H
        have c10b0 : (a1 == (wrap64 (a1 * a2))) = true := beq_iff_eq.mpr c10
        have c10b1 : (a1 != (wrap64 (a1 * a2))) = false := bne_eq_false_iff_eq.mpr c10
        clear c10
        simp only [Option.some.injEq, Prod.mk.injEq] at H
        obtain ⟨rfl, rfl⟩ := H
        go_enter Try.func82, Try.ntmps82
        go_wp2
        go_ret2
        exact ⟨by first | rfl | (simp; done) | (simp [*]; done), by repeat (first | exact Drawn0.refl _ | apply Drawn0.step)⟩
       ·rw [if_neg c10] at H
        have c10b0 : (a1 == (wrap64 (a1 * a2))) = false := beq_eq_false_iff_ne.mpr c10
        have c10b1 : (a1 != (wrap64 (a1 * a2))) = true := bne_iff_ne.mpr c10
        by_cases c11 : a1 = (-1)
        ·rw [if_pos c11] at H
         have c11b0 : (a1 == (-1)) = true := beq_iff_eq.mpr c11
         have c11b1 : (a1 != (-1)) = false := bne_eq_false_iff_eq.mpr c11
         clear c11
         simp only [Option.some.injEq, Prod.mk.injEq] at H
         obtain ⟨rfl, rfl⟩ := H
         go_enter Try.func82, Try.ntmps82
         go_wp2
         go_ret2
         exact ⟨by first | rfl | (simp; done) | (simp [*]; done), by repeat (first | exact Drawn0.refl _ | apply Drawn0.step)⟩
        ·rw [if_neg c11] at H
         have c11b0 : (a1 == (-1)) = false := beq_eq_false_iff_ne.mpr c11
         have c11b1 : (a1 != (-1)) = true := bne_iff_ne.mpr c11
         simp only [Option.some.injEq, Prod.mk.injEq] at H
         obtain ⟨rfl, rfl⟩ := H
         go_enter Try.func82, Try.ntmps82
         go_wp2
         go_ret2
         exact ⟨by first | rfl | (simp; done) | (simp [*]; done), by repeat (first | exact Drawn0.refl _ | apply Drawn0.step)⟩
      ·rw [if_neg c9] at H
       have c9b0 : (a2 == (-1)) = false := beq_eq_false_iff_ne.mpr c9
       have c9b1 : (a2 != (-1)) = true := bne_iff_ne.mpr c9
       by_cases c12 : a1 = (-1)
       ·rw [if_pos c12] at H
        have c12b0 : (a1 == (-1)) = true := beq_iff_eq.mpr c12
        have c12b1 : (a1 != (-1)) = false := bne_eq_false_iff_eq.mpr c12
        clear c12
        simp only [Option.some.injEq, Prod.mk.injEq] at H
        obtain ⟨rfl, rfl⟩ := H
        go_enter Try.func82, Try.ntmps82
        go_wp2
        go_ret2
        exact ⟨by first | rfl | (simp; done) | (simp [*]; done), by repeat (first | exact Drawn0.refl _ | apply Drawn0.step)⟩
       ·rw [if_neg c12] at H
        have c12b0 : (a1 == (-1)) = false := beq_eq_false_iff_ne.mpr c12
        have c12b1 : (a1 != (-1)) = true := bne_iff_ne.mpr c12
        simp only [Option.some.injEq, Prod.mk.injEq] at H
        obtain ⟨rfl, rfl⟩ := H
        go_enter Try.func82, Try.ntmps82
        go_wp2
        go_ret2
        exact ⟨by first | rfl | (simp; done) | (simp [*]; done), by repeat (first | exact Drawn0.refl _ | apply Drawn0.step)⟩
     ·rw [if_neg c8] at H
      have c8b0 : ((wrap64 (Int.tdiv (wrap64 (a1 * a2)) a2)) == a1) = false := beq_eq_false_iff_ne.mpr c8
      have c8b1 : ((wrap64 (Int.tdiv (wrap64 (a1 * a2)) a2)) != a1) = true := bne_iff_ne.mpr c8
      simp only [Option.some.injEq, Prod.mk.injEq] at H
      obtain ⟨rfl, rfl⟩ := H
      go_enter Try.func82, Try.ntmps82
      go_wp2
      go_ret2
      exact ⟨by first | rfl | (simp; done) | (simp [*]; done), by repeat (first | exact Drawn0.refl _ | apply Drawn0.step)⟩
theorem sum_some {code a b n : Int} (ha : -9223372036854775808 ≤ a ∧ a ≤ 9223372036854775807) (hb : -9223372036854775808 ≤ b ∧ b ≤ 9223372036854775807) (h : sumV code a b = some n) (w : World) : Calls Try.prog 82 #[.int .i64 code, .int .i64 a, .int .i64 b] w fun e w' => e = .returned (.tuple #[.int .i64 n, .bool true]) ∧ Below w.heap.size w w' := by
 obtain ⟨rfl, hr⟩ := sumV_some h
 refine (expr_sum.calls code a b _ true w ?_).mono fun e w' ⟨h1, h2⟩ => ⟨h1, h2.below⟩
 unfold expr_sum.f
 by_cases h2 : code = 2
 ·subst h2
  rw [arith2] at hr ⊢
  rw [if_pos rfl, sum_wrap ha hb, decide_eq_true hr, zbo hr]
 rw [if_neg h2]
 by_cases h3 : code = 3
 ·subst h3
  rw [arith3] at hr ⊢
  rw [if_pos rfl, diff_wrap ha hb, decide_eq_true hr, zbo hr]
 rw [if_neg h3]
 rw [arithT h2 h3] at hr ⊢
 by_cases ha0 : a = 0
 ·rw [if_pos ha0, ha0, Int.zero_mul]
 rw [if_neg ha0]
 by_cases hb0 : b = 0
 ·rw [if_pos hb0, hb0, Int.mul_zero]
 rw [if_neg hb0, if_pos (prod_back ha hb0 hr), zbo hr]
 by_cases hb1 : b = -1
 ·subst hb1
  rw [if_pos rfl, if_neg (by omega)]
  by_cases ha1 : a = -1
  ·subst ha1; rw [if_pos rfl]; rfl
  ·rw [if_neg ha1]; rfl
 ·rw [if_neg hb1]
  by_cases ha1 : a = -1
  ·subst ha1
   rw [if_pos rfl]
   have : (b == -1 * b) = false := beq_eq_false_iff_ne.2 (by omega)
   rw [this]; rfl
  ·rw [if_neg ha1]; rfl
theorem sum_none {code a b : Int} (ha : -9223372036854775808 ≤ a ∧ a ≤ 9223372036854775807) (hb : -9223372036854775808 ≤ b ∧ b ≤ 9223372036854775807) (h : sumV code a b = none) : ∃ n, ∀ w, Calls Try.prog 82 #[.int .i64 code, .int .i64 a, .int .i64 b] w fun e w' => e = .returned (.tuple #[.int .i64 n, .bool false]) ∧ Below w.heap.size w w' := by
 have hr := sumV_none h
 have hx : expr_sum.f code a b = some (wrap64 (arith code a b), false) := by
  unfold expr_sum.f
  by_cases h2 : code = 2
  ·subst h2
   rw [arith2] at hr ⊢
   rw [if_pos rfl, sum_wrap ha hb, decide_eq_false hr]
  rw [if_neg h2]
  by_cases h3 : code = 3
  ·subst h3
   rw [arith3] at hr ⊢
   rw [if_pos rfl, diff_wrap ha hb, decide_eq_false hr]
  rw [if_neg h3]
  rw [arithT h2 h3] at hr ⊢
  rw [if_neg (by rintro rfl; apply hr; rw [Int.zero_mul]; decide), if_neg (by rintro rfl; apply hr; rw [Int.mul_zero]; decide)]
  have hb0 : b ≠ 0 := by rintro rfl; apply hr; rw [Int.mul_zero]; decide
  by_cases hq : wrap64 (Int.tdiv (wrap64 (a * b)) b) = a
  ·rw [if_pos hq]
   by_cases hs : b = -1 ∧ a = -9223372036854775808
   ·obtain ⟨rfl, rfl⟩ := hs
    rw [if_pos rfl, if_pos (by decide +kernel)]
   ·exact absurd (prod_test ha hb hb0 hs hq) hr
  ·rw [if_neg hq]
 exact ⟨_, fun w => (expr_sum.calls code a b _ false w hx).mono fun e w' ⟨h1, h2⟩ => ⟨h1, h2.below⟩⟩
end Go.Proofs.Ytooemobolfoefaa.P


namespace Go.Proofs.Ytooemobolfoefaa.P
open Go.RowKit Go.Proofs.YtooemobolfoefaaW.PrintWords Go.Proofs.YtooemobolfoefaaW.PrintLast Go.Proofs.YtooemobolfoefaaW.PrintMore
attribute [local go_sem] zaX zaV zbf zbe zaO zaN zaW zaU   -- for this text's walks alone
set_option linter.unusedVariables false
set_option linter.unusedSimpArgs false
attribute [local go_sem high] eqAValue
attribute [local go_sem high] eqAValue
theorem meth_num (n : Int) (w : World) : (method 262 131 (.int .i64 n) "towncrier/expr.value").run Try.prog w = .ok (103, .int .i64 n) w := by kernel_rfl
theorem meth_tru (n : Bool) (w : World) : (method 262 133 (.bool n) "towncrier/expr.value").run Try.prog w = .ok (104, .bool n) w := by kernel_rfl
theorem meth_oth (a b : Int) (s : ByteArray) (w : World) : (method 262 134 (.agg #[.int .i64 a, .int .i64 b, .string s]) "towncrier/expr.value").run Try.prog w = .ok (105, .agg #[.int .i64 a, .int .i64 b, .string s]) w := by kernel_rfl
theorem valNum_told (n : Int) (w : World) : Calls Try.prog 103 #[.int .i64 n] w (valPost (.agg #[.int .i64 0, .int .i64 n, .string ⟨#[]⟩]) w) := by
 go_enter Try.func103, Try.ntmps103
 go_wp2
 exact bodyPost_ret (v := .agg #[.int .i64 0, .int .i64 n, .string ⟨#[]⟩]) (by simp [results, Try.results103, go_sem]) rfl ⟨rfl, zab (Below.refl _ _) _⟩
theorem valTru_told (b : Bool) (w : World) : Calls Try.prog 104 #[.bool b] w (valPost (.agg #[.int .i64 1, .int .i64 (if b then 1 else 0), .string ⟨#[]⟩]) w) := by
 cases b
 ·go_enter Try.func104, Try.ntmps104
  go_wp2
  exact bodyPost_ret (v := .agg #[.int .i64 1, .int .i64 0, .string ⟨#[]⟩]) (by simp [results, Try.results104, go_sem]) rfl ⟨rfl, zab (Below.refl _ _) _⟩
 ·go_enter Try.func104, Try.ntmps104
  go_wp2
  exact bodyPost_ret (v := .agg #[.int .i64 1, .int .i64 1, .string ⟨#[]⟩]) (by simp [results, Try.results104, go_sem]) rfl ⟨rfl, zab (Below.refl _ _) _⟩
theorem valOth_told (x : SValue) (w : World) : Calls Try.prog 105 #[.agg #[.int .i64 x.f0, .int .i64 x.f1, .string x.f2]] w (valPost (.agg #[.int .i64 x.f0, .int .i64 x.f1, .string x.f2]) w) := by
 go_enter Try.func105, Try.ntmps105
 go_wp2
 exact bodyPost_ret (v := .agg #[.int .i64 x.f0, .int .i64 x.f1, .string x.f2]) (by simp [results, Try.results105, go_sem]) rfl ⟨rfl, zab (zab (Below.refl _ _) _) _⟩
theorem as_num_tru (n : Int) (w : World) : (Instr.typeAssert (.iface 131 (.int .i64 n)) 119 133 true).run Try.prog w = .ok (.tuple #[(.bool false : Value), .bool false]) w := by kernel_rfl
theorem as_num_num (n : Int) (w : World) : (Instr.typeAssert (.iface 131 (.int .i64 n)) 119 131 true).run Try.prog w = .ok (.tuple #[(.int .i64 n : Value), .bool true]) w := by kernel_rfl
theorem is_num (n : Int) (w : World) : (Instr.typeAssert (.iface 131 (.int .i64 n)) 119 131 false).run Try.prog w = .ok (.int .i64 n : Value) w := by kernel_rfl
theorem as_tru_tru (n : Bool) (w : World) : (Instr.typeAssert (.iface 133 (.bool n)) 119 133 true).run Try.prog w = .ok (.tuple #[(.bool n : Value), .bool true]) w := by kernel_rfl
theorem is_tru (n : Bool) (w : World) : (Instr.typeAssert (.iface 133 (.bool n)) 119 133 false).run Try.prog w = .ok (.bool n : Value) w := by kernel_rfl
theorem as_tru_num (n : Bool) (w : World) : (Instr.typeAssert (.iface 133 (.bool n)) 119 131 true).run Try.prog w = .ok (.tuple #[(.int .i64 0 : Value), .bool false]) w := by kernel_rfl
theorem as_oth_tru (a b : Int) (s : ByteArray) (w : World) : (Instr.typeAssert (.iface 134 (.agg #[.int .i64 a, .int .i64 b, .string s])) 119 133 true).run Try.prog w = .ok (.tuple #[(.bool false : Value), .bool false]) w := by kernel_rfl
theorem as_oth_num (a b : Int) (s : ByteArray) (w : World) : (Instr.typeAssert (.iface 134 (.agg #[.int .i64 a, .int .i64 b, .string s])) 119 131 true).run Try.prog w = .ok (.tuple #[(.int .i64 0 : Value), .bool false]) w := by kernel_rfl
def ThingIs (x : SValue) (t : Nat) (v : Value) (f : Nat) : Prop :=
 thV x = .iface t v ∧ (∀ w, (method 262 t v "towncrier/expr.value").run Try.prog w = .ok (f, v) w) ∧ (∀ args w, (callFunc f args).run Try.prog w = .ok (.enter f args) w)
 ∧ (∀ w, Calls Try.prog f #[v] w (valPost (.agg #[.int .i64 x.f0, .int .i64 x.f1, .string x.f2]) w))
 ∧ (∃ p : Bool, ∀ w, (Instr.typeAssert (.iface t v) 119 133 true).run Try.prog w = .ok (.tuple #[.bool p, .bool (x.f0 == 1)]) w)
 ∧ (∃ n : Int, ∀ w, (Instr.typeAssert (.iface t v) 119 131 true).run Try.prog w = .ok (.tuple #[.int .i64 n, .bool (x.f0 == 0)]) w)
 ∧ (x.f0 = 1 → ∀ w, (Instr.typeAssert (.iface t v) 119 133 true).run Try.prog w = .ok (.tuple #[.bool (x.f1 == 1), .bool true]) w)
 ∧ (x.f0 = 0 → ∀ w, (Instr.typeAssert (.iface t v) 119 131 true).run Try.prog w = .ok (.tuple #[.int .i64 x.f1, .bool true]) w)
 ∧ (x.f0 = 1 → ∀ w, (Instr.typeAssert (.iface t v) 119 133 false).run Try.prog w = .ok (.bool (x.f1 == 1)) w)
 ∧ (x.f0 = 0 → ∀ w, (Instr.typeAssert (.iface t v) 119 131 false).run Try.prog w = .ok (.int .i64 x.f1) w)
theorem zaK {x : SValue} (h : mayV x = true) : ∃ t v f, ThingIs x t v f := by
 obtain ⟨k, n, s⟩ := x
 unfold ThingIs
 have hm := mayV_iff.1 h
 by_cases h0 : k = 0
 ·subst h0
  have hs : s = ⟨#[]⟩ := by
   rcases hm with ⟨_, h2⟩ | ⟨h1, _⟩ | ⟨h1, _⟩ | ⟨h1, _⟩
   ·exact zaR h2
   all_goals exact absurd (show (0 : Int) = _ from h1) (by decide)
  subst hs
  refine ⟨_, _, 103, by unfold thV; rw [if_pos rfl], meth_num n, enters_of Try.func103 (by kernel_rfl) rfl, valNum_told n, ⟨_, as_num_tru n⟩, ⟨_, as_num_num n⟩, fun h => absurd (show (0 : Int) = 1 from h) (by decide), fun _ => as_num_num n, fun h => absurd (show (0 : Int) = 1 from h) (by decide), fun _ => is_num n⟩
 by_cases h1 : k = 1
 ·subst h1
  have hs : s = ⟨#[]⟩ ∧ 0 ≤ n ∧ n < 2 := by
   rcases hm with ⟨h1, _⟩ | ⟨_, h2, h3, h4⟩ | ⟨h1, _⟩ | ⟨h1, _⟩
   ·exact absurd (show (1 : Int) = _ from h1) (by decide)
   ·exact ⟨zaR h2, h3, h4⟩
   all_goals exact absurd (show (1 : Int) = _ from h1) (by decide)
  obtain ⟨rfl, hn0, hn1⟩ := hs
  refine ⟨_, _, 104, by unfold thV; rw [if_neg h0, if_pos rfl], meth_tru _, enters_of Try.func104 (by kernel_rfl) rfl, ?_, ⟨_, as_tru_tru _⟩, ⟨_, as_tru_num _⟩, fun _ => as_tru_tru _, fun h => absurd (show (1 : Int) = 0 from h) (by decide), fun _ => is_tru _, fun h => absurd (show (1 : Int) = 0 from h) (by decide)⟩
  intro w
  have := valTru_told (n == 1) w
  have e : (if (n == 1) = true then (1 : Int) else 0) = n := by
   by_cases h : n = 1
   ·subst h; rfl
   ·rw [if_neg (by simpa using h)]; omega
  rw [e] at this
  exact this
 ·have e0 : (k == 0) = false := beq_eq_false_iff_ne.2 h0
  have e1 : (k == 1) = false := beq_eq_false_iff_ne.2 h1
  refine ⟨_, _, 105, by unfold thV; rw [if_neg h0, if_neg h1], meth_oth k n s, enters_of Try.func105 (by kernel_rfl) rfl, valOth_told ⟨k, n, s⟩, ⟨_, fun w => by rw [show ((⟨k, n, s⟩ : SValue).f0 == 1) = false from e1]; exact as_oth_tru k n s w⟩, ⟨_, fun w => by rw [show ((⟨k, n, s⟩ : SValue).f0 == 0) = false from e0]; exact as_oth_num k n s w⟩, fun h => absurd h h1, fun h => absurd h h0, fun h => absurd h h1, fun h => absurd h h0⟩
def twoPost (r : Except Int SValue) (w : World) (e : Ending) (w' : World) : Prop := (match r with | .ok y => e = .returned (.tuple #[thV y, .int .i64 0]) | .error n => e = .returned (.tuple #[.nilIface, .int .i64 n])) ∧ Below w.heap.size w w'
theorem thV_tru (b : Bool) : thV (truV b) = .iface 133 (.bool b) := by cases b <;> rfl
theorem thV_num (n : Int) : thV ⟨0, n, ⟨#[]⟩⟩ = .iface 131 (.int .i64 n) := rfl
set_option maxHeartbeats 1000000 in
set_option maxRecDepth 100000 in
theorem two_differ (x y : SValue) (w : World) (hx : okV x) (hy : okV y) (code : Int) (he : x.f0 ≠ y.f0) : Calls Try.prog 78 #[.int .i64 code, thV x, thV y] w (twoPost (.error 5) w) := by
 obtain ⟨t, v, f, hx1, hx2, hx3, hx4, ⟨px, hx5⟩, ⟨nx, hx6⟩, hx7, hx8, hx9, hx10⟩ := zaK hx.1
 obtain ⟨s, u, g, hy1, hy2, hy3, hy4, ⟨py, hy5⟩, ⟨ny, hy6⟩, hy7, hy8, hy9, hy10⟩ := zaK hy.1
 rw [hx1, hy1]
 have HX4 := Aside0.mk hx4
 have HY4 := Aside0.mk hy4
 have HVX := Aside0.mk hx
 have HVY := Aside0.mk hy
 have HX1 := Aside0.mk hx1
 have HY1 := Aside0.mk hy1
 have he2 : (x.f0 == y.f0) = false := beq_eq_false_iff_ne.2 he
 have he3 : (x.f0 != y.f0) = true := bne_iff_ne.2 he
 clear he
 clear hx4 hy4 hx7 hx8 hx9 hx10 hy7 hy8 hy9 hy10 hx hy hx1 hy1
 go_enter Try.func78, Try.ntmps78
 go_wp2_with fail
 refine (HX4.out _).mono ?_
 rintro e w1 ⟨rfl, hb1⟩
 have HB1 := Aside0.mk hb1
 clear hb1
 go_wp2_with fail
 refine (HY4.out _).mono ?_
 rintro e w2 ⟨rfl, hb2⟩
 have HB2 := Aside0.mk (zah HB1.out hb2)
 clear hb2
 go_wp2_with fail
 go_ret2
 exact ⟨rfl, zab (zab HB2.out _) _⟩
set_option maxHeartbeats 1000000 in
set_option maxRecDepth 100000 in
theorem two_six (x y : SValue) (w : World) (hx : okV x) (hy : okV y) (he : x.f0 = y.f0) : Calls Try.prog 78 #[.int .i64 6, thV x, thV y] w (twoPost (.ok (truV (eqV x y))) w) := by
 obtain ⟨t, v, f, hx1, hx2, hx3, hx4, ⟨px, hx5⟩, ⟨nx, hx6⟩, hx7, hx8, hx9, hx10⟩ := zaK hx.1
 obtain ⟨s, u, g, hy1, hy2, hy3, hy4, ⟨py, hy5⟩, ⟨ny, hy6⟩, hy7, hy8, hy9, hy10⟩ := zaK hy.1
 rw [hx1, hy1]
 have HX4 := Aside0.mk hx4
 have HY4 := Aside0.mk hy4
 have HVX := Aside0.mk hx
 have HVY := Aside0.mk hy
 have HX1 := Aside0.mk hx1
 have HY1 := Aside0.mk hy1
 have HE := Aside0.mk he
 have he2 : (x.f0 == y.f0) = true := beq_iff_eq.2 he
 have he3 : (x.f0 != y.f0) = false := by rw [bne, he2]; rfl
 clear he
 have heq : (x.f1 == y.f1 && x.f2.toList == y.f2.toList) = eqV x y := by unfold eqV; rw [he2, Bool.true_and]
 show Calls _ _ _ _ (fun e w' => e = .returned (.tuple #[thV (truV (eqV x y)), .int .i64 0]) ∧ Below w.heap.size w w')
 rw [thV_tru]
 generalize eqV x y = q at *
 clear hx4 hy4 hx7 hx8 hx9 hx10 hy7 hy8 hy9 hy10 hx hy hx1 hy1
 go_enter Try.func78, Try.ntmps78
 go_wp2_with fail
 refine (HX4.out _).mono ?_
 rintro e w1 ⟨rfl, hb1⟩
 have HB1 := Aside0.mk hb1
 clear hb1
 go_wp2_with fail
 refine (HY4.out _).mono ?_
 rintro e w2 ⟨rfl, hb2⟩
 have HB2 := Aside0.mk (zah HB1.out hb2)
 clear hb2
 go_wp2_with fail
 go_ret2
 exact ⟨rfl, zab (zab HB2.out _) _⟩
set_option maxHeartbeats 1000000 in
set_option maxRecDepth 100000 in
theorem two_five_b (x y : SValue) (w : World) (hx : okV x) (hy : okV y) (he : x.f0 = y.f0) (h1 : x.f0 = 1) : Calls Try.prog 78 #[.int .i64 5, thV x, thV y] w (twoPost (.error 5) w) := by
 obtain ⟨t, v, f, hx1, hx2, hx3, hx4, ⟨px, hx5⟩, ⟨nx, hx6⟩, hx7, hx8, hx9, hx10⟩ := zaK hx.1
 obtain ⟨s, u, g, hy1, hy2, hy3, hy4, ⟨py, hy5⟩, ⟨ny, hy6⟩, hy7, hy8, hy9, hy10⟩ := zaK hy.1
 rw [hx1, hy1]
 have HX4 := Aside0.mk hx4
 have HY4 := Aside0.mk hy4
 have HVX := Aside0.mk hx
 have HVY := Aside0.mk hy
 have HX1 := Aside0.mk hx1
 have HY1 := Aside0.mk hy1
 have HE := Aside0.mk he
 have he2 : (x.f0 == y.f0) = true := beq_iff_eq.2 he
 have he3 : (x.f0 != y.f0) = false := by rw [bne, he2]; rfl
 clear he
 have h1b : (x.f0 == 1) = true := beq_iff_eq.2 h1
 clear h1
 clear hx4 hy4 hx7 hx8 hx9 hx10 hy7 hy8 hy9 hy10 hx hy hx1 hy1
 go_enter Try.func78, Try.ntmps78
 go_wp2_with fail
 refine (HX4.out _).mono ?_
 rintro e w1 ⟨rfl, hb1⟩
 have HB1 := Aside0.mk hb1
 clear hb1
 go_wp2_with fail
 refine (HY4.out _).mono ?_
 rintro e w2 ⟨rfl, hb2⟩
 have HB2 := Aside0.mk (zah HB1.out hb2)
 clear hb2
 go_wp2_with fail
 go_at_call 81
 refine (less_told x y _ HVX.out HVY.out HE.out rfl).mono ?_
 rintro e w3 ⟨rfl, hb3⟩
 go_wp2_with fail
 go_ret2
 exact ⟨rfl, zah (zab (zab HB2.out _) _) hb3⟩
set_option maxHeartbeats 1000000 in
set_option maxRecDepth 100000 in
theorem two_five (x y : SValue) (w : World) (hx : okV x) (hy : okV y) (he : x.f0 = y.f0) (h1 : ¬ x.f0 = 1) : Calls Try.prog 78 #[.int .i64 5, thV x, thV y] w (twoPost (.ok (truV (lessV x y))) w) := by
 obtain ⟨t, v, f, hx1, hx2, hx3, hx4, ⟨px, hx5⟩, ⟨nx, hx6⟩, hx7, hx8, hx9, hx10⟩ := zaK hx.1
 obtain ⟨s, u, g, hy1, hy2, hy3, hy4, ⟨py, hy5⟩, ⟨ny, hy6⟩, hy7, hy8, hy9, hy10⟩ := zaK hy.1
 rw [hx1, hy1]
 have HX4 := Aside0.mk hx4
 have HY4 := Aside0.mk hy4
 have HVX := Aside0.mk hx
 have HVY := Aside0.mk hy
 have HX1 := Aside0.mk hx1
 have HY1 := Aside0.mk hy1
 have HE := Aside0.mk he
 have he2 : (x.f0 == y.f0) = true := beq_iff_eq.2 he
 have he3 : (x.f0 != y.f0) = false := by rw [bne, he2]; rfl
 clear he
 have h1b : (x.f0 == 1) = false := beq_eq_false_iff_ne.2 h1
 clear h1
 show Calls _ _ _ _ (fun e w' => e = .returned (.tuple #[thV (truV (lessV x y)), .int .i64 0]) ∧ Below w.heap.size w w')
 rw [thV_tru]
 obtain ⟨q, hq⟩ : ∃ q, lessV x y = q := ⟨_, rfl⟩
 rw [hq]
 have HQ := Aside0.mk hq
 clear hq
 clear hx4 hy4 hx7 hx8 hx9 hx10 hy7 hy8 hy9 hy10 hx hy hx1 hy1
 go_enter Try.func78, Try.ntmps78
 go_wp2_with fail
 refine (HX4.out _).mono ?_
 rintro e w1 ⟨rfl, hb1⟩
 have HB1 := Aside0.mk hb1
 clear hb1
 go_wp2_with fail
 refine (HY4.out _).mono ?_
 rintro e w2 ⟨rfl, hb2⟩
 have HB2 := Aside0.mk (zah HB1.out hb2)
 clear hb2
 go_wp2_with fail
 go_at_call 81
 refine (less_told x y _ HVX.out HVY.out HE.out HQ.out).mono ?_
 rintro e w3 ⟨rfl, hb3⟩
 go_wp2_with fail
 go_ret2
 exact ⟨rfl, zah (zab (zab HB2.out _) _) hb3⟩
set_option maxHeartbeats 1000000 in
set_option maxRecDepth 100000 in
theorem two_seven (x y : SValue) (w : World) (hx : okV x) (hy : okV y) (he : x.f0 = y.f0) (h1 : x.f0 = 1) : Calls Try.prog 78 #[.int .i64 7, thV x, thV y] w (twoPost (.ok (truV (x.f1 == 1 && y.f1 == 1))) w) := by
 obtain ⟨t, v, f, hx1, hx2, hx3, hx4, ⟨px, hx5⟩, ⟨nx, hx6⟩, hx7, hx8, hx9, hx10⟩ := zaK hx.1
 obtain ⟨s, u, g, hy1, hy2, hy3, hy4, ⟨py, hy5⟩, ⟨ny, hy6⟩, hy7, hy8, hy9, hy10⟩ := zaK hy.1
 rw [hx1, hy1]
 have HX4 := Aside0.mk hx4
 have HY4 := Aside0.mk hy4
 have HVX := Aside0.mk hx
 have HVY := Aside0.mk hy
 have HX1 := Aside0.mk hx1
 have HY1 := Aside0.mk hy1
 have hy1' : y.f0 = 1 := by omega
 have a1 := hx9 h1
 have a2 := hy9 hy1'
 have a3 := hx7 h1
 have HE := Aside0.mk he
 have he2 : (x.f0 == y.f0) = true := beq_iff_eq.2 he
 have he3 : (x.f0 != y.f0) = false := by rw [bne, he2]; rfl
 clear he
 show Calls _ _ _ _ (fun e w' => e = .returned (.tuple #[thV (truV (x.f1 == 1 && y.f1 == 1)), .int .i64 0]) ∧ Below w.heap.size w w')
 rw [thV_tru]
 clear h1 hy1' hx5
 generalize (x.f1 == 1) = p at *
 generalize (y.f1 == 1) = q at *
 clear hx4 hy4 hx7 hx8 hx9 hx10 hy7 hy8 hy9 hy10 hx hy hx1 hy1
 cases p <;> cases q
 all_goals
  go_enter Try.func78, Try.ntmps78
  go_wp2_with fail
  refine (HX4.out _).mono ?_
  rintro e w1 ⟨rfl, hb1⟩
  have HB1 := Aside0.mk hb1
  clear hb1
  go_wp2_with fail
  refine (HY4.out _).mono ?_
  rintro e w2 ⟨rfl, hb2⟩
  have HB2 := Aside0.mk (zah HB1.out hb2)
  clear hb2
  go_wp2_with fail
  go_quiet (fail)
  go_wp2_with fail
  go_ret2
  exact ⟨rfl, zad (zab (zab HB2.out _) _) _⟩
set_option maxHeartbeats 1000000 in
set_option maxRecDepth 100000 in
theorem two_seven_no (x y : SValue) (w : World) (hx : okV x) (hy : okV y) (he : x.f0 = y.f0) (h1 : ¬ x.f0 = 1) : Calls Try.prog 78 #[.int .i64 7, thV x, thV y] w (twoPost (.error 5) w) := by
 obtain ⟨t, v, f, hx1, hx2, hx3, hx4, ⟨px, hx5⟩, ⟨nx, hx6⟩, hx7, hx8, hx9, hx10⟩ := zaK hx.1
 obtain ⟨s, u, g, hy1, hy2, hy3, hy4, ⟨py, hy5⟩, ⟨ny, hy6⟩, hy7, hy8, hy9, hy10⟩ := zaK hy.1
 rw [hx1, hy1]
 have HX4 := Aside0.mk hx4
 have HY4 := Aside0.mk hy4
 have HVX := Aside0.mk hx
 have HVY := Aside0.mk hy
 have HX1 := Aside0.mk hx1
 have HY1 := Aside0.mk hy1
 have HE := Aside0.mk he
 have he2 : (x.f0 == y.f0) = true := beq_iff_eq.2 he
 have he3 : (x.f0 != y.f0) = false := by rw [bne, he2]; rfl
 clear he
 have h1b : (x.f0 == 1) = false := beq_eq_false_iff_ne.2 h1
 clear h1
 clear hx4 hy4 hx7 hx8 hx9 hx10 hy7 hy8 hy9 hy10 hx hy hx1 hy1
 go_enter Try.func78, Try.ntmps78
 go_wp2_with fail
 refine (HX4.out _).mono ?_
 rintro e w1 ⟨rfl, hb1⟩
 have HB1 := Aside0.mk hb1
 clear hb1
 go_wp2_with fail
 refine (HY4.out _).mono ?_
 rintro e w2 ⟨rfl, hb2⟩
 have HB2 := Aside0.mk (zah HB1.out hb2)
 clear hb2
 go_wp2_with fail
 go_ret2
 exact ⟨rfl, zab (zab HB2.out _) _⟩
set_option maxHeartbeats 1000000 in
set_option maxRecDepth 100000 in
theorem two_eight (x y : SValue) (w : World) (hx : okV x) (hy : okV y) (he : x.f0 = y.f0) (h1 : x.f0 = 1) : Calls Try.prog 78 #[.int .i64 8, thV x, thV y] w (twoPost (.ok (truV (x.f1 == 1 || y.f1 == 1))) w) := by
 obtain ⟨t, v, f, hx1, hx2, hx3, hx4, ⟨px, hx5⟩, ⟨nx, hx6⟩, hx7, hx8, hx9, hx10⟩ := zaK hx.1
 obtain ⟨s, u, g, hy1, hy2, hy3, hy4, ⟨py, hy5⟩, ⟨ny, hy6⟩, hy7, hy8, hy9, hy10⟩ := zaK hy.1
 rw [hx1, hy1]
 have HX4 := Aside0.mk hx4
 have HY4 := Aside0.mk hy4
 have HVX := Aside0.mk hx
 have HVY := Aside0.mk hy
 have HX1 := Aside0.mk hx1
 have HY1 := Aside0.mk hy1
 have hy1' : y.f0 = 1 := by omega
 have a1 := hx9 h1
 have a2 := hy9 hy1'
 have a3 := hx7 h1
 have HE := Aside0.mk he
 have he2 : (x.f0 == y.f0) = true := beq_iff_eq.2 he
 have he3 : (x.f0 != y.f0) = false := by rw [bne, he2]; rfl
 clear he
 show Calls _ _ _ _ (fun e w' => e = .returned (.tuple #[thV (truV (x.f1 == 1 || y.f1 == 1)), .int .i64 0]) ∧ Below w.heap.size w w')
 rw [thV_tru]
 clear h1 hy1' hx5
 generalize (x.f1 == 1) = p at *
 generalize (y.f1 == 1) = q at *
 clear hx4 hy4 hx7 hx8 hx9 hx10 hy7 hy8 hy9 hy10 hx hy hx1 hy1
 cases p <;> cases q
 all_goals
  go_enter Try.func78, Try.ntmps78
  go_wp2_with fail
  refine (HX4.out _).mono ?_
  rintro e w1 ⟨rfl, hb1⟩
  have HB1 := Aside0.mk hb1
  clear hb1
  go_wp2_with fail
  refine (HY4.out _).mono ?_
  rintro e w2 ⟨rfl, hb2⟩
  have HB2 := Aside0.mk (zah HB1.out hb2)
  clear hb2
  go_wp2_with fail
  go_quiet (fail)
  go_wp2_with fail
  go_ret2
  exact ⟨rfl, zad (zab (zab HB2.out _) _) _⟩
set_option maxHeartbeats 1000000 in
set_option maxRecDepth 100000 in
theorem two_eight_no (x y : SValue) (w : World) (hx : okV x) (hy : okV y) (he : x.f0 = y.f0) (h1 : ¬ x.f0 = 1) : Calls Try.prog 78 #[.int .i64 8, thV x, thV y] w (twoPost (.error 5) w) := by
 obtain ⟨t, v, f, hx1, hx2, hx3, hx4, ⟨px, hx5⟩, ⟨nx, hx6⟩, hx7, hx8, hx9, hx10⟩ := zaK hx.1
 obtain ⟨s, u, g, hy1, hy2, hy3, hy4, ⟨py, hy5⟩, ⟨ny, hy6⟩, hy7, hy8, hy9, hy10⟩ := zaK hy.1
 rw [hx1, hy1]
 have HX4 := Aside0.mk hx4
 have HY4 := Aside0.mk hy4
 have HVX := Aside0.mk hx
 have HVY := Aside0.mk hy
 have HX1 := Aside0.mk hx1
 have HY1 := Aside0.mk hy1
 have HE := Aside0.mk he
 have he2 : (x.f0 == y.f0) = true := beq_iff_eq.2 he
 have he3 : (x.f0 != y.f0) = false := by rw [bne, he2]; rfl
 clear he
 have h1b : (x.f0 == 1) = false := beq_eq_false_iff_ne.2 h1
 clear h1
 clear hx4 hy4 hx7 hx8 hx9 hx10 hy7 hy8 hy9 hy10 hx hy hx1 hy1
 go_enter Try.func78, Try.ntmps78
 go_wp2_with fail
 refine (HX4.out _).mono ?_
 rintro e w1 ⟨rfl, hb1⟩
 have HB1 := Aside0.mk hb1
 clear hb1
 go_wp2_with fail
 refine (HY4.out _).mono ?_
 rintro e w2 ⟨rfl, hb2⟩
 have HB2 := Aside0.mk (zah HB1.out hb2)
 clear hb2
 go_wp2_with fail
 go_ret2
 exact ⟨rfl, zab (zab HB2.out _) _⟩
set_option maxHeartbeats 1000000 in
set_option maxRecDepth 100000 in
theorem two_over (x y : SValue) (w : World) (hx : okV x) (hy : okV y) (code : Int) (he : x.f0 = y.f0) (h6 : ¬ code = 6) (h5 : ¬ code = 5) (h78 : ¬ (code = 7 ∨ code = 8)) (h0 : x.f0 = 0) (hs : sumV code x.f1 y.f1 = none) : Calls Try.prog 78 #[.int .i64 code, thV x, thV y] w (twoPost (.error 6) w) := by
 obtain ⟨t, v, f, hx1, hx2, hx3, hx4, ⟨px, hx5⟩, ⟨nx, hx6⟩, hx7, hx8, hx9, hx10⟩ := zaK hx.1
 obtain ⟨s, u, g, hy1, hy2, hy3, hy4, ⟨py, hy5⟩, ⟨ny, hy6⟩, hy7, hy8, hy9, hy10⟩ := zaK hy.1
 rw [hx1, hy1]
 have HX4 := Aside0.mk hx4
 have HY4 := Aside0.mk hy4
 have HVX := Aside0.mk hx
 have HVY := Aside0.mk hy
 have HX1 := Aside0.mk hx1
 have HY1 := Aside0.mk hy1
 have h0b : (x.f0 == 0) = true := beq_iff_eq.2 h0
 have hy0 : y.f0 = 0 := by omega
 have a1 := hx8 h0
 have a2 := hy10 hy0
 have HE := Aside0.mk he
 have he2 : (x.f0 == y.f0) = true := beq_iff_eq.2 he
 have he3 : (x.f0 != y.f0) = false := by rw [bne, he2]; rfl
 clear he
 have h5b : (code == 5) = false := beq_eq_false_iff_ne.2 h5
 have h6b : (code == 6) = false := beq_eq_false_iff_ne.2 h6
 have h7b : (code == 7) = false := beq_eq_false_iff_ne.2 (fun h => h78 (.inl h))
 have h8b : (code == 8) = false := beq_eq_false_iff_ne.2 (fun h => h78 (.inr h))
 clear h5 h6 h78
 obtain ⟨n, hn⟩ := sum_none hx.2 hy.2 hs
 have HS := Aside0.mk hn
 clear hn hs hx6 hy0 h0
 clear hx4 hy4 hx7 hx8 hx9 hx10 hy7 hy8 hy9 hy10 hx hy hx1 hy1
 go_enter Try.func78, Try.ntmps78
 go_wp2_with fail
 refine (HX4.out _).mono ?_
 rintro e w1 ⟨rfl, hb1⟩
 have HB1 := Aside0.mk hb1
 clear hb1
 go_wp2_with fail
 refine (HY4.out _).mono ?_
 rintro e w2 ⟨rfl, hb2⟩
 have HB2 := Aside0.mk (zah HB1.out hb2)
 clear hb2
 go_wp2_with fail
 go_at_call 82
 refine (HS.out _).mono ?_
 rintro e w3 ⟨rfl, hb3⟩
 go_wp2_with fail
 go_ret2
 exact ⟨rfl, zah (zab (zab HB2.out _) _) hb3⟩
set_option maxHeartbeats 1000000 in
set_option maxRecDepth 100000 in
theorem two_sum (x y : SValue) (w : World) (hx : okV x) (hy : okV y) (code : Int) (he : x.f0 = y.f0) (h6 : ¬ code = 6) (h5 : ¬ code = 5) (h78 : ¬ (code = 7 ∨ code = 8)) (h0 : x.f0 = 0) {n : Int} (hs : sumV code x.f1 y.f1 = some n) : Calls Try.prog 78 #[.int .i64 code, thV x, thV y] w (twoPost (.ok ⟨0, n, ⟨#[]⟩⟩) w) := by
 obtain ⟨t, v, f, hx1, hx2, hx3, hx4, ⟨px, hx5⟩, ⟨nx, hx6⟩, hx7, hx8, hx9, hx10⟩ := zaK hx.1
 obtain ⟨s, u, g, hy1, hy2, hy3, hy4, ⟨py, hy5⟩, ⟨ny, hy6⟩, hy7, hy8, hy9, hy10⟩ := zaK hy.1
 rw [hx1, hy1]
 have HX4 := Aside0.mk hx4
 have HY4 := Aside0.mk hy4
 have HVX := Aside0.mk hx
 have HVY := Aside0.mk hy
 have HX1 := Aside0.mk hx1
 have HY1 := Aside0.mk hy1
 have h0b : (x.f0 == 0) = true := beq_iff_eq.2 h0
 have hy0 : y.f0 = 0 := by omega
 have a1 := hx8 h0
 have a2 := hy10 hy0
 have HE := Aside0.mk he
 have he2 : (x.f0 == y.f0) = true := beq_iff_eq.2 he
 have he3 : (x.f0 != y.f0) = false := by rw [bne, he2]; rfl
 clear he
 have h5b : (code == 5) = false := beq_eq_false_iff_ne.2 h5
 have h6b : (code == 6) = false := beq_eq_false_iff_ne.2 h6
 have h7b : (code == 7) = false := beq_eq_false_iff_ne.2 (fun h => h78 (.inl h))
 have h8b : (code == 8) = false := beq_eq_false_iff_ne.2 (fun h => h78 (.inr h))
 clear h5 h6 h78
 show Calls _ _ _ _ (fun e w' => e = .returned (.tuple #[thV ⟨0, n, ⟨#[]⟩⟩, .int .i64 0]) ∧ Below w.heap.size w w')
 rw [thV_num]
 have HS := Aside0.mk (sum_some hx.2 hy.2 hs)
 clear hs hx6 hy0 h0
 clear hx4 hy4 hx7 hx8 hx9 hx10 hy7 hy8 hy9 hy10 hx hy hx1 hy1
 go_enter Try.func78, Try.ntmps78
 go_wp2_with fail
 refine (HX4.out _).mono ?_
 rintro e w1 ⟨rfl, hb1⟩
 have HB1 := Aside0.mk hb1
 clear hb1
 go_wp2_with fail
 refine (HY4.out _).mono ?_
 rintro e w2 ⟨rfl, hb2⟩
 have HB2 := Aside0.mk (zah HB1.out hb2)
 clear hb2
 go_wp2_with fail
 go_at_call 82
 refine (HS.out _).mono ?_
 rintro e w3 ⟨rfl, hb3⟩
 go_wp2_with fail
 go_ret2
 exact ⟨rfl, zah (zab (zab HB2.out _) _) hb3⟩
set_option maxHeartbeats 1000000 in
set_option maxRecDepth 100000 in
theorem two_type (x y : SValue) (w : World) (hx : okV x) (hy : okV y) (code : Int) (he : x.f0 = y.f0) (h6 : ¬ code = 6) (h5 : ¬ code = 5) (h78 : ¬ (code = 7 ∨ code = 8)) (h0 : ¬ x.f0 = 0) : Calls Try.prog 78 #[.int .i64 code, thV x, thV y] w (twoPost (.error 5) w) := by
 obtain ⟨t, v, f, hx1, hx2, hx3, hx4, ⟨px, hx5⟩, ⟨nx, hx6⟩, hx7, hx8, hx9, hx10⟩ := zaK hx.1
 obtain ⟨s, u, g, hy1, hy2, hy3, hy4, ⟨py, hy5⟩, ⟨ny, hy6⟩, hy7, hy8, hy9, hy10⟩ := zaK hy.1
 rw [hx1, hy1]
 have HX4 := Aside0.mk hx4
 have HY4 := Aside0.mk hy4
 have HVX := Aside0.mk hx
 have HVY := Aside0.mk hy
 have HX1 := Aside0.mk hx1
 have HY1 := Aside0.mk hy1
 have HE := Aside0.mk he
 have he2 : (x.f0 == y.f0) = true := beq_iff_eq.2 he
 have he3 : (x.f0 != y.f0) = false := by rw [bne, he2]; rfl
 clear he
 have h5b : (code == 5) = false := beq_eq_false_iff_ne.2 h5
 have h6b : (code == 6) = false := beq_eq_false_iff_ne.2 h6
 have h7b : (code == 7) = false := beq_eq_false_iff_ne.2 (fun h => h78 (.inl h))
 have h8b : (code == 8) = false := beq_eq_false_iff_ne.2 (fun h => h78 (.inr h))
 clear h5 h6 h78
 have h0b : (x.f0 == 0) = false := beq_eq_false_iff_ne.2 h0
 clear h0
 clear hx4 hy4 hx7 hx8 hx9 hx10 hy7 hy8 hy9 hy10 hx hy hx1 hy1
 go_enter Try.func78, Try.ntmps78
 go_wp2_with fail
 refine (HX4.out _).mono ?_
 rintro e w1 ⟨rfl, hb1⟩
 have HB1 := Aside0.mk hb1
 clear hb1
 go_wp2_with fail
 refine (HY4.out _).mono ?_
 rintro e w2 ⟨rfl, hb2⟩
 have HB2 := Aside0.mk (zah HB1.out hb2)
 clear hb2
 go_wp2_with fail
 go_ret2
 exact ⟨rfl, zab (zab HB2.out _) _⟩
theorem two_told (code : Int) (x y : SValue) (w : World) (hx : okV x) (hy : okV y) {r : Except Int SValue} (hr : twoV code x y = r) : Calls Try.prog 78 #[.int .i64 code, thV x, thV y] w (twoPost r w) := by
 unfold twoV at hr
 by_cases he : x.f0 ≠ y.f0
 ·rw [if_pos he] at hr; subst hr; exact two_differ x y w hx hy code he
 rw [if_neg he] at hr
 replace he := Classical.byContradiction he
 by_cases h6 : code = 6
 ·rw [if_pos h6] at hr; subst hr h6; exact two_six x y w hx hy he
 rw [if_neg h6] at hr
 by_cases h5 : code = 5
 ·rw [if_pos h5] at hr; subst h5
  by_cases h1 : x.f0 = 1
  ·rw [if_pos h1] at hr; subst hr; exact two_five_b x y w hx hy he h1
  ·rw [if_neg h1] at hr; subst hr; exact two_five x y w hx hy he h1
 rw [if_neg h5] at hr
 by_cases h78 : code = 7 ∨ code = 8
 ·rw [if_pos h78] at hr
  by_cases h1 : x.f0 = 1
  ·rw [if_pos h1] at hr; subst hr
   rcases h78 with rfl | rfl
   ·exact two_seven x y w hx hy he h1
   ·exact two_eight x y w hx hy he h1
  ·rw [if_neg h1] at hr; subst hr
   rcases h78 with rfl | rfl
   ·exact two_seven_no x y w hx hy he h1
   ·exact two_eight_no x y w hx hy he h1
 rw [if_neg h78] at hr
 by_cases h0 : x.f0 = 0
 ·rw [if_pos h0] at hr
  cases hs : sumV code x.f1 y.f1 with
  | none => rw [hs] at hr; subst hr; exact two_over x y w hx hy code he h6 h5 h78 h0 hs
  | some n => rw [hs] at hr; subst hr; exact two_sum x y w hx hy code he h6 h5 h78 h0 hs
 ·rw [if_neg h0] at hr; subst hr; exact two_type x y w hx hy code he h6 h5 h78 h0
end Go.Proofs.Ytooemobolfoefaa.P

