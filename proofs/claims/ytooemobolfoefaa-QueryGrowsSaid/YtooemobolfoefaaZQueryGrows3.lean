/- What QueryGrows's row stands on: words, contracts of the functions that it reaches, plain facts, its walk (part 3): no condition but those that each theorem names. -/
import Derived.Test.YtooemobolfoefaaZQueryGrows2
set_option linter.unusedVariables false
set_option linter.unusedSimpArgs false
namespace Go.Proofs.Ytooemobolfoefaa.P
open Go.RowKit Go.Proofs.YtooemobolfoefaaW.PrintWords Go.Proofs.YtooemobolfoefaaW.PrintLast Go.Proofs.YtooemobolfoefaaW.PrintMore
attribute [local go_sem] za1 zaZ zbb zba zaU zaT za0 zaY   -- for this text's walks alone
set_option linter.unusedVariables false
set_option linter.unusedSimpArgs false
set_option maxHeartbeats 400000 in
theorem slices_IndexFunc_api_Schema.toldw (g : Nat) (caps : Array Value) (p : SSchema → Bool) (wf : SSchema → Prop) (A0 : Option Addr) (cp : Nat) (l0 : List SSchema) (w : World) (eg : ∀ args w, (callFunc g args).run Try.prog w = .ok (.enter g args) w) (hp : TellsW Try.prog kSchema g caps p wf w) (hwf : ∀ x ∈ l0, wf x) (hr0 : Kd.C kSchema w A0 l0.length l0) (hc0 : l0.length ≤ cp) :
  Calls Try.prog 53 #[.slice A0 l0.length cp, .func (.func g) #[] caps] w (idxPost p l0 w) := by
 have HR0 := Aside0.mk hr0
 have HC0 := Aside0.mk hc0
 have HP := Aside0.mk hp
 have HWF := Aside0.mk hwf
 have hm := hr0.2.1
 clear hr0 hc0 hp hwf
 go_enter Try.func53, Try.ntmps53
 go_wp2
 go_loopw [4, 5, 8] (fun v4 v5 v8 w' => ∃ k : Nat, v8 = .int .i64 k ∧ idxRel p l0 zau w k w') (fun _ _ i _ => l0.length - (intOf i).toNat)
 case atStart => exact ⟨0, rfl, Nat.zero_le _, fun i hi => by omega, Below.refl _ _⟩
 case round =>
  obtain ⟨k, rfl, HK⟩ := hrel
  have HK := Aside0.mk HK
  by_cases hlt : k < l0.length
  ·obtain ⟨ad, cs, e, hl, hK, hcell⟩ := Kd.C_get (Kd.C_below HR0.out HK.out.2.2) zau (k : Int) (by omega) (by omega)
   cases e
   simp only [Int.toNat_natCast] at hK hcell
   obtain ⟨c0, c1, c2, rfl⟩ := cells3 cs hl
   have hx0 : wr.cell? (ad.add (k * 3)) = some c0 := hcell 0 _ rfl
   have hx1 : wr.cell? ⟨(ad.add (k * 3)).block, (ad.add (k * 3)).off + 1, none⟩ = some c1 := by rw [← zaA _ _ 1 (by omega)]; exact hcell 1 _ rfl
   have hx2 : wr.cell? ⟨(ad.add (k * 3)).block, (ad.add (k * 3)).off + 2, none⟩ = some c2 := by rw [← zaA _ _ 2 (by omega)]; exact hcell 2 _ rfl
   have hcall := HP.out (l0.getD k zau) _ wr (HWF.out _ (getD_in _ hlt)) HK.out.2.2 hK
   clear hcell hK hl
   cases hp : p (l0.getD k zau) with
   | true =>
    rw [hp] at hcall
    have HQ := Aside0.mk hp; clear hp
    go_wp2_with (go_at_fn g; refine hcall.mono ?_; rintro e w1 ⟨rfl, hb1⟩)
    go_ret
    exact ⟨by rw [idx_skip p zau l0 k HK.out.2.1 hlt HQ.out]; rfl, zah HK.out.2.2 hb1⟩
   | false =>
    rw [hp] at hcall
    have HQ := Aside0.mk hp; clear hp
    go_wp2_with (go_at_fn g; refine hcall.mono ?_; rintro e w1 ⟨rfl, hb1⟩)
    go_roundw
    case rel => exact ⟨k + 1, by go_num, by omega, fun i hi => by rcases Nat.lt_succ_iff_lt_or_eq.1 hi with h | rfl; exact HK.out.2.1 i h; exact HQ.out, zah HK.out.2.2 hb1⟩
    case measure => simp [intOf]; omega
  ·go_wp2
   go_ret
   exact ⟨by rw [idx_none p zau l0 (fun i hi => HK.out.2.1 i (by omega))]; rfl, HK.out.2.2⟩
theorem slices_IndexFunc_api_Schema.told (g : Nat) (caps : Array Value) (p : SSchema → Bool) (A0 : Option Addr) (cp : Nat) (l0 : List SSchema) (w : World) (eg : ∀ args w, (callFunc g args).run Try.prog w = .ok (.enter g args) w) (hp : Tells Try.prog kSchema g caps p w) (hr0 : Kd.C kSchema w A0 l0.length l0) (hc0 : l0.length ≤ cp) :
  Calls Try.prog 53 #[.slice A0 l0.length cp, .func (.func g) #[] caps] w (idxPost p l0 w) :=
 slices_IndexFunc_api_Schema.toldw g caps p (fun _ => True) A0 cp l0 w eg (fun x cs W _ => hp x cs W) (fun _ _ => trivial) hr0 hc0
theorem at1_told (nm : ByteArray) (B : Nat) (w : World) (hB : B < w.heap.size) (hc : w.cell? ⟨B, 0, none⟩ = some (.string nm)) :
  Tells Try.prog kSchema 54 #[.pointer (some ⟨B, 0, none⟩)] (fun x : SSchema => x.f0.toList == nm.toList) w := by
 intro x cs W hW hK
 obtain ⟨A2, c2, rfl, _, _⟩ := kSchema_open hK
 have hc2 : W.cell? ⟨B, 0, none⟩ = some (.string nm) := (hW.cell (p := ⟨B, 0, none⟩) hB).trans hc
 have hB2 : B < W.heap.size := Nat.lt_of_lt_of_le hB hW.size
 clear hc hW hK hB
 show Calls _ _ #[.agg #[.string x.f0, .int .i64 x.f1, .slice A2 x.f2.length c2], .pointer (some ⟨B, 0, none⟩)] W (za2 (x.f0.toList == nm.toList) W)
 go_enter Try.func54, Try.ntmps54
 go_wp2
 go_ret
 exact ⟨rfl, (Below.refl _ _).alloc (Nat.le_refl _) _⟩
def registry_at.f (l0 : List SSchema) (a1 : ByteArray) : Option Int := some (idx (fun x : SSchema => x.f0.toList == a1.toList) l0)
set_option maxHeartbeats 1000000 in
theorem registry_at.calls (A0 : Option Addr) (c0 : Nat) (l0 : List SSchema) (a1 : ByteArray) (r : Int) (w : World) (hr0 : Kd.C kSchema w A0 l0.length l0) (hc0 : l0.length ≤ c0) (h : registry_at.f l0 a1 = some r) :
  Calls Try.prog 34 #[.slice A0 l0.length c0, .string a1] w fun e w' => e = .returned (.int .i64 r) ∧ Below w.heap.size w w' := by
 obtain rfl := Option.some.inj h
 clear h
 have hb0 : Below w.heap.size w (w.alloc (.cells #[.string a1] 9)) := (Below.refl _ _).alloc (Nat.le_refl _) _
 have HC1 := Aside0.mk (slices_IndexFunc_api_Schema.told 54 #[.pointer (some ⟨w.heap.size, 0, none⟩)] (fun x : SSchema => x.f0.toList == a1.toList) A0 c0 l0 (w.alloc (.cells #[.string a1] 9)) (enters_of Try.func54 (by kernel_rfl) rfl) (at1_told a1 w.heap.size _ (by simp) ((zad (zaw _ _) 0).trans rfl)) (Kd.C_below hr0 hb0) hc0)
 clear hr0 hc0
 go_enter Try.func34, Try.ntmps34
 go_wp2_with (go_at_call 53; refine HC1.out.mono ?_; rintro e w1 ⟨rfl, hb1⟩)
 go_ret
 exact ⟨rfl, zah hb0 hb1⟩
def registry_May.l0 : Nat → List (SSchema) → List (SSchema) → Int → Int → Option (Bool)
 | 0, _, _, _, _ => none
 | k + 1, x0, x5, x6, x7 => if x7 < x6 then (if 0 ≤ x7 then (if x7 < (x5.length : Int) then ((schema_May.f ((zal x5 x7).f0) ((zal x5 x7).f1) ((zal x5 x7).f2)).bind fun t133 => (if t133 = true then ((registry_at.f x0 ((zal x5 x7).f0)).bind fun t134 => (if t134 = x7 then (registry_May.l0 k x0 x5 x6 (wrap64 (x7 + 1))) else (some false))) else (some false))) else (none)) else (none)) else (some (decide ((x0.length : Int) ≤ 8)))
def registry_May.f (k : Nat) (l0 : List (SSchema)) : Option (Bool) := registry_May.l0 k l0 l0 (l0.length : Int) 0
set_option maxHeartbeats 8000000 in
set_option maxRecDepth 100000 in
theorem registry_May.calls (k : Nat) (A0 : Option Addr) (c0 : Nat) (l0 : List (SSchema)) (r : Bool) (w : World) (hr0 : Kd.C kSchema w A0 l0.length l0) (hc0 : l0.length ≤ c0) (h : registry_May.f k l0 = some r) :
  Calls Try.prog 29 #[.slice A0 l0.length c0] w fun e w' => e = .returned (.bool r) ∧ Below w.heap.size w w' := by
 have hu43 := Try.underlying43
 have HR0 := Aside0.mk hr0
 have HC0 := Aside0.mk hc0
 clear hr0 hc0
 have HB := Aside0.mk (Below.refl w.heap.size w)
 have H : (registry_May.l0 k l0 l0 (l0.length : Int) 0) = some r := h
 clear h
 have H' := Aside0.mk H
 clear H
 go_enter Try.func29, Try.ntmps29
 go_wp2
 go_loopg [7] k (fun kq v7 w' => ∃ (x7_1 : Int), v7 = .int .i64 x7_1 ∧ Aside0 (registry_May.l0 kq l0 l0 (l0.length : Int) x7_1 = some r) ∧ Aside0 (kq ≤ k) ∧ Aside0 (Below w.heap.size w w'))
 case atStart => exact ⟨(0), (by first | rfl | (simp; done) | (simp [*]; done)), H', ⟨Nat.le_refl _⟩, ⟨by repeat (first | (with_reducible first | exact HB.out | apply zaa | apply zac | apply zae) | exact HB.out)⟩⟩
 case round =>
  clear H'
  obtain ⟨x7_1, rfl, HA, HK1, HB⟩ := hrel
  cases gk with
  | zero => exact absurd HA.out (by simp [registry_May.l0])
  | succ k1 =>
   have H := HA.out
   clear HA
   simp only [registry_May.l0] at H
   by_cases c2 : x7_1 < (l0.length : Int)
   ·rw [if_pos c2] at H
    have c2b0 : decide (x7_1 < (l0.length : Int)) = true := decide_eq_true c2
    clear c2
    by_cases c3 : 0 ≤ x7_1
    ·rw [if_pos c3] at H
     have c3b0 : decide (0 ≤ x7_1) = true := decide_eq_true c3
     clear c3
     by_cases c4 : x7_1 < (l0.length : Int)
     ·rw [if_pos c4] at H
      have c4b0 : decide (x7_1 < (l0.length : Int)) = true := decide_eq_true c4
      clear c4
      replace H := Option.bind_eq_some_iff.mp H
      obtain ⟨t133, A50, H⟩ := H
      replace H : (if t133 = true then ((registry_at.f l0 ((zal l0 x7_1).f0)).bind fun t134 => (if t134 = x7_1 then (registry_May.l0 k1 l0 l0 (l0.length : Int) (wrap64 (x7_1 + 1))) else (some false))) else (some false)) = some r := H
      have A5 := Aside0.mk A50
      clear A50
      by_cases c6 : t133 = true
      ·subst c6
       have H1 : ((registry_at.f l0 ((zal l0 x7_1).f0)).bind fun t134 => (if t134 = x7_1 then (registry_May.l0 k1 l0 l0 (l0.length : Int) (wrap64 (x7_1 + 1))) else (some false))) = some r := by rw [if_pos rfl] at H; exact H
       clear H
       have H := H1
       clear H1
       replace H := Option.bind_eq_some_iff.mp H
       obtain ⟨t134, A70, H⟩ := H
       replace H : (if t134 = x7_1 then (registry_May.l0 k1 l0 l0 (l0.length : Int) (wrap64 (x7_1 + 1))) else (some false)) = some r := H
       have A7 := Aside0.mk A70
       clear A70
       by_cases c8 : t134 = x7_1
       ·rw [if_pos c8] at H
        have c8b0 : (t134 == x7_1) = true := beq_iff_eq.mpr c8
        have c8b1 : (t134 != x7_1) = false := bne_eq_false_iff_eq.mpr c8
        clear c8
        have H' := Aside0.mk H
        clear H
        have p131 : 0 ≤ (x7_1 : Int) := of_decide_eq_true (by first | (with_reducible assumption) | assumption)
        have q131 : x7_1 < (l0.length : Int) := of_decide_eq_true (by first | (with_reducible assumption) | assumption)
        obtain ⟨ad131, A131_2, c131_2, e131, hx131_0, hx131_1, hx131_2, hl131_2, hi131_2⟩ := zbl HR0.out x7_1 p131 q131
        cases e131
        replace hx131_0 := (HB.out.cell (World.block_lt_of_cell? w _ hx131_0)).trans hx131_0
        replace hx131_1 := (HB.out.cell (World.block_lt_of_cell? w _ hx131_1)).trans hx131_1
        replace hx131_2 := (HB.out.cell (World.block_lt_of_cell? w _ hx131_2)).trans hx131_2
        have HR131_2 := Aside0.mk hi131_2
        have HC131_2 := Aside0.mk hl131_2
        clear hi131_2 hl131_2
        replace p131 := eq_true p131
        replace q131 := eq_true q131
        go_wp2_with (first | ((with_reducible refine zat (N := 4) rfl ?_); refine zar ?hg (N := 4) ?hd (cs := #[.string (⟨#[]⟩ : ByteArray), .int .i64 0, .slice none 0 0]) (t := 43) ?hr ?_; (case hd => rfl); (case hg => rfl); (case hr => first | (go_simp; done) | (go_simp; rfl)); intro gb132 hg w9 hbox hb; have n0_ := Aside0.mk (zah (by repeat (first | (with_reducible first | exact HB.out | apply zaa | apply zac | apply zae) | exact HB.out)) hb); have n1_ := Aside0.mk (hbox); have n2_ := Aside0.mk ((by rw [hg]; exact (zan (by repeat (first | (with_reducible first | exact HB.out | apply zaa | apply zac | apply zae) | exact HB.out))) : w.heap.size ≤ gb132)); have n3_ := Aside0.mk ((by rw [hg]; exact (zan (by repeat (first | (with_reducible first | exact HB.out | apply zaa | apply zac | apply zae) | exact HB.out))) : w.heap.size ≤ gb132)); clear HB; have HB := n0_; have BK132 := n1_; have GW132 := n2_; have GE132 := n3_; clear n0_ n1_ n2_ n3_; clear hb hbox hg; have hcz10_0 : w9.cell? ⟨gb132, 0, none⟩ = some (.string (⟨#[]⟩ : ByteArray)) := (zad BK132.out 0).trans rfl; have hcz10_1 : w9.cell? ⟨gb132, 1, none⟩ = some (.int .i64 0) := (zad BK132.out 1).trans rfl; have hcz10_2 : w9.cell? ⟨gb132, 2, none⟩ = some (.slice none 0 0) := (zad BK132.out 2).trans rfl; have hfz10_0 := zab BK132.out 0; have hfz10_1 := zab BK132.out 1; have hfz10_2 := zab BK132.out 2) | ((with_reducible refine zaq (f := 33) rfl ?_); refine zav (some 13) rfl rfl Try.func33 (by kernel_rfl) rfl #[.agg #[.string ((zal l0 x7_1).f0), .int .i64 ((zal l0 x7_1).f1), .slice A131_2 ((zal l0 x7_1).f2).length c131_2]] rfl (by (try simp only [List.map_toArray, List.map_cons, List.map_nil]); first | done | rfl | (simp only [List.length_drop, List.length_take]; rfl)) ?_; (with_reducible refine (schema_May.calls ((zal l0 x7_1).f0) ((zal l0 x7_1).f1) _ _ ((zal l0 x7_1).f2) true _ ?side1 ?side2 A5.out).mono ?_); (case side1 => exact Kd.C_below HR131_2.out (by repeat (first | (with_reducible first | exact HB.out | apply zaa | apply zac | apply zae | refine zaf ?_ GE132.out) | exact HB.out))); (case side2 => exact HC131_2.out); rintro e w11 ⟨rfl, hb⟩; refine ⟨_, rfl, ?_⟩; have n0_ := Aside0.mk (zak (g := gb132) (o := .cells #[.string ((zal l0 x7_1).f0), .int .i64 ((zal l0 x7_1).f1), .slice A131_2 ((zal l0 x7_1).f2).length c131_2] 43 (0, 0)) (by (with_reducible repeat (first | refine zai ?_ _ | refine zaj ?_ | refine zag ?_ _)); refine zas (cs := #[.string ((zal l0 x7_1).f0), .int .i64 ((zal l0 x7_1).f1), .slice none 0 0]) ?_ 2 _ rfl; (with_reducible repeat (first | refine zai ?_ _ | refine zaj ?_ | refine zag ?_ _)); refine zas (cs := #[.string ((zal l0 x7_1).f0), .int .i64 0, .slice none 0 0]) ?_ 1 _ rfl; (with_reducible repeat (first | refine zai ?_ _ | refine zaj ?_ | refine zag ?_ _)); refine zas (cs := #[.string (⟨#[]⟩ : ByteArray), .int .i64 0, .slice none 0 0]) ?_ 0 _ rfl; (with_reducible repeat (first | refine zai ?_ _ | refine zaj ?_ | refine zag ?_ _)); exact BK132.out) hb); have n1_ := Aside0.mk (zah (by repeat (first | (with_reducible first | exact HB.out | apply zaa | apply zac | apply zae | refine zaf ?_ GE132.out) | exact HB.out)) hb); clear BK132; clear HB; have BK132 := n0_; have HB := n1_; clear n0_ n1_; (try clear hb); (try clear hb2); (try clear hk); (try clear hi); have hcz12_0 : w11.cell? ⟨gb132, 0, none⟩ = some (.string ((zal l0 x7_1).f0)) := (zad BK132.out 0).trans rfl; have hcz12_1 : w11.cell? ⟨gb132, 1, none⟩ = some (.int .i64 ((zal l0 x7_1).f1)) := (zad BK132.out 1).trans rfl; have hcz12_2 : w11.cell? ⟨gb132, 2, none⟩ = some (.slice A131_2 ((zal l0 x7_1).f2).length c131_2) := (zad BK132.out 2).trans rfl; have hfz12_0 := zab BK132.out 0; have hfz12_1 := zab BK132.out 1; have hfz12_2 := zab BK132.out 2) | (go_at_call 34; (with_reducible refine (registry_at.calls _ _ l0 ((zal l0 x7_1).f0) t134 _ ?side1 ?side2 A7.out).mono ?_); (case side1 => repeat (first | exact (Kd.C_below HR0.out HB.out) | (with_reducible refine Kd.C_alloc ?_ _) | (with_reducible refine Kd.C_drewN ?_ _) | (with_reducible refine Kd.C_drew ?_))); (case side2 => exact HC0.out); rintro e w13 ⟨rfl, hb⟩; have n0_ := Aside0.mk (zak (g := gb132) (o := .cells #[.string ((zal l0 x7_1).f0), .int .i64 ((zal l0 x7_1).f1), .slice A131_2 ((zal l0 x7_1).f2).length c131_2] 43 (0, 0)) (by (with_reducible repeat (first | refine zai ?_ _ | refine zaj ?_ | refine zag ?_ _)); exact BK132.out) hb); have n1_ := Aside0.mk (zah (by repeat (first | (with_reducible first | exact HB.out | apply zaa | apply zac | apply zae | refine zaf ?_ GE132.out) | exact HB.out)) hb); clear BK132; clear HB; have BK132 := n0_; have HB := n1_; clear n0_ n1_; (try clear hb); (try clear hb2); (try clear hk); (try clear hi)))
        go_roundg k1
        case measure => have := HK1.out; omega
        case rel => exact ⟨(wrap64 (x7_1 + 1)), (by first | rfl | (simp; done) | (simp [*]; done)), H', ⟨by have := HK1.out; omega⟩, ⟨by repeat (first | (with_reducible first | exact HB.out | apply zaa | apply zac | apply zae | refine zaf ?_ GE132.out) | exact HB.out)⟩⟩
       ·rw [if_neg c8] at H
        have c8b0 : (t134 == x7_1) = false := beq_eq_false_iff_ne.mpr c8
        have c8b1 : (t134 != x7_1) = true := bne_iff_ne.mpr c8
        obtain rfl := Option.some.inj H
        have p131 : 0 ≤ (x7_1 : Int) := of_decide_eq_true (by first | (with_reducible assumption) | assumption)
        have q131 : x7_1 < (l0.length : Int) := of_decide_eq_true (by first | (with_reducible assumption) | assumption)
        obtain ⟨ad131, A131_2, c131_2, e131, hx131_0, hx131_1, hx131_2, hl131_2, hi131_2⟩ := zbl HR0.out x7_1 p131 q131
        cases e131
        replace hx131_0 := (HB.out.cell (World.block_lt_of_cell? w _ hx131_0)).trans hx131_0
        replace hx131_1 := (HB.out.cell (World.block_lt_of_cell? w _ hx131_1)).trans hx131_1
        replace hx131_2 := (HB.out.cell (World.block_lt_of_cell? w _ hx131_2)).trans hx131_2
        have HR131_2 := Aside0.mk hi131_2
        have HC131_2 := Aside0.mk hl131_2
        clear hi131_2 hl131_2
        replace p131 := eq_true p131
        replace q131 := eq_true q131
        go_wp2_with (first | ((with_reducible refine zat (N := 4) rfl ?_); refine zar ?hg (N := 4) ?hd (cs := #[.string (⟨#[]⟩ : ByteArray), .int .i64 0, .slice none 0 0]) (t := 43) ?hr ?_; (case hd => rfl); (case hg => rfl); (case hr => first | (go_simp; done) | (go_simp; rfl)); intro gb132 hg w14 hbox hb; have n0_ := Aside0.mk (zah (by repeat (first | (with_reducible first | exact HB.out | apply zaa | apply zac | apply zae) | exact HB.out)) hb); have n1_ := Aside0.mk (hbox); have n2_ := Aside0.mk ((by rw [hg]; exact (zan (by repeat (first | (with_reducible first | exact HB.out | apply zaa | apply zac | apply zae) | exact HB.out))) : w.heap.size ≤ gb132)); have n3_ := Aside0.mk ((by rw [hg]; exact (zan (by repeat (first | (with_reducible first | exact HB.out | apply zaa | apply zac | apply zae) | exact HB.out))) : w.heap.size ≤ gb132)); clear HB; have HB := n0_; have BK132 := n1_; have GW132 := n2_; have GE132 := n3_; clear n0_ n1_ n2_ n3_; clear hb hbox hg; have hcz15_0 : w14.cell? ⟨gb132, 0, none⟩ = some (.string (⟨#[]⟩ : ByteArray)) := (zad BK132.out 0).trans rfl; have hcz15_1 : w14.cell? ⟨gb132, 1, none⟩ = some (.int .i64 0) := (zad BK132.out 1).trans rfl; have hcz15_2 : w14.cell? ⟨gb132, 2, none⟩ = some (.slice none 0 0) := (zad BK132.out 2).trans rfl; have hfz15_0 := zab BK132.out 0; have hfz15_1 := zab BK132.out 1; have hfz15_2 := zab BK132.out 2) | ((with_reducible refine zaq (f := 33) rfl ?_); refine zav (some 13) rfl rfl Try.func33 (by kernel_rfl) rfl #[.agg #[.string ((zal l0 x7_1).f0), .int .i64 ((zal l0 x7_1).f1), .slice A131_2 ((zal l0 x7_1).f2).length c131_2]] rfl (by (try simp only [List.map_toArray, List.map_cons, List.map_nil]); first | done | rfl | (simp only [List.length_drop, List.length_take]; rfl)) ?_; (with_reducible refine (schema_May.calls ((zal l0 x7_1).f0) ((zal l0 x7_1).f1) _ _ ((zal l0 x7_1).f2) true _ ?side1 ?side2 A5.out).mono ?_); (case side1 => exact Kd.C_below HR131_2.out (by repeat (first | (with_reducible first | exact HB.out | apply zaa | apply zac | apply zae | refine zaf ?_ GE132.out) | exact HB.out))); (case side2 => exact HC131_2.out); rintro e w16 ⟨rfl, hb⟩; refine ⟨_, rfl, ?_⟩; have n0_ := Aside0.mk (zak (g := gb132) (o := .cells #[.string ((zal l0 x7_1).f0), .int .i64 ((zal l0 x7_1).f1), .slice A131_2 ((zal l0 x7_1).f2).length c131_2] 43 (0, 0)) (by (with_reducible repeat (first | refine zai ?_ _ | refine zaj ?_ | refine zag ?_ _)); refine zas (cs := #[.string ((zal l0 x7_1).f0), .int .i64 ((zal l0 x7_1).f1), .slice none 0 0]) ?_ 2 _ rfl; (with_reducible repeat (first | refine zai ?_ _ | refine zaj ?_ | refine zag ?_ _)); refine zas (cs := #[.string ((zal l0 x7_1).f0), .int .i64 0, .slice none 0 0]) ?_ 1 _ rfl; (with_reducible repeat (first | refine zai ?_ _ | refine zaj ?_ | refine zag ?_ _)); refine zas (cs := #[.string (⟨#[]⟩ : ByteArray), .int .i64 0, .slice none 0 0]) ?_ 0 _ rfl; (with_reducible repeat (first | refine zai ?_ _ | refine zaj ?_ | refine zag ?_ _)); exact BK132.out) hb); have n1_ := Aside0.mk (zah (by repeat (first | (with_reducible first | exact HB.out | apply zaa | apply zac | apply zae | refine zaf ?_ GE132.out) | exact HB.out)) hb); clear BK132; clear HB; have BK132 := n0_; have HB := n1_; clear n0_ n1_; (try clear hb); (try clear hb2); (try clear hk); (try clear hi); have hcz17_0 : w16.cell? ⟨gb132, 0, none⟩ = some (.string ((zal l0 x7_1).f0)) := (zad BK132.out 0).trans rfl; have hcz17_1 : w16.cell? ⟨gb132, 1, none⟩ = some (.int .i64 ((zal l0 x7_1).f1)) := (zad BK132.out 1).trans rfl; have hcz17_2 : w16.cell? ⟨gb132, 2, none⟩ = some (.slice A131_2 ((zal l0 x7_1).f2).length c131_2) := (zad BK132.out 2).trans rfl; have hfz17_0 := zab BK132.out 0; have hfz17_1 := zab BK132.out 1; have hfz17_2 := zab BK132.out 2) | (go_at_call 34; (with_reducible refine (registry_at.calls _ _ l0 ((zal l0 x7_1).f0) t134 _ ?side1 ?side2 A7.out).mono ?_); (case side1 => repeat (first | exact (Kd.C_below HR0.out HB.out) | (with_reducible refine Kd.C_alloc ?_ _) | (with_reducible refine Kd.C_drewN ?_ _) | (with_reducible refine Kd.C_drew ?_))); (case side2 => exact HC0.out); rintro e w18 ⟨rfl, hb⟩; have n0_ := Aside0.mk (zak (g := gb132) (o := .cells #[.string ((zal l0 x7_1).f0), .int .i64 ((zal l0 x7_1).f1), .slice A131_2 ((zal l0 x7_1).f2).length c131_2] 43 (0, 0)) (by (with_reducible repeat (first | refine zai ?_ _ | refine zaj ?_ | refine zag ?_ _)); exact BK132.out) hb); have n1_ := Aside0.mk (zah (by repeat (first | (with_reducible first | exact HB.out | apply zaa | apply zac | apply zae | refine zaf ?_ GE132.out) | exact HB.out)) hb); clear BK132; clear HB; have BK132 := n0_; have HB := n1_; clear n0_ n1_; (try clear hb); (try clear hb2); (try clear hk); (try clear hi)))
        go_ret
        exact ⟨by first | rfl | (simp [zap, zao] <;> rfl) | (simp [*, zap, zao] <;> rfl), by repeat (first | (with_reducible first | exact HB.out | apply zaa | apply zac | apply zae | refine zaf ?_ GE132.out) | exact HB.out)⟩
      ·replace c6 := Bool.eq_false_iff.mpr c6
       subst c6
       have H1 : (some false) = some r := by rw [if_neg (show ¬ (false = true) by decide)] at H; exact H
       clear H
       have H := H1
       clear H1
       obtain rfl := Option.some.inj H
       have p131 : 0 ≤ (x7_1 : Int) := of_decide_eq_true (by first | (with_reducible assumption) | assumption)
       have q131 : x7_1 < (l0.length : Int) := of_decide_eq_true (by first | (with_reducible assumption) | assumption)
       obtain ⟨ad131, A131_2, c131_2, e131, hx131_0, hx131_1, hx131_2, hl131_2, hi131_2⟩ := zbl HR0.out x7_1 p131 q131
       cases e131
       replace hx131_0 := (HB.out.cell (World.block_lt_of_cell? w _ hx131_0)).trans hx131_0
       replace hx131_1 := (HB.out.cell (World.block_lt_of_cell? w _ hx131_1)).trans hx131_1
       replace hx131_2 := (HB.out.cell (World.block_lt_of_cell? w _ hx131_2)).trans hx131_2
       have HR131_2 := Aside0.mk hi131_2
       have HC131_2 := Aside0.mk hl131_2
       clear hi131_2 hl131_2
       replace p131 := eq_true p131
       replace q131 := eq_true q131
       go_wp2_with (first | ((with_reducible refine zat (N := 4) rfl ?_); refine zar ?hg (N := 4) ?hd (cs := #[.string (⟨#[]⟩ : ByteArray), .int .i64 0, .slice none 0 0]) (t := 43) ?hr ?_; (case hd => rfl); (case hg => rfl); (case hr => first | (go_simp; done) | (go_simp; rfl)); intro gb132 hg w19 hbox hb; have n0_ := Aside0.mk (zah (by repeat (first | (with_reducible first | exact HB.out | apply zaa | apply zac | apply zae) | exact HB.out)) hb); have n1_ := Aside0.mk (hbox); have n2_ := Aside0.mk ((by rw [hg]; exact (zan (by repeat (first | (with_reducible first | exact HB.out | apply zaa | apply zac | apply zae) | exact HB.out))) : w.heap.size ≤ gb132)); have n3_ := Aside0.mk ((by rw [hg]; exact (zan (by repeat (first | (with_reducible first | exact HB.out | apply zaa | apply zac | apply zae) | exact HB.out))) : w.heap.size ≤ gb132)); clear HB; have HB := n0_; have BK132 := n1_; have GW132 := n2_; have GE132 := n3_; clear n0_ n1_ n2_ n3_; clear hb hbox hg; have hcz20_0 : w19.cell? ⟨gb132, 0, none⟩ = some (.string (⟨#[]⟩ : ByteArray)) := (zad BK132.out 0).trans rfl; have hcz20_1 : w19.cell? ⟨gb132, 1, none⟩ = some (.int .i64 0) := (zad BK132.out 1).trans rfl; have hcz20_2 : w19.cell? ⟨gb132, 2, none⟩ = some (.slice none 0 0) := (zad BK132.out 2).trans rfl; have hfz20_0 := zab BK132.out 0; have hfz20_1 := zab BK132.out 1; have hfz20_2 := zab BK132.out 2) | ((with_reducible refine zaq (f := 33) rfl ?_); refine zav (some 13) rfl rfl Try.func33 (by kernel_rfl) rfl #[.agg #[.string ((zal l0 x7_1).f0), .int .i64 ((zal l0 x7_1).f1), .slice A131_2 ((zal l0 x7_1).f2).length c131_2]] rfl (by (try simp only [List.map_toArray, List.map_cons, List.map_nil]); first | done | rfl | (simp only [List.length_drop, List.length_take]; rfl)) ?_; (with_reducible refine (schema_May.calls ((zal l0 x7_1).f0) ((zal l0 x7_1).f1) _ _ ((zal l0 x7_1).f2) false _ ?side1 ?side2 A5.out).mono ?_); (case side1 => exact Kd.C_below HR131_2.out (by repeat (first | (with_reducible first | exact HB.out | apply zaa | apply zac | apply zae | refine zaf ?_ GE132.out) | exact HB.out))); (case side2 => exact HC131_2.out); rintro e w21 ⟨rfl, hb⟩; refine ⟨_, rfl, ?_⟩; have n0_ := Aside0.mk (zak (g := gb132) (o := .cells #[.string ((zal l0 x7_1).f0), .int .i64 ((zal l0 x7_1).f1), .slice A131_2 ((zal l0 x7_1).f2).length c131_2] 43 (0, 0)) (by (with_reducible repeat (first | refine zai ?_ _ | refine zaj ?_ | refine zag ?_ _)); refine zas (cs := #[.string ((zal l0 x7_1).f0), .int .i64 ((zal l0 x7_1).f1), .slice none 0 0]) ?_ 2 _ rfl; (with_reducible repeat (first | refine zai ?_ _ | refine zaj ?_ | refine zag ?_ _)); refine zas (cs := #[.string ((zal l0 x7_1).f0), .int .i64 0, .slice none 0 0]) ?_ 1 _ rfl; (with_reducible repeat (first | refine zai ?_ _ | refine zaj ?_ | refine zag ?_ _)); refine zas (cs := #[.string (⟨#[]⟩ : ByteArray), .int .i64 0, .slice none 0 0]) ?_ 0 _ rfl; (with_reducible repeat (first | refine zai ?_ _ | refine zaj ?_ | refine zag ?_ _)); exact BK132.out) hb); have n1_ := Aside0.mk (zah (by repeat (first | (with_reducible first | exact HB.out | apply zaa | apply zac | apply zae | refine zaf ?_ GE132.out) | exact HB.out)) hb); clear BK132; clear HB; have BK132 := n0_; have HB := n1_; clear n0_ n1_; (try clear hb); (try clear hb2); (try clear hk); (try clear hi)))
       go_ret
       exact ⟨by first | rfl | (simp [zap, zao] <;> rfl) | (simp [*, zap, zao] <;> rfl), by repeat (first | (with_reducible first | exact HB.out | apply zaa | apply zac | apply zae | refine zaf ?_ GE132.out) | exact HB.out)⟩
     ·rw [if_neg c4] at H
      exact absurd H (by simp)
    ·rw [if_neg c3] at H
     exact absurd H (by simp)
   ·rw [if_neg c2] at H
    have c2b0 : decide (x7_1 < (l0.length : Int)) = false := decide_eq_false c2
    clear c2
    obtain rfl := Option.some.inj H
    go_wp2
    go_ret
    exact ⟨by first | rfl | (simp [zap, zao] <;> rfl) | (simp [*, zap, zao] <;> rfl), by repeat (first | (with_reducible first | exact HB.out | apply zaa | apply zac | apply zae) | exact HB.out)⟩
def slices_Clone_api_Field.f (l0 : List (SField)) : Option (List (SField)) := if l0.length < 5864062014805 then some l0 else none
set_option maxHeartbeats 400000 in
theorem slices_Clone_api_Field.calls (A0 : Option Addr) (c0 : Nat) (l0 : List (SField)) (r : List (SField)) (w : World) (hr0 : Kd.C kField w A0 l0.length l0) (hc0 : l0.length ≤ c0) (h : slices_Clone_api_Field.f l0 = some r) :
  Calls Try.prog 56 #[.slice A0 l0.length c0] w fun e w' => ∃ v0_ : Value, e = .returned v0_ ∧ Kd.R kField 67 w' w.heap.size (fun _ => True) v0_ r ∧ Below w.heap.size w w' := by
 unfold slices_Clone_api_Field.f at h
 by_cases hm : l0.length < 5864062014805
 ·rw [if_pos hm] at h
  obtain rfl := Option.some.inj h
  clear h
  show Calls _ _ _ _ (rowPost kField 67 l0 w)
  have hu := Try.underlying41
  cases A0 with
  | none =>
   obtain rfl := C_none hr0
   have hq := fun (W : World) (c : Nat) => Go.Lib.run_eql_slice_nil (P := Try.prog) W 41 67 none 0 c 0 0 hu
   go_enter Try.func56, Try.ntmps56
   go_wp2
   go_ret
   exact ⟨_, rfl, Kd.R_nil _ _ _ _ _, Below.refl _ _⟩
  | some ad =>
   have HR := Aside0.mk hr0
   clear hr0
   have hq := fun (W : World) (m c : Nat) => Go.Lib.run_eql_slice_nil (P := Try.prog) W 41 67 (some ad) m c 0 0 hu
   go_enter Try.func56, Try.ntmps56
   go_wp2_with ((with_reducible refine zaD (b := .append) (xs := #[.tmp 5, .tmp 6]) rfl ?_); at_builtin; refine Kd.R_append_rows kField (Rr := Kd.K kField (w.alloc (.cells #[] 67))) (w0 := w) w.heap.size rfl (.tmp 5) (.tmp 6) 41 67 (.agg #[(.string ⟨#[]⟩), (.int .i64 0)]) 24 rfl Try.underlying41 infoField rfl (by decide) (by omega) (.slice (some ⟨w.heap.size, 0, none⟩) 0 0) [] l0 (some ad) l0.length c0 (fun _ => True) (fun _ => False) rfl rfl ?aO ?aR ?aK (fun _ h => h.elim) (fun _ _ => trivial) ?aB ?aS ?aL ?_; (case aO => exact Kd.R_empty _ _ _ _ (Nat.le_refl _)); (case aR => exact Kd.C_below HR.out ((Below.refl _ _).alloc (Nat.le_refl _) _)); (case aB => exact (Below.refl _ _).alloc (Nat.le_refl _) _); (case aK => exact (fun x cs h => by obtain rfl := kField_open h; exact kField_mkM _ _ _ x)); (case aS => simp); (case aL => simp; omega); intro v1 w2 ho hb hg hat)
   have HO := Aside0.mk ho
   clear ho hg hat
   go_wp2
   go_ret
   exact ⟨_, rfl, HO.out, hb⟩
 ·rw [if_neg hm] at h
  exact absurd h (by simp)
def registry_own.f (a0_0 : ByteArray) (a0_1 : Int) (l0_2 : List (SField)) : Option (ByteArray × Int × (List (SField))) := (slices_Clone_api_Field.f l0_2).bind fun t137 => (some (a0_0, a0_1, t137))
set_option maxHeartbeats 8000000 in
set_option maxRecDepth 100000 in
theorem registry_own.calls (a0_0 : ByteArray) (a0_1 : Int) (A0_2 : Option Addr) (c0_2 : Nat) (l0_2 : List (SField)) (r1 : ByteArray) (r2 : Int) (r3 : List (SField)) (w : World) (hr0_2 : Kd.C kField w A0_2 l0_2.length l0_2) (hc0_2 : l0_2.length ≤ c0_2) (h : registry_own.f a0_0 a0_1 l0_2 = some (r1, r2, r3)) :
  Calls Try.prog 37 #[.agg #[.string a0_0, .int .i64 a0_1, .slice A0_2 l0_2.length c0_2]] w fun e w' => ∃ v2_ : Value, e = .returned (.agg #[.string r1, .int .i64 r2, v2_]) ∧ Kd.R kField 67 w' w.heap.size (fun _ => True) v2_ r3 ∧ Below w.heap.size w w' := by
 have hu43 := Try.underlying43
 have HR0_2 := Aside0.mk hr0_2
 have HC0_2 := Aside0.mk hc0_2
 clear hr0_2 hc0_2
 have HB := Aside0.mk (Below.refl w.heap.size w)
 have H : ((slices_Clone_api_Field.f l0_2).bind fun t137 => (some (a0_0, a0_1, t137))) = some (r1, r2, r3) := h
 clear h
 replace H := Option.bind_eq_some_iff.mp H
 obtain ⟨t137, A20, H⟩ := H
 replace H : (some (a0_0, a0_1, t137)) = some (r1, r2, r3) := H
 have A2 := Aside0.mk A20
 clear A20
 simp only [Option.some.injEq, Prod.mk.injEq] at H
 obtain ⟨rfl, rfl, rfl⟩ := H
 go_enter Try.func37, Try.ntmps37
 go_wp2_with (first | ((with_reducible refine zat (N := 1) rfl ?_); refine zar ?hg (N := 1) ?hd (cs := #[.string a0_0, .int .i64 a0_1, .slice A0_2 l0_2.length c0_2]) (t := 43) ?hr ?_; (case hd => rfl); (case hg => rfl); (case hr => first | (go_simp; done) | (go_simp; rfl)); intro gb135 hg w3 hbox hb; have n0_ := Aside0.mk (zah (by repeat (first | (with_reducible first | exact HB.out | apply zaa | apply zac | apply zae) | exact HB.out)) hb); have n1_ := Aside0.mk (hbox); have n2_ := Aside0.mk ((by rw [hg]; exact (zan (by repeat (first | (with_reducible first | exact HB.out | apply zaa | apply zac | apply zae) | exact HB.out))) : w.heap.size ≤ gb135)); have n3_ := Aside0.mk ((by rw [hg]; exact (zan (by repeat (first | (with_reducible first | exact HB.out | apply zaa | apply zac | apply zae) | exact HB.out))) : w.heap.size ≤ gb135)); clear HB; have HB := n0_; have BK135 := n1_; have GW135 := n2_; have GE135 := n3_; clear n0_ n1_ n2_ n3_; clear hb hbox hg) | ((with_reducible refine zat (N := 2) rfl ?_); refine zar ?hg (N := 2) ?hd (cs := #[.string (⟨#[]⟩ : ByteArray), .int .i64 0, .slice none 0 0]) (t := 43) ?hr ?_; (case hd => rfl); (case hg => rfl); (case hr => first | (go_simp; done) | (go_simp; rfl)); intro gb136 hg w4 hbox hb; have n0_ := Aside0.mk (zak (g := gb135) (o := .cells #[.string a0_0, .int .i64 a0_1, .slice A0_2 l0_2.length c0_2] 43 (0, 0)) (by (with_reducible repeat (first | refine zai ?_ _ | refine zaj ?_ | refine zag ?_ _)); exact BK135.out) hb); have n1_ := Aside0.mk (zah (by repeat (first | (with_reducible first | exact HB.out | apply zaa | apply zac | apply zae | refine zaf ?_ GE135.out) | exact HB.out)) hb); have n2_ := Aside0.mk (hbox); have n3_ := Aside0.mk ((by rw [hg]; exact (zan (by repeat (first | (with_reducible first | exact HB.out | apply zaa | apply zac | apply zae | refine zaf ?_ GE135.out) | exact HB.out))) : w.heap.size ≤ gb136)); have n4_ := Aside0.mk ((by rw [hg]; exact (zan (by repeat (first | (with_reducible first | exact HB.out | apply zaa | apply zac | apply zae | refine zaf ?_ GE135.out) | exact HB.out))) : w.heap.size ≤ gb136)); have n5_ := Aside0.mk ((by rw [hg]; exact Nat.ne_of_lt (zay (g := gb135) (o := .cells #[.string a0_0, .int .i64 a0_1, .slice A0_2 l0_2.length c0_2] 43 (0, 0)) (by (with_reducible repeat (first | refine zai ?_ _ | refine zaj ?_ | refine zag ?_ _)); exact BK135.out)) : gb135 ≠ gb136)); have n6_ := Aside0.mk ((by rw [hg]; exact Nat.ne_of_gt (zay (g := gb135) (o := .cells #[.string a0_0, .int .i64 a0_1, .slice A0_2 l0_2.length c0_2] 43 (0, 0)) (by (with_reducible repeat (first | refine zai ?_ _ | refine zaj ?_ | refine zag ?_ _)); exact BK135.out)) : gb136 ≠ gb135)); clear BK135; clear HB; have BK135 := n0_; have HB := n1_; have BK136 := n2_; have GW136 := n3_; have GE136 := n4_; have NB135_136 := n5_; have NB136_135 := n6_; clear n0_ n1_ n2_ n3_ n4_ n5_ n6_; clear hb hbox hg; have hnb5 := NB135_136.out; have hnc5 := NB136_135.out; have hcz6_0 : w4.cell? ⟨gb135, 0, none⟩ = some (.string a0_0) := (zad BK135.out 0).trans rfl; have hcz6_1 : w4.cell? ⟨gb135, 1, none⟩ = some (.int .i64 a0_1) := (zad BK135.out 1).trans rfl; have hcz6_2 : w4.cell? ⟨gb135, 2, none⟩ = some (.slice A0_2 l0_2.length c0_2) := (zad BK135.out 2).trans rfl; have hfz6_0 := zab BK135.out 0; have hfz6_1 := zab BK135.out 1; have hfz6_2 := zab BK135.out 2) | ((with_reducible refine zaq (f := 56) rfl ?_); refine zav (some 5) rfl rfl Try.func56 (by kernel_rfl) rfl #[.slice A0_2 l0_2.length c0_2] rfl (by (try simp only [List.map_toArray, List.map_cons, List.map_nil]); first | done | rfl | (simp only [List.length_drop, List.length_take]; rfl)) ?_; (with_reducible refine (slices_Clone_api_Field.calls _ _ l0_2 t137 _ ?side1 ?side2 A2.out).mono ?_); (case side1 => repeat (first | exact (Kd.C_below HR0_2.out HB.out) | (with_reducible refine Kd.C_alloc ?_ _) | (with_reducible refine Kd.C_drewN ?_ _) | (with_reducible refine Kd.C_drew ?_))); (case side2 => exact HC0_2.out); rintro e w7 ⟨v138, rfl, ho0, hb⟩; refine ⟨_, rfl, ?_⟩; have n0_ := Aside0.mk (Kd.R_lower ho0 (zan (by repeat (first | (with_reducible first | exact HB.out | apply zaa | apply zac | apply zae | refine zaf ?_ GE135.out | refine zaf ?_ GE136.out) | exact HB.out)))); have n1_ := Aside0.mk (zak (g := gb135) (o := .cells #[.string a0_0, .int .i64 a0_1, .slice A0_2 l0_2.length c0_2] 43 (0, 0)) (by (with_reducible repeat (first | refine zai ?_ _ | refine zaj ?_ | refine zag ?_ _)); exact BK135.out) hb); have n2_ := Aside0.mk (zak (g := gb136) (o := .cells #[.string (⟨#[]⟩ : ByteArray), .int .i64 0, .slice none 0 0] 43 (0, 0)) (by (with_reducible repeat (first | refine zai ?_ _ | refine zaj ?_ | refine zag ?_ _)); exact BK136.out) hb); have n3_ := Aside0.mk (zah (by repeat (first | (with_reducible first | exact HB.out | apply zaa | apply zac | apply zae | refine zaf ?_ GE135.out | refine zaf ?_ GE136.out) | exact HB.out)) hb); clear BK135; clear BK136; clear HB; have HO139 := n0_; have BK135 := n1_; have BK136 := n2_; have HB := n3_; clear n0_ n1_ n2_ n3_; (try clear hb); (try clear hb2); (try clear hk); (try clear hi); (try clear ho0); obtain ⟨Ao8, co8, eo8⟩ := Kd.R_slice HO139.out; subst eo8; have hcz9_0 : w7.cell? ⟨gb135, 0, none⟩ = some (.string a0_0) := (zad BK135.out 0).trans rfl; have hcz9_1 : w7.cell? ⟨gb135, 1, none⟩ = some (.int .i64 a0_1) := (zad BK135.out 1).trans rfl; have hcz9_2 : w7.cell? ⟨gb135, 2, none⟩ = some (.slice A0_2 l0_2.length c0_2) := (zad BK135.out 2).trans rfl; have hfz9_0 := zab BK135.out 0; have hfz9_1 := zab BK135.out 1; have hfz9_2 := zab BK135.out 2; have hcz10_0 : w7.cell? ⟨gb136, 0, none⟩ = some (.string (⟨#[]⟩ : ByteArray)) := (zad BK136.out 0).trans rfl; have hcz10_1 : w7.cell? ⟨gb136, 1, none⟩ = some (.int .i64 0) := (zad BK136.out 1).trans rfl; have hcz10_2 : w7.cell? ⟨gb136, 2, none⟩ = some (.slice none 0 0) := (zad BK136.out 2).trans rfl; have hfz10_0 := zab BK136.out 0; have hfz10_1 := zab BK136.out 1; have hfz10_2 := zab BK136.out 2))
 refine bodyPost_ret (results_cell_row rfl _ _ gb136 43 #[.string a0_0, .int .i64 a0_1, .slice Ao8 t137.length co8] (0, 0) _ rfl (by (with_reducible repeat (first | refine zai ?_ _ | refine zaj ?_ | refine zag ?_ _)); refine zas (cs := #[.string a0_0, .int .i64 a0_1, .slice none 0 0]) ?_ 2 _ rfl; (with_reducible repeat (first | refine zai ?_ _ | refine zaj ?_ | refine zag ?_ _)); refine zas (cs := #[.string a0_0, .int .i64 0, .slice none 0 0]) ?_ 1 _ rfl; (with_reducible repeat (first | refine zai ?_ _ | refine zaj ?_ | refine zag ?_ _)); refine zas (cs := #[.string (⟨#[]⟩ : ByteArray), .int .i64 0, .slice none 0 0]) ?_ 0 _ rfl; (with_reducible repeat (first | refine zai ?_ _ | refine zaj ?_ | refine zag ?_ _)); refine zaM ?_ NB136_135.out _; (with_reducible repeat (first | refine zai ?_ _ | refine zaj ?_ | refine zag ?_ _)); exact BK136.out) Try.underlying43 rfl (by kernel_rfl)) rfl ?_
 exact ⟨_, by first | rfl | (simp [zap, zao] <;> rfl) | (simp [*, zap, zao] <;> rfl), by (with_reducible repeat (first | apply Kd.R_alloc | apply Kd.R_drewN | apply Kd.R_drew)); exact Kd.R_mono (Kd.R_far (p := ⟨gb136, 2, none⟩) (Kd.R_far (p := ⟨gb136, 1, none⟩) (Kd.R_far (p := ⟨gb136, 0, none⟩) (Kd.R_far (p := ⟨gb135, 2, none⟩) (Kd.R_types (Kd.R_types HO139.out BK135.out (by decide)) BK136.out (by decide)) (fun _ hk => hk.1.2) (.slice Ao8 t137.length co8)) (fun _ hk => hk.2) (.string a0_0)) (fun _ hk => hk.2) (.int .i64 a0_1)) (fun _ hk => hk.2) (.slice Ao8 t137.length co8)) (fun _ hk => trivial), by repeat (first | (with_reducible first | exact HB.out | apply zaa | apply zac | apply zae | refine zaf ?_ GE135.out | refine zaf ?_ GE136.out) | exact HB.out)⟩
def registry_Find.f (l0 : List (SSchema)) (a1 : ByteArray) : Option (ByteArray × Int × (List (SField)) × Bool) := (registry_at.f l0 a1).bind fun t141 => (if t141 < 0 then (some ((⟨#[]⟩ : ByteArray), 0, ([] : List (SField)), false)) else (if 0 ≤ t141 then (if t141 < (l0.length : Int) then ((registry_own.f ((zal l0 t141).f0) ((zal l0 t141).f1) ((zal l0 t141).f2)).bind fun bt143 => (some (bt143.1, bt143.2.1, bt143.2.2, true))) else (none)) else (none)))
set_option maxHeartbeats 8000000 in
set_option maxRecDepth 100000 in
theorem registry_Find.calls (A0 : Option Addr) (c0 : Nat) (l0 : List (SSchema)) (a1 : ByteArray) (r1 : ByteArray) (r2 : Int) (r3 : List (SField)) (r4 : Bool) (w : World) (hr0 : Kd.C kSchema w A0 l0.length l0) (hc0 : l0.length ≤ c0) (h : registry_Find.f l0 a1 = some (r1, r2, r3, r4)) :
  Calls Try.prog 31 #[.slice A0 l0.length c0, .string a1] w fun e w' => ∃ v2_ : Value, e = .returned (.tuple #[.agg #[.string r1, .int .i64 r2, v2_], .bool r4]) ∧ Kd.R kField 67 w' w.heap.size (fun _ => True) v2_ r3 ∧ Below w.heap.size w w' := by
 have hu43 := Try.underlying43
 have HR0 := Aside0.mk hr0
 have HC0 := Aside0.mk hc0
 clear hr0 hc0
 have HB := Aside0.mk (Below.refl w.heap.size w)
 have H : ((registry_at.f l0 a1).bind fun t141 => (if t141 < 0 then (some ((⟨#[]⟩ : ByteArray), 0, ([] : List (SField)), false)) else (if 0 ≤ t141 then (if t141 < (l0.length : Int) then ((registry_own.f ((zal l0 t141).f0) ((zal l0 t141).f1) ((zal l0 t141).f2)).bind fun bt143 => (some (bt143.1, bt143.2.1, bt143.2.2, true))) else (none)) else (none)))) = some (r1, r2, r3, r4) := h
 clear h
 replace H := Option.bind_eq_some_iff.mp H
 obtain ⟨t141, A30, H⟩ := H
 replace H : (if t141 < 0 then (some ((⟨#[]⟩ : ByteArray), 0, ([] : List (SField)), false)) else (if 0 ≤ t141 then (if t141 < (l0.length : Int) then ((registry_own.f ((zal l0 t141).f0) ((zal l0 t141).f1) ((zal l0 t141).f2)).bind fun bt143 => (some (bt143.1, bt143.2.1, bt143.2.2, true))) else (none)) else (none))) = some (r1, r2, r3, r4) := H
 have A3 := Aside0.mk A30
 clear A30
 by_cases c4 : t141 < 0
 ·rw [if_pos c4] at H
  have c4b0 : decide (t141 < 0) = true := decide_eq_true c4
  clear c4
  simp only [Option.some.injEq, Prod.mk.injEq] at H
  obtain ⟨rfl, rfl, rfl, rfl⟩ := H
  go_enter Try.func31, Try.ntmps31
  go_wp2_with (first | ((with_reducible refine zat (N := 4) rfl ?_); refine zar ?hg (N := 4) ?hd (cs := #[.string (⟨#[]⟩ : ByteArray), .int .i64 0, .slice none 0 0]) (t := 43) ?hr ?_; (case hd => rfl); (case hg => rfl); (case hr => first | (go_simp; done) | (go_simp; rfl)); intro gb140 hg w5 hbox hb; have n0_ := Aside0.mk (zah (by repeat (first | (with_reducible first | exact HB.out | apply zaa | apply zac | apply zae) | exact HB.out)) hb); have n1_ := Aside0.mk (hbox); have n2_ := Aside0.mk ((by rw [hg]; exact (zan (by repeat (first | (with_reducible first | exact HB.out | apply zaa | apply zac | apply zae) | exact HB.out))) : w.heap.size ≤ gb140)); have n3_ := Aside0.mk ((by rw [hg]; exact (zan (by repeat (first | (with_reducible first | exact HB.out | apply zaa | apply zac | apply zae) | exact HB.out))) : w.heap.size ≤ gb140)); clear HB; have HB := n0_; have BK140 := n1_; have GW140 := n2_; have GE140 := n3_; clear n0_ n1_ n2_ n3_; clear hb hbox hg) | ((with_reducible refine zaq (f := 34) rfl ?_); refine zav (some 9) rfl rfl Try.func34 (by kernel_rfl) rfl #[.slice A0 l0.length c0, .string a1] rfl (by (try simp only [List.map_toArray, List.map_cons, List.map_nil]); first | done | rfl | (simp only [List.length_drop, List.length_take]; rfl)) ?_; (with_reducible refine (registry_at.calls _ _ l0 a1 t141 _ ?side1 ?side2 A3.out).mono ?_); (case side1 => repeat (first | exact (Kd.C_below HR0.out HB.out) | (with_reducible refine Kd.C_alloc ?_ _) | (with_reducible refine Kd.C_drewN ?_ _) | (with_reducible refine Kd.C_drew ?_))); (case side2 => exact HC0.out); rintro e w6 ⟨rfl, hb⟩; refine ⟨_, rfl, ?_⟩; have n0_ := Aside0.mk (zak (g := gb140) (o := .cells #[.string (⟨#[]⟩ : ByteArray), .int .i64 0, .slice none 0 0] 43 (0, 0)) (by (with_reducible repeat (first | refine zai ?_ _ | refine zaj ?_ | refine zag ?_ _)); exact BK140.out) hb); have n1_ := Aside0.mk (zah (by repeat (first | (with_reducible first | exact HB.out | apply zaa | apply zac | apply zae | refine zaf ?_ GE140.out) | exact HB.out)) hb); clear BK140; clear HB; have BK140 := n0_; have HB := n1_; clear n0_ n1_; (try clear hb); (try clear hb2); (try clear hk); (try clear hi); have hcz7_0 : w6.cell? ⟨gb140, 0, none⟩ = some (.string (⟨#[]⟩ : ByteArray)) := (zad BK140.out 0).trans rfl; have hcz7_1 : w6.cell? ⟨gb140, 1, none⟩ = some (.int .i64 0) := (zad BK140.out 1).trans rfl; have hcz7_2 : w6.cell? ⟨gb140, 2, none⟩ = some (.slice none 0 0) := (zad BK140.out 2).trans rfl; have hfz7_0 := zab BK140.out 0; have hfz7_1 := zab BK140.out 1; have hfz7_2 := zab BK140.out 2))
  refine bodyPost_ret (results_ct rfl _ _ gb140 43 #[.string (⟨#[]⟩ : ByteArray), .int .i64 0, .slice none 0 0] (0, 0) _ rfl (by (with_reducible repeat (first | refine zai ?_ _ | refine zaj ?_ | refine zag ?_ _)); refine zas (cs := #[.string (⟨#[]⟩ : ByteArray), .int .i64 0, .slice none 0 0]) ?_ 2 _ rfl; (with_reducible repeat (first | refine zai ?_ _ | refine zaj ?_ | refine zag ?_ _)); refine zas (cs := #[.string (⟨#[]⟩ : ByteArray), .int .i64 0, .slice none 0 0]) ?_ 1 _ rfl; (with_reducible repeat (first | refine zai ?_ _ | refine zaj ?_ | refine zag ?_ _)); refine zas (cs := #[.string (⟨#[]⟩ : ByteArray), .int .i64 0, .slice none 0 0]) ?_ 0 _ rfl; (with_reducible repeat (first | refine zai ?_ _ | refine zaj ?_ | refine zag ?_ _)); exact BK140.out) Try.underlying43 rfl (by kernel_rfl)) rfl ?_
  exact ⟨_, by first | rfl | (simp [zap, zao] <;> rfl) | (simp [*, zap, zao] <;> rfl), by first | exact Kd.R_nil _ _ _ _ _ | exact Kd.N_nil _ _ _ _ _ | exact Kd.V_nil _ _ _ _ _ | exact Kd.Q_nil _ _ _ _ _ | exact Kd.S_nil _ _ _ _ _, by repeat (first | (with_reducible first | exact HB.out | apply zaa | apply zac | apply zae | refine zaf ?_ GE140.out) | exact HB.out)⟩
 ·rw [if_neg c4] at H
  have c4b0 : decide (t141 < 0) = false := decide_eq_false c4
  clear c4
  by_cases c8 : 0 ≤ t141
  ·rw [if_pos c8] at H
   have c8b0 : decide (0 ≤ t141) = true := decide_eq_true c8
   clear c8
   by_cases c9 : t141 < (l0.length : Int)
   ·rw [if_pos c9] at H
    have c9b0 : decide (t141 < (l0.length : Int)) = true := decide_eq_true c9
    clear c9
    replace H := Option.bind_eq_some_iff.mp H
    obtain ⟨⟨t143, t144, t145⟩, A100, H⟩ := H
    replace H : (some (t143, t144, t145, true)) = some (r1, r2, r3, r4) := H
    have A10 := Aside0.mk A100
    clear A100
    simp only [Option.some.injEq, Prod.mk.injEq] at H
    obtain ⟨rfl, rfl, rfl, rfl⟩ := H
    go_enter Try.func31, Try.ntmps31
    go_wp2_with (first | ((with_reducible refine zat (N := 4) rfl ?_); refine zar ?hg (N := 4) ?hd (cs := #[.string (⟨#[]⟩ : ByteArray), .int .i64 0, .slice none 0 0]) (t := 43) ?hr ?_; (case hd => rfl); (case hg => rfl); (case hr => first | (go_simp; done) | (go_simp; rfl)); intro gb140 hg w11 hbox hb; have n0_ := Aside0.mk (zah (by repeat (first | (with_reducible first | exact HB.out | apply zaa | apply zac | apply zae) | exact HB.out)) hb); have n1_ := Aside0.mk (hbox); have n2_ := Aside0.mk ((by rw [hg]; exact (zan (by repeat (first | (with_reducible first | exact HB.out | apply zaa | apply zac | apply zae) | exact HB.out))) : w.heap.size ≤ gb140)); have n3_ := Aside0.mk ((by rw [hg]; exact (zan (by repeat (first | (with_reducible first | exact HB.out | apply zaa | apply zac | apply zae) | exact HB.out))) : w.heap.size ≤ gb140)); clear HB; have HB := n0_; have BK140 := n1_; have GW140 := n2_; have GE140 := n3_; clear n0_ n1_ n2_ n3_; clear hb hbox hg) | ((with_reducible refine zaq (f := 34) rfl ?_); refine zav (some 9) rfl rfl Try.func34 (by kernel_rfl) rfl #[.slice A0 l0.length c0, .string a1] rfl (by (try simp only [List.map_toArray, List.map_cons, List.map_nil]); first | done | rfl | (simp only [List.length_drop, List.length_take]; rfl)) ?_; (with_reducible refine (registry_at.calls _ _ l0 a1 t141 _ ?side1 ?side2 A3.out).mono ?_); (case side1 => repeat (first | exact (Kd.C_below HR0.out HB.out) | (with_reducible refine Kd.C_alloc ?_ _) | (with_reducible refine Kd.C_drewN ?_ _) | (with_reducible refine Kd.C_drew ?_))); (case side2 => exact HC0.out); rintro e w12 ⟨rfl, hb⟩; refine ⟨_, rfl, ?_⟩; have n0_ := Aside0.mk (zak (g := gb140) (o := .cells #[.string (⟨#[]⟩ : ByteArray), .int .i64 0, .slice none 0 0] 43 (0, 0)) (by (with_reducible repeat (first | refine zai ?_ _ | refine zaj ?_ | refine zag ?_ _)); exact BK140.out) hb); have n1_ := Aside0.mk (zah (by repeat (first | (with_reducible first | exact HB.out | apply zaa | apply zac | apply zae | refine zaf ?_ GE140.out) | exact HB.out)) hb); clear BK140; clear HB; have BK140 := n0_; have HB := n1_; clear n0_ n1_; (try clear hb); (try clear hb2); (try clear hk); (try clear hi); have p142 : 0 ≤ (t141 : Int) := of_decide_eq_true (by first | (with_reducible assumption) | assumption); have q142 : t141 < (l0.length : Int) := of_decide_eq_true (by first | (with_reducible assumption) | assumption); obtain ⟨ad142, A142_2, c142_2, e142, hx142_0, hx142_1, hx142_2, hl142_2, hi142_2⟩ := zbl HR0.out t141 p142 q142; cases e142; replace hx142_0 := (HB.out.cell (World.block_lt_of_cell? w _ hx142_0)).trans hx142_0; replace hx142_1 := (HB.out.cell (World.block_lt_of_cell? w _ hx142_1)).trans hx142_1; replace hx142_2 := (HB.out.cell (World.block_lt_of_cell? w _ hx142_2)).trans hx142_2; have HR142_2 := Aside0.mk hi142_2; have HC142_2 := Aside0.mk hl142_2; clear hi142_2 hl142_2; replace p142 := eq_true p142; replace q142 := eq_true q142) | ((with_reducible refine zaq (f := 37) rfl ?_); refine zav (some 17) rfl rfl Try.func37 (by kernel_rfl) rfl #[.agg #[.string ((zal l0 t141).f0), .int .i64 ((zal l0 t141).f1), .slice A142_2 ((zal l0 t141).f2).length c142_2]] rfl (by (try simp only [List.map_toArray, List.map_cons, List.map_nil]); first | done | rfl | (simp only [List.length_drop, List.length_take]; rfl)) ?_; (with_reducible refine (registry_own.calls ((zal l0 t141).f0) ((zal l0 t141).f1) _ _ ((zal l0 t141).f2) t143 t144 t145 _ ?side1 ?side2 A10.out).mono ?_); (case side1 => repeat (first | exact (Kd.C_below HR142_2.out HB.out) | (with_reducible refine Kd.C_alloc ?_ _) | (with_reducible refine Kd.C_drewN ?_ _) | (with_reducible refine Kd.C_drew ?_))); (case side2 => exact HC142_2.out); rintro e w13 ⟨v146, rfl, ho0, hb⟩; refine ⟨_, rfl, ?_⟩; have n0_ := Aside0.mk (Kd.R_lower ho0 (zan (by repeat (first | (with_reducible first | exact HB.out | apply zaa | apply zac | apply zae | refine zaf ?_ GE140.out) | exact HB.out)))); have n1_ := Aside0.mk (zak (g := gb140) (o := .cells #[.string (⟨#[]⟩ : ByteArray), .int .i64 0, .slice none 0 0] 43 (0, 0)) (by (with_reducible repeat (first | refine zai ?_ _ | refine zaj ?_ | refine zag ?_ _)); exact BK140.out) hb); have n2_ := Aside0.mk (zah (by repeat (first | (with_reducible first | exact HB.out | apply zaa | apply zac | apply zae | refine zaf ?_ GE140.out) | exact HB.out)) hb); clear BK140; clear HB; have HO147 := n0_; have BK140 := n1_; have HB := n2_; clear n0_ n1_ n2_; (try clear hb); (try clear hb2); (try clear hk); (try clear hi); (try clear ho0); have hcz14_0 : w13.cell? ⟨gb140, 0, none⟩ = some (.string (⟨#[]⟩ : ByteArray)) := (zad BK140.out 0).trans rfl; have hcz14_1 : w13.cell? ⟨gb140, 1, none⟩ = some (.int .i64 0) := (zad BK140.out 1).trans rfl; have hcz14_2 : w13.cell? ⟨gb140, 2, none⟩ = some (.slice none 0 0) := (zad BK140.out 2).trans rfl; have hfz14_0 := zab BK140.out 0; have hfz14_1 := zab BK140.out 1; have hfz14_2 := zab BK140.out 2; obtain ⟨Ao15, co15, eo15⟩ := Kd.R_slice HO147.out; subst eo15))
    refine bodyPost_ret (results_ct rfl _ _ gb140 43 #[.string t143, .int .i64 t144, .slice Ao15 t145.length co15] (0, 0) _ rfl (by (with_reducible repeat (first | refine zai ?_ _ | refine zaj ?_ | refine zag ?_ _)); refine zas (cs := #[.string t143, .int .i64 t144, .slice none 0 0]) ?_ 2 _ rfl; (with_reducible repeat (first | refine zai ?_ _ | refine zaj ?_ | refine zag ?_ _)); refine zas (cs := #[.string t143, .int .i64 0, .slice none 0 0]) ?_ 1 _ rfl; (with_reducible repeat (first | refine zai ?_ _ | refine zaj ?_ | refine zag ?_ _)); refine zas (cs := #[.string (⟨#[]⟩ : ByteArray), .int .i64 0, .slice none 0 0]) ?_ 0 _ rfl; (with_reducible repeat (first | refine zai ?_ _ | refine zaj ?_ | refine zag ?_ _)); exact BK140.out) Try.underlying43 rfl (by kernel_rfl)) rfl ?_
    exact ⟨_, by first | rfl | (simp [zap, zao] <;> rfl) | (simp [*, zap, zao] <;> rfl), by (with_reducible repeat (first | apply Kd.R_alloc | apply Kd.R_drewN | apply Kd.R_drew)); exact Kd.R_mono (Kd.R_far (p := ⟨gb140, 2, none⟩) (Kd.R_far (p := ⟨gb140, 1, none⟩) (Kd.R_far (p := ⟨gb140, 0, none⟩) (Kd.R_types HO147.out BK140.out (by decide)) (fun _ hk => hk.2) (.string t143)) (fun _ hk => hk.2) (.int .i64 t144)) (fun _ hk => hk.2) (.slice Ao15 t145.length co15)) (fun _ hk => trivial), by repeat (first | (with_reducible first | exact HB.out | apply zaa | apply zac | apply zae | refine zaf ?_ GE140.out) | exact HB.out)⟩
   ·rw [if_neg c9] at H
    exact absurd H (by simp)
  ·rw [if_neg c8] at H
   exact absurd H (by simp)
def towncrierlaw07_Few.l0 : Nat → List (SSchema) → Int → Option (Bool)
 | 0, _, _ => none
 | k + 1, x0, x3 => if x3 < (x0.length : Int) then (if 0 ≤ x3 then ((towncrierlaw05_Few.f k ((zal x0 x3).f0) ((zal x0 x3).f1) ((zal x0 x3).f2)).bind fun t206 => (if t206 = true then (towncrierlaw07_Few.l0 k x0 (wrap64 (x3 + 1))) else (some false))) else (none)) else (some true)
def towncrierlaw07_Few.f (k : Nat) (l0 : List (SSchema)) : Option (Bool) := if (l0.length : Int) > 12 then (some false) else (towncrierlaw07_Few.l0 k l0 0)
set_option maxHeartbeats 8000000 in
set_option maxRecDepth 100000 in
theorem towncrierlaw07_Few.calls (k : Nat) (A0 : Option Addr) (c0 : Nat) (l0 : List (SSchema)) (r : Bool) (w : World) (hr0 : Kd.C kSchema w A0 l0.length l0) (hc0 : l0.length ≤ c0) (h : towncrierlaw07_Few.f k l0 = some r) :
  Calls Try.prog 14 #[.slice A0 l0.length c0] w fun e w' => e = .returned (.bool r) ∧ Below w.heap.size w w' := by
 have hu43 := Try.underlying43
 have HR0 := Aside0.mk hr0
 have HC0 := Aside0.mk hc0
 clear hr0 hc0
 have HB := Aside0.mk (Below.refl w.heap.size w)
 have H : (if (l0.length : Int) > 12 then (some false) else (towncrierlaw07_Few.l0 k l0 0)) = some r := h
 clear h
 by_cases c2 : (l0.length : Int) > 12
 ·rw [if_pos c2] at H
  have c2b0 : decide (12 < (l0.length : Int)) = true := decide_eq_true c2
  have c2b1 : decide (12 < l0.length) = true := decide_eq_true (by omega)
  clear c2
  obtain rfl := Option.some.inj H
  go_enter Try.func14, Try.ntmps14
  go_wp2
  go_ret
  exact ⟨by first | rfl | (simp [zap, zao] <;> rfl) | (simp [*, zap, zao] <;> rfl), by repeat (first | (with_reducible first | exact HB.out | apply zaa | apply zac | apply zae) | exact HB.out)⟩
 ·rw [if_neg c2] at H
  have c2b0 : decide (12 < (l0.length : Int)) = false := decide_eq_false c2
  have c2b1 : decide (12 < l0.length) = false := decide_eq_false (by omega)
  clear c2
  have H' := Aside0.mk H
  clear H
  go_enter Try.func14, Try.ntmps14
  go_wp2
  go_loopg [3] k (fun kq v3 w' => ∃ (x3_1 : Int), v3 = .int .i64 x3_1 ∧ Aside0 (towncrierlaw07_Few.l0 kq l0 x3_1 = some r) ∧ Aside0 (kq ≤ k) ∧ Aside0 (Below w.heap.size w w'))
  case atStart => exact ⟨(0), (by first | rfl | (simp; done) | (simp [*]; done)), H', ⟨Nat.le_refl _⟩, ⟨by repeat (first | (with_reducible first | exact HB.out | apply zaa | apply zac | apply zae) | exact HB.out)⟩⟩
  case round =>
   clear H'
   try clear c1
   try clear c2
   try clear c2b0
   try clear c2b1
   try clear p2
   obtain ⟨x3_1, rfl, HA, HK1, HB⟩ := hrel
   cases gk with
   | zero => exact absurd HA.out (by simp [towncrierlaw07_Few.l0])
   | succ k1 =>
    have H := HA.out
    clear HA
    simp only [towncrierlaw07_Few.l0] at H
    by_cases c3 : x3_1 < (l0.length : Int)
    ·rw [if_pos c3] at H
     have c3b0 : decide (x3_1 < (l0.length : Int)) = true := decide_eq_true c3
     clear c3
     by_cases c4 : 0 ≤ x3_1
     ·rw [if_pos c4] at H
      have c4b0 : decide (0 ≤ x3_1) = true := decide_eq_true c4
      clear c4
      replace H := Option.bind_eq_some_iff.mp H
      obtain ⟨t206, A50, H⟩ := H
      replace H : (if t206 = true then (towncrierlaw07_Few.l0 k1 l0 (wrap64 (x3_1 + 1))) else (some false)) = some r := H
      have A5 := Aside0.mk A50
      clear A50
      by_cases c6 : t206 = true
      ·subst c6
       have H1 : (towncrierlaw07_Few.l0 k1 l0 (wrap64 (x3_1 + 1))) = some r := by rw [if_pos rfl] at H; exact H
       clear H
       have H := H1
       clear H1
       have H' := Aside0.mk H
       clear H
       have p205 : 0 ≤ (x3_1 : Int) := of_decide_eq_true (by first | (with_reducible assumption) | assumption)
       have q205 : x3_1 < (l0.length : Int) := of_decide_eq_true (by first | (with_reducible assumption) | assumption)
       obtain ⟨ad205, A205_2, c205_2, e205, hx205_0, hx205_1, hx205_2, hl205_2, hi205_2⟩ := zbl HR0.out x3_1 p205 q205
       cases e205
       replace hx205_0 := (HB.out.cell (World.block_lt_of_cell? w _ hx205_0)).trans hx205_0
       replace hx205_1 := (HB.out.cell (World.block_lt_of_cell? w _ hx205_1)).trans hx205_1
       replace hx205_2 := (HB.out.cell (World.block_lt_of_cell? w _ hx205_2)).trans hx205_2
       have HR205_2 := Aside0.mk hi205_2
       have HC205_2 := Aside0.mk hl205_2
       clear hi205_2 hl205_2
       replace p205 := eq_true p205
       replace q205 := eq_true q205
       go_wp2_with (first | ((with_reducible refine zaq (f := 17) rfl ?_); refine zav (some 18) rfl rfl Try.func17 (by kernel_rfl) rfl #[.agg #[.string ((zal l0 x3_1).f0), .int .i64 ((zal l0 x3_1).f1), .slice A205_2 ((zal l0 x3_1).f2).length c205_2]] rfl (by (try simp only [List.map_toArray, List.map_cons, List.map_nil]); first | done | rfl | (simp only [List.length_drop, List.length_take]; rfl)) ?_; (with_reducible refine (towncrierlaw05_Few.calls k1 ((zal l0 x3_1).f0) ((zal l0 x3_1).f1) _ _ ((zal l0 x3_1).f2) true _ ?side1 ?side2 A5.out).mono ?_); (case side1 => repeat (first | exact (Kd.C_below HR205_2.out HB.out) | (with_reducible refine Kd.C_alloc ?_ _) | (with_reducible refine Kd.C_drewN ?_ _) | (with_reducible refine Kd.C_drew ?_))); (case side2 => exact HC205_2.out); rintro e w7 ⟨rfl, hb⟩; refine ⟨_, rfl, ?_⟩; have n0_ := Aside0.mk (zah (by repeat (first | (with_reducible first | exact HB.out | apply zaa | apply zac | apply zae) | exact HB.out)) hb); clear HB; have HB := n0_; clear n0_; (try clear hb); (try clear hb2); (try clear hk); (try clear hi)))
       go_roundg k1
       case measure => have := HK1.out; omega
       case rel => exact ⟨(wrap64 (x3_1 + 1)), (by first | rfl | (simp; done) | (simp [*]; done)), H', ⟨by have := HK1.out; omega⟩, ⟨by repeat (first | (with_reducible first | exact HB.out | apply zaa | apply zac | apply zae) | exact HB.out)⟩⟩
      ·replace c6 := Bool.eq_false_iff.mpr c6
       subst c6
       have H1 : (some false) = some r := by rw [if_neg (show ¬ (false = true) by decide)] at H; exact H
       clear H
       have H := H1
       clear H1
       obtain rfl := Option.some.inj H
       have p205 : 0 ≤ (x3_1 : Int) := of_decide_eq_true (by first | (with_reducible assumption) | assumption)
       have q205 : x3_1 < (l0.length : Int) := of_decide_eq_true (by first | (with_reducible assumption) | assumption)
       obtain ⟨ad205, A205_2, c205_2, e205, hx205_0, hx205_1, hx205_2, hl205_2, hi205_2⟩ := zbl HR0.out x3_1 p205 q205
       cases e205
       replace hx205_0 := (HB.out.cell (World.block_lt_of_cell? w _ hx205_0)).trans hx205_0
       replace hx205_1 := (HB.out.cell (World.block_lt_of_cell? w _ hx205_1)).trans hx205_1
       replace hx205_2 := (HB.out.cell (World.block_lt_of_cell? w _ hx205_2)).trans hx205_2
       have HR205_2 := Aside0.mk hi205_2
       have HC205_2 := Aside0.mk hl205_2
       clear hi205_2 hl205_2
       replace p205 := eq_true p205
       replace q205 := eq_true q205
       go_wp2_with (first | ((with_reducible refine zaq (f := 17) rfl ?_); refine zav (some 18) rfl rfl Try.func17 (by kernel_rfl) rfl #[.agg #[.string ((zal l0 x3_1).f0), .int .i64 ((zal l0 x3_1).f1), .slice A205_2 ((zal l0 x3_1).f2).length c205_2]] rfl (by (try simp only [List.map_toArray, List.map_cons, List.map_nil]); first | done | rfl | (simp only [List.length_drop, List.length_take]; rfl)) ?_; (with_reducible refine (towncrierlaw05_Few.calls k1 ((zal l0 x3_1).f0) ((zal l0 x3_1).f1) _ _ ((zal l0 x3_1).f2) false _ ?side1 ?side2 A5.out).mono ?_); (case side1 => repeat (first | exact (Kd.C_below HR205_2.out HB.out) | (with_reducible refine Kd.C_alloc ?_ _) | (with_reducible refine Kd.C_drewN ?_ _) | (with_reducible refine Kd.C_drew ?_))); (case side2 => exact HC205_2.out); rintro e w8 ⟨rfl, hb⟩; refine ⟨_, rfl, ?_⟩; have n0_ := Aside0.mk (zah (by repeat (first | (with_reducible first | exact HB.out | apply zaa | apply zac | apply zae) | exact HB.out)) hb); clear HB; have HB := n0_; clear n0_; (try clear hb); (try clear hb2); (try clear hk); (try clear hi)))
       go_ret
       exact ⟨by first | rfl | (simp [zap, zao] <;> rfl) | (simp [*, zap, zao] <;> rfl), by repeat (first | (with_reducible first | exact HB.out | apply zaa | apply zac | apply zae) | exact HB.out)⟩
     ·rw [if_neg c4] at H
      exact absurd H (by simp)
    ·rw [if_neg c3] at H
     have c3b0 : decide (x3_1 < (l0.length : Int)) = false := decide_eq_false c3
     clear c3
     obtain rfl := Option.some.inj H
     go_wp2
     go_ret
     exact ⟨by first | rfl | (simp [zap, zao] <;> rfl) | (simp [*, zap, zao] <;> rfl), by repeat (first | (with_reducible first | exact HB.out | apply zaa | apply zac | apply zae) | exact HB.out)⟩
mutual
def registry_Add.j0 : Nat → List (SSchema) → Bool → ByteArray → Int → List (SField) → Option ((List (SSchema)) × Int)
 | 0, _, _, _, _, _ => none
 | k + 1, x0, x17, x230000, x230001, x230002 => if x17 = true then (some (([] : List (SSchema)), 1)) else ((registry_at.f x0 x230000).bind fun t232 => (if t232 < 0 then (registry_Add.j1 k x0 t232 (x230001 != 1) x230000 x230001 x230002) else (registry_Add.j1 k x0 t232 false x230000 x230001 x230002)))
def registry_Add.j4 : Nat → List (SSchema) → Int → ByteArray → Int → List (SField) → Option ((List (SSchema)) × Int)
 | 0, _, _, _, _, _ => none
 | k + 1, x0, x6, x230000, x230001, x230002 => registry_Add.l0 k x6 ([] : List (SSchema)) x0 (x0.length : Int) 0 x230000 x230001 x230002
def registry_Add.l0 : Nat → Int → List (SSchema) → List (SSchema) → Int → Int → ByteArray → Int → List (SField) → Option ((List (SSchema)) × Int)
 | 0, _, _, _, _, _, _, _, _ => none
 | k + 1, x6, x7, x61, x62, x63, x230000, x230001, x230002 => if x63 < x62 then (if 0 ≤ x63 then (if x63 < (x61.length : Int) then ((registry_own.f ((zal x61 x63).f0) ((zal x61 x63).f1) ((zal x61 x63).f2)).bind fun bt239 => (if x7.length < 2932031007402 then (registry_Add.l0 k x6 (x7 ++ [(⟨bt239.1, bt239.2.1, bt239.2.2⟩ : SSchema)]) x61 x62 (wrap64 (x63 + 1)) x230000 x230001 x230002) else (none))) else (none)) else (none)) else (if x6 < 0 then ((registry_own.f x230000 x230001 x230002).bind fun bt247 => (if x7.length < 2932031007402 then (some ((x7 ++ [(⟨bt247.1, bt247.2.1, bt247.2.2⟩ : SSchema)]), 0)) else (none))) else ((registry_own.f x230000 x230001 x230002).bind fun bt255 => (if 0 ≤ x6 then (if x6 < (x7.length : Int) then (some ((x7.set (x6 : Int).toNat (⟨bt255.1, bt255.2.1, bt255.2.2⟩ : SSchema)), 0)) else (none)) else (none))))
def registry_Add.j1 : Nat → List (SSchema) → Int → Bool → ByteArray → Int → List (SField) → Option ((List (SSchema)) × Int)
 | 0, _, _, _, _, _, _ => none
 | k + 1, x0, x6, x22, x230000, x230001, x230002 => if x22 = true then (some (([] : List (SSchema)), 5)) else (if x6 < 0 then (registry_Add.j2 k x0 x6 ((x0.length : Int) == 8) x230000 x230001 x230002) else (registry_Add.j2 k x0 x6 false x230000 x230001 x230002))
def registry_Add.j2 : Nat → List (SSchema) → Int → Bool → ByteArray → Int → List (SField) → Option ((List (SSchema)) × Int)
 | 0, _, _, _, _, _, _ => none
 | k + 1, x0, x6, x30, x230000, x230001, x230002 => if x30 = true then (some (([] : List (SSchema)), 7)) else (if x6 ≥ 0 then (if 0 ≤ x6 then (if x6 < (x0.length : Int) then ((schema_Same.f k ((zal x0 x6).f0) ((zal x0 x6).f1) ((zal x0 x6).f2) x230000 x230001 x230002).bind fun t234 => (registry_Add.j3 k x0 x6 t234 x230000 x230001 x230002)) else (none)) else (none)) else (registry_Add.j3 k x0 x6 false x230000 x230001 x230002))
def registry_Add.j3 : Nat → List (SSchema) → Int → Bool → ByteArray → Int → List (SField) → Option ((List (SSchema)) × Int)
 | 0, _, _, _, _, _, _ => none
 | k + 1, x0, x6, x38, x230000, x230001, x230002 => if x38 = true then (some (([] : List (SSchema)), 4)) else (if x6 ≥ 0 then (if 0 ≤ x6 then (if x6 < (x0.length : Int) then ((schema_Fits.f k ((zal x0 x6).f0) ((zal x0 x6).f1) ((zal x0 x6).f2) x230000 x230001 x230002).bind fun t236 => (if t236 = true then (registry_Add.j4 k x0 x6 x230000 x230001 x230002) else (some (([] : List (SSchema)), 5)))) else (none)) else (none)) else (registry_Add.j4 k x0 x6 x230000 x230001 x230002))
end
def registry_Add.f (k : Nat) (l0 : List (SSchema)) (a1_0 : ByteArray) (a1_1 : Int) (l1_2 : List (SField)) : Option ((List (SSchema)) × Int) := (registry_May.f k l0).bind fun t230 => (if t230 = true then ((schema_May.f a1_0 a1_1 l1_2).bind fun t231 => (registry_Add.j0 k l0 (!t231) a1_0 a1_1 l1_2)) else (registry_Add.j0 k l0 true a1_0 a1_1 l1_2))
def registry_Add.T8 : Bool × List (List Nat × List Nat) := (true, [([], []), ([0], [0]), ([1], [1]), ([2], [2]), ([2], [2]), ([3, 4, 2], [2, 3, 4]), ([5, 2], [2, 5]), ([2], [2]), ([6, 7, 2, 2], [2, 6, 7]), ([2, 8], [2, 8]), ([9, 8], [9])])
def registry_Add.B8 : List Nat := [0, 1, 3, 7, 7, 31, 63, 7, 255, 511, 1023]
theorem registry_Add.tab8 : rtab .any (opsOf Try.f18 8) = registry_Add.T8 := by kernel_rfl
theorem registry_Add.bits8 : waitsOk registry_Add.T8.2 registry_Add.B8 = true := by kernel_rfl
def registry_Add.T10 : Bool × List (List Nat × List Nat) := (true, [([], []), ([0], [0]), ([1], [1]), ([2], [2]), ([2], [2]), ([3, 4, 2], [2, 3, 4]), ([5, 2], [2, 5]), ([2], [2]), ([6, 7, 2, 2], [2, 6, 7]), ([8, 2], [2, 8]), ([2, 9], [2, 9]), ([10, 8], [10])])
def registry_Add.B10 : List Nat := [0, 1, 3, 7, 7, 31, 63, 7, 255, 511, 1023, 2047]
theorem registry_Add.tab10 : rtab .any (opsOf Try.f18 10) = registry_Add.T10 := by kernel_rfl
theorem registry_Add.bits10 : waitsOk registry_Add.T10.2 registry_Add.B10 = true := by kernel_rfl
set_option maxHeartbeats 8000000 in
set_option maxRecDepth 100000 in
theorem registry_Add.calls (k : Nat) (A0 : Option Addr) (c0 : Nat) (l0 : List (SSchema)) (a1_0 : ByteArray) (a1_1 : Int) (A1_2 : Option Addr) (c1_2 : Nat) (l1_2 : List (SField)) (r1 : List (SSchema)) (r2 : Int) (w : World) (hr0 : Kd.C kSchema w A0 l0.length l0) (hc0 : l0.length ≤ c0) (hr1_2 : Kd.C kField w A1_2 l1_2.length l1_2) (hc1_2 : l1_2.length ≤ c1_2) (h : registry_Add.f k l0 a1_0 a1_1 l1_2 = some (r1, r2)) :
  Calls Try.prog 18 #[.slice A0 l0.length c0, .agg #[.string a1_0, .int .i64 a1_1, .slice A1_2 l1_2.length c1_2]] w fun e w' => ∃ v0_ : Value, e = .returned (.tuple #[v0_, .int .i64 r2]) ∧ Kd.S kSchema 43 w' w.heap.size (fun _ => True) v0_ r1 ∧ Below w.heap.size w w' := by
 have hu43 := Try.underlying43
 have HR0 := Aside0.mk hr0
 have HC0 := Aside0.mk hc0
 clear hr0 hc0
 have HR1_2 := Aside0.mk hr1_2
 have HC1_2 := Aside0.mk hc1_2
 clear hr1_2 hc1_2
 have HB := Aside0.mk (Below.refl w.heap.size w)
 have H : ((registry_May.f k l0).bind fun t230 => (if t230 = true then ((schema_May.f a1_0 a1_1 l1_2).bind fun t231 => (registry_Add.j0 k l0 (!t231) a1_0 a1_1 l1_2)) else (registry_Add.j0 k l0 true a1_0 a1_1 l1_2))) = some (r1, r2) := h
 clear h
 have HC3 := Aside0.mk H
 clear H
 go_enter Try.func18, Try.ntmps18
 go_upto_region 1 with (first | ((with_reducible refine zat (N := 3) rfl ?_); (try (refine zaC (by rfl) ?_; dsimp only)); refine zar ?hg (N := 3) ?hd (cs := #[.string a1_0, .int .i64 a1_1, .slice A1_2 l1_2.length c1_2]) (t := 43) ?hr ?_; (case hd => rfl); (case hg => rfl); (case hr => first | (go_simp; done) | (go_simp; rfl)); intro gb229 hg w4 hbox hb; have n0_ := Aside0.mk (zah (by repeat (first | (with_reducible first | exact HB.out | apply zaa | apply zac | apply zae) | exact HB.out)) hb); have n1_ := Aside0.mk (hbox); have n2_ := Aside0.mk ((by rw [hg]; exact (zan (by repeat (first | (with_reducible first | exact HB.out | apply zaa | apply zac | apply zae) | exact HB.out))) : w.heap.size ≤ gb229)); have n3_ := Aside0.mk ((by rw [hg]; exact (zan (by repeat (first | (with_reducible first | exact HB.out | apply zaa | apply zac | apply zae) | exact HB.out))) : w.heap.size ≤ gb229)); clear HB; have HB := n0_; have BK229 := n1_; have GW229 := n2_; have GE229 := n3_; clear n0_ n1_ n2_ n3_; clear hb hbox hg))
 (try simp only [Act.put, List.setIfInBounds_toArray, List.set_cons_zero, List.set_cons_succ])
 go_cut [17] (fun v17 wc => ∃ (kq : Nat) (x17_2 : Bool), v17 = .bool x17_2 ∧ Aside0 (registry_Add.j0 kq l0 x17_2 a1_0 a1_1 l1_2 = some (r1, r2)) ∧ Aside0 (kq ≤ k) ∧ Aside0 (wc.heap[gb229]? = some (.cells #[.string a1_0, .int .i64 a1_1, (.slice A1_2 l1_2.length c1_2)] 43 (0, 0))) ∧ Aside0 (Below w.heap.size w wc))
 case first =>
  have H := HC3.out
  clear HC3
  replace H := Option.bind_eq_some_iff.mp H
  obtain ⟨t230, A50, H⟩ := H
  replace H : (if t230 = true then ((schema_May.f a1_0 a1_1 l1_2).bind fun t231 => (registry_Add.j0 k l0 (!t231) a1_0 a1_1 l1_2)) else (registry_Add.j0 k l0 true a1_0 a1_1 l1_2)) = some (r1, r2) := H
  have A5 := Aside0.mk A50
  clear A50
  by_cases c6 : t230 = true
  ·subst c6
   have H1 : ((schema_May.f a1_0 a1_1 l1_2).bind fun t231 => (registry_Add.j0 k l0 (!t231) a1_0 a1_1 l1_2)) = some (r1, r2) := by rw [if_pos rfl] at H; exact H
   clear H
   have H := H1
   clear H1
   replace H := Option.bind_eq_some_iff.mp H
   obtain ⟨t231, A70, H⟩ := H
   replace H : (registry_Add.j0 k l0 (!t231) a1_0 a1_1 l1_2) = some (r1, r2) := H
   have A7 := Aside0.mk A70
   clear A70
   have H' := Aside0.mk H
   clear H
   go_wp2_with (first | ((with_reducible refine zaq (f := 29) rfl ?_); refine zav (some 11) rfl rfl Try.func29 (by kernel_rfl) rfl #[.slice A0 l0.length c0] rfl (by (try simp only [List.map_toArray, List.map_cons, List.map_nil]); first | done | rfl | (simp only [List.length_drop, List.length_take]; rfl)) ?_; (with_reducible refine (registry_May.calls k _ _ l0 true _ ?side1 ?side2 A5.out).mono ?_); (case side1 => repeat (first | exact (Kd.C_below HR0.out HB.out) | (with_reducible refine Kd.C_alloc ?_ _) | (with_reducible refine Kd.C_drewN ?_ _) | (with_reducible refine Kd.C_drew ?_))); (case side2 => exact HC0.out); rintro e w8 ⟨rfl, hb⟩; refine ⟨_, rfl, ?_⟩; have n0_ := Aside0.mk (zak (g := gb229) (o := .cells #[.string a1_0, .int .i64 a1_1, .slice A1_2 l1_2.length c1_2] 43 (0, 0)) (by (with_reducible repeat (first | refine zai ?_ _ | refine zaj ?_ | refine zag ?_ _)); exact BK229.out) hb); have n1_ := Aside0.mk (zah (by repeat (first | (with_reducible first | exact HB.out | apply zaa | apply zac | apply zae | refine zaf ?_ GE229.out) | exact HB.out)) hb); clear BK229; clear HB; have BK229 := n0_; have HB := n1_; clear n0_ n1_; (try clear hb); (try clear hb2); (try clear hk); (try clear hi); have hcz9_0 : w8.cell? ⟨gb229, 0, none⟩ = some (.string a1_0) := (zad BK229.out 0).trans rfl; have hcz9_1 : w8.cell? ⟨gb229, 1, none⟩ = some (.int .i64 a1_1) := (zad BK229.out 1).trans rfl; have hcz9_2 : w8.cell? ⟨gb229, 2, none⟩ = some (.slice A1_2 l1_2.length c1_2) := (zad BK229.out 2).trans rfl; have hfz9_0 := zab BK229.out 0; have hfz9_1 := zab BK229.out 1; have hfz9_2 := zab BK229.out 2) | (go_at_call 33; (with_reducible refine (schema_May.calls a1_0 a1_1 _ _ l1_2 t231 _ ?side1 ?side2 A7.out).mono ?_); (case side1 => repeat (first | exact (Kd.C_below HR1_2.out HB.out) | (with_reducible refine Kd.C_alloc ?_ _) | (with_reducible refine Kd.C_drewN ?_ _) | (with_reducible refine Kd.C_drew ?_))); (case side2 => exact HC1_2.out); rintro e w10 ⟨rfl, hb⟩; have n0_ := Aside0.mk (zak (g := gb229) (o := .cells #[.string a1_0, .int .i64 a1_1, .slice A1_2 l1_2.length c1_2] 43 (0, 0)) (by (with_reducible repeat (first | refine zai ?_ _ | refine zaj ?_ | refine zag ?_ _)); exact BK229.out) hb); have n1_ := Aside0.mk (zah (by repeat (first | (with_reducible first | exact HB.out | apply zaa | apply zac | apply zae | refine zaf ?_ GE229.out) | exact HB.out)) hb); clear BK229; clear HB; have BK229 := n0_; have HB := n1_; clear n0_ n1_; (try clear hb); (try clear hb2); (try clear hk); (try clear hi)))
   go_meet
   case rel => exact ⟨_, (!t231), (by first | rfl | (simp; done) | (simp [*]; done)), H', ⟨by first | omega | exact Nat.le_refl _⟩, ⟨by (with_reducible repeat (first | refine zai ?_ _ | refine zaj ?_ | refine zag ?_ _)); exact BK229.out⟩, ⟨by repeat (first | (with_reducible first | exact HB.out | apply zaa | apply zac | apply zae | refine zaf ?_ GE229.out) | exact HB.out)⟩⟩
  ·replace c6 := Bool.eq_false_iff.mpr c6
   subst c6
   have H1 : (registry_Add.j0 k l0 true a1_0 a1_1 l1_2) = some (r1, r2) := by rw [if_neg (show ¬ (false = true) by decide)] at H; exact H
   clear H
   have H := H1
   clear H1
   have H' := Aside0.mk H
   clear H
   go_wp2_with (first | ((with_reducible refine zaq (f := 29) rfl ?_); refine zav (some 11) rfl rfl Try.func29 (by kernel_rfl) rfl #[.slice A0 l0.length c0] rfl (by (try simp only [List.map_toArray, List.map_cons, List.map_nil]); first | done | rfl | (simp only [List.length_drop, List.length_take]; rfl)) ?_; (with_reducible refine (registry_May.calls k _ _ l0 false _ ?side1 ?side2 A5.out).mono ?_); (case side1 => repeat (first | exact (Kd.C_below HR0.out HB.out) | (with_reducible refine Kd.C_alloc ?_ _) | (with_reducible refine Kd.C_drewN ?_ _) | (with_reducible refine Kd.C_drew ?_))); (case side2 => exact HC0.out); rintro e w11 ⟨rfl, hb⟩; refine ⟨_, rfl, ?_⟩; have n0_ := Aside0.mk (zak (g := gb229) (o := .cells #[.string a1_0, .int .i64 a1_1, .slice A1_2 l1_2.length c1_2] 43 (0, 0)) (by (with_reducible repeat (first | refine zai ?_ _ | refine zaj ?_ | refine zag ?_ _)); exact BK229.out) hb); have n1_ := Aside0.mk (zah (by repeat (first | (with_reducible first | exact HB.out | apply zaa | apply zac | apply zae | refine zaf ?_ GE229.out) | exact HB.out)) hb); clear BK229; clear HB; have BK229 := n0_; have HB := n1_; clear n0_ n1_; (try clear hb); (try clear hb2); (try clear hk); (try clear hi)))
   go_meet
   case rel => exact ⟨_, (true), (by first | rfl | (simp; done) | (simp [*]; done)), H', ⟨by first | omega | exact Nat.le_refl _⟩, ⟨by (with_reducible repeat (first | refine zai ?_ _ | refine zaj ?_ | refine zag ?_ _)); exact BK229.out⟩, ⟨by repeat (first | (with_reducible first | exact HB.out | apply zaa | apply zac | apply zae | refine zaf ?_ GE229.out) | exact HB.out)⟩⟩
 case rest =>
  clear HC3
  try clear c1
  try clear c2
  try clear p2
  try clear c6
  try clear hcz9_0
  try clear hcz9_1
  try clear hcz9_2
  try clear hfz9_0
  try clear hfz9_1
  try clear hfz9_2
  obtain ⟨kq, x17_2, rfl, HA, HJ2, BK229, HB⟩ := hcut
  cases kq with
  | zero => exact absurd HA.out (by simp [registry_Add.j0])
  | succ kj2 =>
   have H := HA.out
   clear HA
   simp only [registry_Add.j0] at H
   by_cases c12 : x17_2 = true
   ·subst c12
    have H1 : (some (([] : List (SSchema)), 1)) = some (r1, r2) := by rw [if_pos rfl] at H; exact H
    clear H
    have H := H1
    clear H1
    simp only [Option.some.injEq, Prod.mk.injEq] at H
    obtain ⟨rfl, rfl⟩ := H
    go_wp2
    go_ret2
    exact ⟨_, by first | rfl | (simp [zap, zao] <;> rfl) | (simp [*, zap, zao] <;> rfl), by first | exact Kd.S_nil _ _ _ _ _ | exact Kd.N_nil _ _ _ _ _ | exact Kd.V_nil _ _ _ _ _ | exact Kd.Q_nil _ _ _ _ _ | exact Kd.R_nil _ _ _ _ _, by repeat (first | (with_reducible first | exact HB.out | apply zaa | apply zac | apply zae | refine zaf ?_ GE229.out) | exact HB.out)⟩
   ·replace c12 := Bool.eq_false_iff.mpr c12
    subst c12
    have H1 : ((registry_at.f l0 a1_0).bind fun t232 => (if t232 < 0 then (registry_Add.j1 kj2 l0 t232 (a1_1 != 1) a1_0 a1_1 l1_2) else (registry_Add.j1 kj2 l0 t232 false a1_0 a1_1 l1_2))) = some (r1, r2) := by rw [if_neg (show ¬ (false = true) by decide)] at H; exact H
    clear H
    have H := H1
    clear H1
    replace H := Option.bind_eq_some_iff.mp H
    obtain ⟨t232, A130, H⟩ := H
    replace H : (if t232 < 0 then (registry_Add.j1 kj2 l0 t232 (a1_1 != 1) a1_0 a1_1 l1_2) else (registry_Add.j1 kj2 l0 t232 false a1_0 a1_1 l1_2)) = some (r1, r2) := H
    have A13 := Aside0.mk A130
    clear A130
    have HC14 := Aside0.mk H
    clear H
    have hcz15_0 : wc.cell? ⟨gb229, 0, none⟩ = some (.string a1_0) := (zad BK229.out 0).trans rfl
    have hcz15_1 : wc.cell? ⟨gb229, 1, none⟩ = some (.int .i64 a1_1) := (zad BK229.out 1).trans rfl
    have hcz15_2 : wc.cell? ⟨gb229, 2, none⟩ = some (.slice A1_2 l1_2.length c1_2) := (zad BK229.out 2).trans rfl
    have hfz15_0 := zab BK229.out 0
    have hfz15_1 := zab BK229.out 1
    have hfz15_2 := zab BK229.out 2
    go_upto_block 0 with (first | ((with_reducible refine zaq (f := 34) rfl ?_); refine zav (some 21) rfl rfl Try.func34 (by kernel_rfl) rfl #[.slice A0 l0.length c0, .string a1_0] rfl (by (try simp only [List.map_toArray, List.map_cons, List.map_nil]); first | done | rfl | (simp only [List.length_drop, List.length_take]; rfl)) ?_; (with_reducible refine (registry_at.calls _ _ l0 a1_0 t232 _ ?side1 ?side2 A13.out).mono ?_); (case side1 => repeat (first | exact (Kd.C_below HR0.out HB.out) | (with_reducible refine Kd.C_alloc ?_ _) | (with_reducible refine Kd.C_drewN ?_ _) | (with_reducible refine Kd.C_drew ?_))); (case side2 => exact HC0.out); rintro e w16 ⟨rfl, hb⟩; refine ⟨_, rfl, ?_⟩; have n0_ := Aside0.mk (zak (g := gb229) (o := .cells #[.string a1_0, .int .i64 a1_1, .slice A1_2 l1_2.length c1_2] 43 (0, 0)) (by (with_reducible repeat (first | refine zai ?_ _ | refine zaj ?_ | refine zag ?_ _)); exact BK229.out) hb); have n1_ := Aside0.mk (zah (by repeat (first | (with_reducible first | exact HB.out | apply zaa | apply zac | apply zae | refine zaf ?_ GE229.out) | exact HB.out)) hb); clear BK229; clear HB; have BK229 := n0_; have HB := n1_; clear n0_ n1_; (try clear hb); (try clear hb2); (try clear hk); (try clear hi)))
    (try simp only [Act.put, List.setIfInBounds_toArray, List.set_cons_zero, List.set_cons_succ])
    go_cut [] (fun wc => ∃ (kq : Nat), Aside0 (registry_Add.j4 kq l0 t232 a1_0 a1_1 l1_2 = some (r1, r2)) ∧ Aside0 (kq ≤ kj2) ∧ Aside0 (wc.heap[gb229]? = some (.cells #[.string a1_0, .int .i64 a1_1, (.slice A1_2 l1_2.length c1_2)] 43 (0, 0))) ∧ Aside0 (Below w.heap.size w wc))
    case first =>
     have H := HC14.out
     clear HC14
     have HC17 := Aside0.mk H
     clear H
     go_upto_region 4 with (fail)
     go_cut [22] (fun v22 wc => ∃ (kq : Nat) (x22_16 : Bool), v22 = .bool x22_16 ∧ Aside0 (registry_Add.j1 kq l0 t232 x22_16 a1_0 a1_1 l1_2 = some (r1, r2)) ∧ Aside0 (kq ≤ kj2) ∧ Aside0 (wc.heap[gb229]? = some (.cells #[.string a1_0, .int .i64 a1_1, (.slice A1_2 l1_2.length c1_2)] 43 (0, 0))) ∧ Aside0 (Below w.heap.size w wc))
     case first =>
      have H := HC17.out
      clear HC17
      by_cases c18 : t232 < 0
      ·rw [if_pos c18] at H
       have c18b0 : decide (t232 < 0) = true := decide_eq_true c18
       clear c18
       (first | rw [c18b0] | (simp only [zaE, zaF]; rw [c18b0]) | skip)
       have H' := Aside0.mk H
       clear H
       have hcz19_0 : w16.cell? ⟨gb229, 0, none⟩ = some (.string a1_0) := (zad BK229.out 0).trans rfl
       have hcz19_1 : w16.cell? ⟨gb229, 1, none⟩ = some (.int .i64 a1_1) := (zad BK229.out 1).trans rfl
       have hcz19_2 : w16.cell? ⟨gb229, 2, none⟩ = some (.slice A1_2 l1_2.length c1_2) := (zad BK229.out 2).trans rfl
       have hfz19_0 := zab BK229.out 0
       have hfz19_1 := zab BK229.out 1
       have hfz19_2 := zab BK229.out 2
       go_wp2
       go_meet
       case rel => exact ⟨_, ((a1_1 != 1)), (by first | rfl | (simp; done) | (simp [*]; done)), H', ⟨by have := HJ2.out; first | omega | exact Nat.le_refl _⟩, ⟨by (with_reducible repeat (first | refine zai ?_ _ | refine zaj ?_ | refine zag ?_ _)); exact BK229.out⟩, ⟨by repeat (first | (with_reducible first | exact HB.out | apply zaa | apply zac | apply zae | refine zaf ?_ GE229.out) | exact HB.out)⟩⟩
      ·rw [if_neg c18] at H
       have c18b0 : decide (t232 < 0) = false := decide_eq_false c18
       clear c18
       (first | rw [c18b0] | (simp only [zaE, zaF]; rw [c18b0]) | skip)
       have H' := Aside0.mk H
       clear H
       go_wp2
       go_meet
       case rel => exact ⟨_, (false), (by first | rfl | (simp; done) | (simp [*]; done)), H', ⟨by have := HJ2.out; first | omega | exact Nat.le_refl _⟩, ⟨by (with_reducible repeat (first | refine zai ?_ _ | refine zaj ?_ | refine zag ?_ _)); exact BK229.out⟩, ⟨by repeat (first | (with_reducible first | exact HB.out | apply zaa | apply zac | apply zae | refine zaf ?_ GE229.out) | exact HB.out)⟩⟩
     case rest =>
      clear HC17
      try clear c1
      try clear c2
      try clear p2
      try clear c3
      try clear c6
      try clear c12
      try clear c18
      try clear c18b0
      try clear hcz15_0
      try clear hcz15_1
      try clear hcz15_2
      try clear hcz19_0
      try clear hcz19_1
      try clear hcz19_2
      try clear hcz9_0
      try clear hcz9_1
      try clear hcz9_2
      try clear hfz15_0
      try clear hfz15_1
      try clear hfz15_2
      try clear hfz19_0
      try clear hfz19_1
      try clear hfz19_2
      try clear hfz9_0
      try clear hfz9_1
      try clear hfz9_2
      try clear p2
      obtain ⟨kq, x22_16, rfl, HA, HJ16, BK229, HB⟩ := hcut
      cases kq with
      | zero => exact absurd HA.out (by simp [registry_Add.j1])
      | succ kj16 =>
       have H := HA.out
       clear HA
       simp only [registry_Add.j1] at H
       by_cases c20 : x22_16 = true
       ·subst c20
        have H1 : (some (([] : List (SSchema)), 5)) = some (r1, r2) := by rw [if_pos rfl] at H; exact H
        clear H
        have H := H1
        clear H1
        simp only [Option.some.injEq, Prod.mk.injEq] at H
        obtain ⟨rfl, rfl⟩ := H
        go_wp2
        go_ret2
        exact ⟨_, by first | rfl | (simp [zap, zao] <;> rfl) | (simp [*, zap, zao] <;> rfl), by first | exact Kd.S_nil _ _ _ _ _ | exact Kd.N_nil _ _ _ _ _ | exact Kd.V_nil _ _ _ _ _ | exact Kd.Q_nil _ _ _ _ _ | exact Kd.R_nil _ _ _ _ _, by repeat (first | (with_reducible first | exact HB.out | apply zaa | apply zac | apply zae | refine zaf ?_ GE229.out) | exact HB.out)⟩
       ·replace c20 := Bool.eq_false_iff.mpr c20
        subst c20
        have H1 : (if t232 < 0 then (registry_Add.j2 kj16 l0 t232 ((l0.length : Int) == 8) a1_0 a1_1 l1_2) else (registry_Add.j2 kj16 l0 t232 false a1_0 a1_1 l1_2)) = some (r1, r2) := by rw [if_neg (show ¬ (false = true) by decide)] at H; exact H
        clear H
        have H := H1
        clear H1
        have HC21 := Aside0.mk H
        clear H
        go_upto_region 6 with (fail)
        go_cut [30] (fun v30 wc => ∃ (kq : Nat) (x30_20 : Bool), v30 = .bool x30_20 ∧ Aside0 (registry_Add.j2 kq l0 t232 x30_20 a1_0 a1_1 l1_2 = some (r1, r2)) ∧ Aside0 (kq ≤ kj16) ∧ Aside0 (wc.heap[gb229]? = some (.cells #[.string a1_0, .int .i64 a1_1, (.slice A1_2 l1_2.length c1_2)] 43 (0, 0))) ∧ Aside0 (Below w.heap.size w wc))
        case first =>
         have H := HC21.out
         clear HC21
         by_cases c22 : t232 < 0
         ·rw [if_pos c22] at H
          have c22b0 : decide (t232 < 0) = true := decide_eq_true c22
          clear c22
          (first | rw [c22b0] | (simp only [zaE, zaF]; rw [c22b0]) | skip)
          have H' := Aside0.mk H
          clear H
          go_wp2
          go_meet
          case rel => exact ⟨_, (((l0.length : Int) == 8)), (by first | rfl | (simp; done) | (simp [*]; done)), H', ⟨by have := HJ2.out; have := HJ16.out; first | omega | exact Nat.le_refl _⟩, ⟨by (with_reducible repeat (first | refine zai ?_ _ | refine zaj ?_ | refine zag ?_ _)); exact BK229.out⟩, ⟨by repeat (first | (with_reducible first | exact HB.out | apply zaa | apply zac | apply zae | refine zaf ?_ GE229.out) | exact HB.out)⟩⟩
         ·rw [if_neg c22] at H
          have c22b0 : decide (t232 < 0) = false := decide_eq_false c22
          clear c22
          (first | rw [c22b0] | (simp only [zaE, zaF]; rw [c22b0]) | skip)
          have H' := Aside0.mk H
          clear H
          go_wp2
          go_meet
          case rel => exact ⟨_, (false), (by first | rfl | (simp; done) | (simp [*]; done)), H', ⟨by have := HJ2.out; have := HJ16.out; first | omega | exact Nat.le_refl _⟩, ⟨by (with_reducible repeat (first | refine zai ?_ _ | refine zaj ?_ | refine zag ?_ _)); exact BK229.out⟩, ⟨by repeat (first | (with_reducible first | exact HB.out | apply zaa | apply zac | apply zae | refine zaf ?_ GE229.out) | exact HB.out)⟩⟩
        case rest =>
         clear HC21
         try clear c1
         try clear c2
         try clear p2
         try clear c3
         try clear c6
         try clear c12
         try clear c18
         try clear c18b0
         try clear c20
         try clear c22
         try clear c22b0
         try clear hcz15_0
         try clear hcz15_1
         try clear hcz15_2
         try clear hcz19_0
         try clear hcz19_1
         try clear hcz19_2
         try clear hcz9_0
         try clear hcz9_1
         try clear hcz9_2
         try clear hfz15_0
         try clear hfz15_1
         try clear hfz15_2
         try clear hfz19_0
         try clear hfz19_1
         try clear hfz19_2
         try clear hfz9_0
         try clear hfz9_1
         try clear hfz9_2
         try clear p2
         obtain ⟨kq, x30_20, rfl, HA, HJ20, BK229, HB⟩ := hcut
         cases kq with
         | zero => exact absurd HA.out (by simp [registry_Add.j2])
         | succ kj20 =>
          have H := HA.out
          clear HA
          simp only [registry_Add.j2] at H
          by_cases c23 : x30_20 = true
          ·subst c23
           have H1 : (some (([] : List (SSchema)), 7)) = some (r1, r2) := by rw [if_pos rfl] at H; exact H
           clear H
           have H := H1
           clear H1
           simp only [Option.some.injEq, Prod.mk.injEq] at H
           obtain ⟨rfl, rfl⟩ := H
           go_wp2
           go_ret2
           exact ⟨_, by first | rfl | (simp [zap, zao] <;> rfl) | (simp [*, zap, zao] <;> rfl), by first | exact Kd.S_nil _ _ _ _ _ | exact Kd.N_nil _ _ _ _ _ | exact Kd.V_nil _ _ _ _ _ | exact Kd.Q_nil _ _ _ _ _ | exact Kd.R_nil _ _ _ _ _, by repeat (first | (with_reducible first | exact HB.out | apply zaa | apply zac | apply zae | refine zaf ?_ GE229.out) | exact HB.out)⟩
          ·replace c23 := Bool.eq_false_iff.mpr c23
           subst c23
           have H1 : (if t232 ≥ 0 then (if 0 ≤ t232 then (if t232 < (l0.length : Int) then ((schema_Same.f kj20 ((zal l0 t232).f0) ((zal l0 t232).f1) ((zal l0 t232).f2) a1_0 a1_1 l1_2).bind fun t234 => (registry_Add.j3 kj20 l0 t232 t234 a1_0 a1_1 l1_2)) else (none)) else (none)) else (registry_Add.j3 kj20 l0 t232 false a1_0 a1_1 l1_2)) = some (r1, r2) := by rw [if_neg (show ¬ (false = true) by decide)] at H; exact H
           clear H
           have H := H1
           clear H1
           have HC24 := Aside0.mk H
           clear H
           go_upto_region 8 with (fail)
           go_cut [38] (fun v38 wc => ∃ (kq : Nat) (x38_23 : Bool), v38 = .bool x38_23 ∧ Aside0 (registry_Add.j3 kq l0 t232 x38_23 a1_0 a1_1 l1_2 = some (r1, r2)) ∧ Aside0 (kq ≤ kj20) ∧ Aside0 (wc.heap[gb229]? = some (.cells #[.string a1_0, .int .i64 a1_1, (.slice A1_2 l1_2.length c1_2)] 43 (0, 0))) ∧ Aside0 (Below w.heap.size w wc))
           case first =>
            have H := HC24.out
            clear HC24
            by_cases c25 : t232 ≥ 0
            ·rw [if_pos c25] at H
             have c25b0 : decide (0 ≤ t232) = true := decide_eq_true c25
             clear c25
             (first | rw [c25b0] | (simp only [zaE, zaF]; rw [c25b0]) | skip)
             by_cases c26 : 0 ≤ t232
             ·rw [if_pos c26] at H
              have c26b0 : decide (0 ≤ t232) = true := decide_eq_true c26
              clear c26
              by_cases c27 : t232 < (l0.length : Int)
              ·rw [if_pos c27] at H
               have c27b0 : decide (t232 < (l0.length : Int)) = true := decide_eq_true c27
               clear c27
               replace H := Option.bind_eq_some_iff.mp H
               obtain ⟨t234, A280, H⟩ := H
               replace H : (registry_Add.j3 kj20 l0 t232 t234 a1_0 a1_1 l1_2) = some (r1, r2) := H
               have A28 := Aside0.mk A280
               clear A280
               have H' := Aside0.mk H
               clear H
               try go_wp2
               have n0_ := Aside0.mk (zaj BK229.out)
               have n1_ := Aside0.mk (zae HB.out)
               clear BK229
               clear HB
               have BK229 := n0_
               have HB := n1_
               clear n0_ n1_
               have p233 : 0 ≤ (t232 : Int) := of_decide_eq_true (by first | (with_reducible assumption) | assumption)
               have q233 : t232 < (l0.length : Int) := of_decide_eq_true (by first | (with_reducible assumption) | assumption)
               obtain ⟨ad233, A233_2, c233_2, e233, hx233_0, hx233_1, hx233_2, hl233_2, hi233_2⟩ := zbl HR0.out t232 p233 q233
               have hw233_2 := hx233_2
               have hw233_1 := hx233_1
               have hw233_0 := hx233_0
               cases e233
               replace hx233_0 := (HB.out.cell (World.block_lt_of_cell? w _ hx233_0)).trans hx233_0
               replace hx233_1 := (HB.out.cell (World.block_lt_of_cell? w _ hx233_1)).trans hx233_1
               replace hx233_2 := (HB.out.cell (World.block_lt_of_cell? w _ hx233_2)).trans hx233_2
               have HR233_2 := Aside0.mk hi233_2
               have HC233_2 := Aside0.mk hl233_2
               clear hi233_2 hl233_2
               replace p233 := eq_true p233
               replace q233 := eq_true q233
               refine start_ (n := 11) (S := fun w' => w'.cell? ⟨gb229, 0, none⟩ = some (.string a1_0) ∧ w'.cell? ⟨gb229, 1, none⟩ = some (.int .i64 a1_1) ∧ w'.cell? ⟨gb229, 2, none⟩ = some (.slice A1_2 l1_2.length c1_2) ∧ w'.cell? (ad233.add ((t232).toNat * 3)) = some (.string ((zal l0 t232).f0)) ∧ w'.cell? ⟨(ad233.add ((t232).toNat * 3)).block, (ad233.add ((t232).toNat * 3)).off + 1, none⟩ = some (.int .i64 ((zal l0 t232).f1)) ∧ w'.cell? ⟨(ad233.add ((t232).toNat * 3)).block, (ad233.add ((t232).toNat * 3)).off + 2, none⟩ = some (.slice A233_2 ((zal l0 t232).f2).length c233_2)) (ds := []) #[false, false, false, false, false, false, false, false, false, false, false] (by kernel_rfl) rfl rfl ⟨(zad BK229.out 0).trans rfl, (zad BK229.out 1).trans rfl, (zad BK229.out 2).trans rfl, ((HB.out.cell (World.block_lt_of_cell? w _ hw233_0)).trans hw233_0), ((HB.out.cell (World.block_lt_of_cell? w _ hw233_1)).trans hw233_1), ((HB.out.cell (World.block_lt_of_cell? w _ hw233_2)).trans hw233_2)⟩ (fun hHeld => ?_); refine with_tabW registry_Add.tab8 registry_Add.bits8 (fun HT_ HW_ => ?_)
               generalize wc.drew = w29 at BK229 HB HR233_2 hx233_0 hx233_1 hx233_2 hHeld ⊢
               refine zaX (i := 0) (N := some 39) (v := ?_) (a' := ?_) #[true, false, false, false, false, false, false, false, false, false, false] rfl rfl (zaG HT_.out (by kernel_rfl)) (fun _ _ _ h => h) (Or.inl ⟨by rfl, ?_⟩) ?_ ?_
               rotate_left
               ·intro w'
                go_simp
                with_reducible rfl
               rotate_left
               ·simp only [Act.put, List.setIfInBounds_toArray, List.set_cons_zero, List.set_cons_succ, zaE, zaF]
                rfl
               refine zaX (i := 1) (N := some 40) (v := ?_) (a' := ?_) #[true, true, false, false, false, false, false, false, false, false, false] rfl rfl (zaG HT_.out (by kernel_rfl)) (fun _ _ _ h => h) (Or.inl ⟨by rfl, ?_⟩) ?_ ?_
               rotate_left
               ·intro w'
                go_simp
                with_reducible rfl
               rotate_left
               ·simp only [Act.put, List.setIfInBounds_toArray, List.set_cons_zero, List.set_cons_succ, zaE, zaF]
                rfl
               refine zaX (i := 2) (N := some 41) (v := ?_) (a' := ?_) #[true, true, true, false, false, false, false, false, false, false, false] rfl rfl (zaG HT_.out (by kernel_rfl)) (fun _ _ _ h => h) (Or.inl ⟨by rfl, ?_⟩) ?_ ?_
               rotate_left
               ·intro w'
                go_simp
                with_reducible rfl
               rotate_left
               ·simp only [Act.put, List.setIfInBounds_toArray, List.set_cons_zero, List.set_cons_succ, zaE, zaF]
                rfl
               refine zaX (i := 3) (N := some 42) (v := ?_) (a' := ?_) #[true, true, true, true, false, false, false, false, false, false, false] rfl rfl (zaG HT_.out (by kernel_rfl)) (fun _ _ _ h => h) (Or.inl ⟨by rfl, ?_⟩) ?_ ?_
               rotate_left
               ·intro w'
                go_simp
                with_reducible rfl
               rotate_left
               ·simp only [Act.put, List.setIfInBounds_toArray, List.set_cons_zero, List.set_cons_succ, zaE, zaF]
                rfl
               refine zaX (i := 4) (N := some 43) (v := ?_) (a' := ?_) #[true, true, true, true, true, false, false, false, false, false, false] rfl rfl (zaG HT_.out (by kernel_rfl)) (fun _ _ _ h => h) (Or.inl ⟨by rfl, ?_⟩) ?_ ?_
               rotate_left
               ·intro w'
                go_simp
                with_reducible rfl
               rotate_left
               ·simp only [Act.put, List.setIfInBounds_toArray, List.set_cons_zero, List.set_cons_succ, zaE, zaF]
                rfl
               refine zaX (i := 5) (N := some 44) (v := ?_) (a' := ?_) #[true, true, true, true, true, true, false, false, false, false, false] rfl rfl (zaG HT_.out (by kernel_rfl)) (fun _ _ _ h => h) (Or.inl ⟨by rfl, ?_⟩) ?_ ?_
               rotate_left
               ·intro w'
                go_simp
                with_reducible rfl
               rotate_left
               ·simp only [Act.put, List.setIfInBounds_toArray, List.set_cons_zero, List.set_cons_succ, zaE, zaF]
                rfl
               refine take_ (i := 6) (N := some 45) (v := ?_) (a' := ?_) #[true, true, true, true, true, true, true, false, false, false, false] rfl rfl (take_ofW HT_.out HW_.out (by kernel_rfl)) (fun _ _ _ h => h) (Or.inl ⟨by rfl, ?_⟩) hHeld ?_ ?_
               rotate_left
               ·rintro w' ⟨s0, s1, s2, s3, s4, s5⟩
                go_simp
                with_reducible rfl
               rotate_left
               ·simp only [Act.put, List.setIfInBounds_toArray, List.set_cons_zero, List.set_cons_succ, zaE, zaF]
                rfl
               refine take_ (i := 7) (N := some 46) (v := ?_) (a' := ?_) #[true, true, true, true, true, true, true, true, false, false, false] rfl rfl (take_ofW HT_.out HW_.out (by kernel_rfl)) (fun _ _ _ h => h) (Or.inl ⟨by rfl, ?_⟩) hHeld ?_ ?_
               rotate_left
               ·rintro w' ⟨s0, s1, s2, s3, s4, s5⟩
                go_simp
                with_reducible rfl
               rotate_left
               ·simp only [Act.put, List.setIfInBounds_toArray, List.set_cons_zero, List.set_cons_succ, zaE, zaF]
                rfl
               refine one_ (i := 8) (N := some 47) #[true, true, true, true, true, true, true, true, true, false, false] rfl rfl (one_of HT_.out (by kernel_rfl)) (by decide) (fun K hK => ?_)
               refine goes_ Try.func35 (by kernel_rfl) rfl #[.agg #[.string ((zal l0 t232).f0), .int .i64 ((zal l0 t232).f1), .slice A233_2 ((zal l0 t232).f2).length c233_2], .agg #[.string a1_0, .int .i64 a1_1, .slice A1_2 l1_2.length c1_2]] (by rfl) rfl rfl (by (try simp only [List.map_toArray, List.map_cons, List.map_nil]); first | done | rfl | (simp only [List.length_drop, List.length_take]; rfl)) ?_
               with_reducible refine (schema_Same.calls kj20 ((zal l0 t232).f0) ((zal l0 t232).f1) _ _ ((zal l0 t232).f2) a1_0 a1_1 _ _ l1_2 t234 _ ?side1 ?side2 ?side3 ?side4 A28.out).mono ?_
               (case side1 => repeat (first | exact (Kd.C_below HR233_2.out HB.out) | (with_reducible refine Kd.C_alloc ?_ _) | (with_reducible refine Kd.C_drewN ?_ _) | (with_reducible refine Kd.C_drew ?_)))
               (case side2 => exact HC233_2.out)
               (case side3 => repeat (first | exact (Kd.C_below HR1_2.out HB.out) | (with_reducible refine Kd.C_alloc ?_ _) | (with_reducible refine Kd.C_drewN ?_ _) | (with_reducible refine Kd.C_drew ?_)))
               (case side4 => exact HC1_2.out)
               rintro e w30 ⟨rfl, hb⟩
               refine ⟨_, rfl, ?_⟩
               have n0_ := Aside0.mk (zak (g := gb229) (o := .cells #[.string a1_0, .int .i64 a1_1, .slice A1_2 l1_2.length c1_2] 43 (0, 0)) (by (with_reducible repeat (first | refine zai ?_ _ | refine zaj ?_ | refine zag ?_ _)); exact BK229.out) hb)
               have n1_ := Aside0.mk (zah (by repeat (first | (with_reducible first | exact HB.out | apply zaa | apply zac | apply zae | refine zaf ?_ GE229.out) | exact HB.out)) hb)
               clear BK229
               clear HB
               have BK229 := n0_
               have HB := n1_
               clear n0_ n1_
               (try clear hb)
               (try clear hb2)
               (try clear hk)
               (try clear hi)
               refine hK.out _ _ ⟨(zad BK229.out 0).trans rfl, (zad BK229.out 1).trans rfl, (zad BK229.out 2).trans rfl, ((HB.out.cell (World.block_lt_of_cell? w _ hw233_0)).trans hw233_0), ((HB.out.cell (World.block_lt_of_cell? w _ hw233_1)).trans hw233_1), ((HB.out.cell (World.block_lt_of_cell? w _ hw233_2)).trans hw233_2)⟩ (fun hHeld => ?_)
               clear hK K
               refine norm_ (a' := ?_) ?_ ?_
               rotate_left
               ·show Act.put _ (some 47) _ = _
                simp only [Act.put, List.setIfInBounds_toArray, List.set_cons_zero, List.set_cons_succ, zaE, zaF]
                rfl
               refine zaX (i := 9) (N := some 48) (v := ?_) (a' := ?_) #[true, true, true, true, true, true, true, true, true, true, false] rfl rfl (zaG HT_.out (by kernel_rfl)) (fun _ _ _ h => h) (Or.inl ⟨by rfl, ?_⟩) ?_ ?_
               rotate_left
               ·intro w'
                go_simp
                with_reducible rfl
               rotate_left
               ·simp only [Act.put, List.setIfInBounds_toArray, List.set_cons_zero, List.set_cons_succ, zaE, zaF]
                rfl
               refine zaX (i := 10) (N := some 38) (v := ?_) (a' := ?_) #[true, true, true, true, true, true, true, true, true, true, true] rfl rfl (zaG HT_.out (by kernel_rfl)) (fun _ _ _ h => h) (Or.inl ⟨by rfl, ?_⟩) ?_ ?_
               rotate_left
               ·intro w'
                go_simp
                with_reducible rfl
               rotate_left
               ·simp only [Act.put, List.setIfInBounds_toArray, List.set_cons_zero, List.set_cons_succ, zaE, zaF]
                rfl
               refine done_ (done_of HT_.out (by kernel_rfl)) ?_
               try go_wp2
               go_meet
               case rel => exact ⟨_, (t234), (by first | rfl | (simp; done) | (simp [*]; done)), H', ⟨by have := HJ2.out; have := HJ16.out; have := HJ20.out; first | omega | exact Nat.le_refl _⟩, ⟨by (with_reducible repeat (first | refine zai ?_ _ | refine zaj ?_ | refine zag ?_ _)); exact BK229.out⟩, ⟨by repeat (first | (with_reducible first | exact HB.out | apply zaa | apply zac | apply zae | refine zaf ?_ GE229.out) | exact HB.out)⟩⟩
              ·rw [if_neg c27] at H
               exact absurd H (by simp)
             ·rw [if_neg c26] at H
              exact absurd H (by simp)
            ·rw [if_neg c25] at H
             have c25b0 : decide (0 ≤ t232) = false := decide_eq_false c25
             clear c25
             (first | rw [c25b0] | (simp only [zaE, zaF]; rw [c25b0]) | skip)
             have H' := Aside0.mk H
             clear H
             try go_wp2
             have n0_ := Aside0.mk (zaj BK229.out)
             have n1_ := Aside0.mk (zae HB.out)
             clear BK229
             clear HB
             have BK229 := n0_
             have HB := n1_
             clear n0_ n1_
             refine start_ (n := 11) (S := fun w' => True) (ds := []) #[false, false, false, false, false, false, false, false, false, false, false] (by kernel_rfl) rfl rfl trivial (fun hHeld => ?_); refine with_tabW registry_Add.tab8 registry_Add.bits8 (fun HT_ HW_ => ?_)
             generalize wc.drew = w31 at BK229 HB hHeld ⊢
             refine zaX (i := 0) (N := some 39) (v := ?_) (a' := ?_) #[true, false, false, false, false, false, false, false, false, false, false] rfl rfl (zaG HT_.out (by kernel_rfl)) (fun _ _ _ h => h) (Or.inl ⟨by rfl, ?_⟩) ?_ ?_
             rotate_left
             ·intro w'
              go_simp
              with_reducible rfl
             rotate_left
             ·simp only [Act.put, List.setIfInBounds_toArray, List.set_cons_zero, List.set_cons_succ, zaE, zaF]
              rfl
             refine zaX (i := 1) (N := some 40) (v := ?_) (a' := ?_) #[true, true, false, false, false, false, false, false, false, false, false] rfl rfl (zaG HT_.out (by kernel_rfl)) (fun _ _ _ h => h) (Or.inl ⟨by rfl, ?_⟩) ?_ ?_
             rotate_left
             ·intro w'
              go_simp
              with_reducible rfl
             rotate_left
             ·simp only [Act.put, List.setIfInBounds_toArray, List.set_cons_zero, List.set_cons_succ, zaE, zaF]
              rfl
             refine zaX (i := 2) (N := some 41) (v := ?_) (a' := ?_) #[true, true, true, false, false, false, false, false, false, false, false] rfl rfl (zaG HT_.out (by kernel_rfl)) (fun _ _ _ h => h) (Or.inl ⟨by rfl, ?_⟩) ?_ ?_
             rotate_left
             ·intro w'
              go_simp
              with_reducible rfl
             rotate_left
             ·simp only [Act.put, List.setIfInBounds_toArray, List.set_cons_zero, List.set_cons_succ, zaE, zaF]
              rfl
             refine zaX (i := 3) (N := some 42) (v := undef) (a' := ?_) #[true, true, true, true, false, false, false, false, false, false, false] rfl rfl (zaG HT_.out (by kernel_rfl)) (fun _ _ _ h => h) (Or.inr ⟨by rfl, rfl⟩) ?_ ?_
             rotate_left
             ·simp only [Act.put, List.setIfInBounds_toArray, List.set_cons_zero, List.set_cons_succ, zaE, zaF]
              rfl
             refine zaX (i := 4) (N := some 43) (v := undef) (a' := ?_) #[true, true, true, true, true, false, false, false, false, false, false] rfl rfl (zaG HT_.out (by kernel_rfl)) (fun _ _ _ h => h) (Or.inr ⟨by rfl, rfl⟩) ?_ ?_
             rotate_left
             ·simp only [Act.put, List.setIfInBounds_toArray, List.set_cons_zero, List.set_cons_succ, zaE, zaF]
              rfl
             refine zaX (i := 5) (N := some 44) (v := undef) (a' := ?_) #[true, true, true, true, true, true, false, false, false, false, false] rfl rfl (zaG HT_.out (by kernel_rfl)) (fun _ _ _ h => h) (Or.inr ⟨by rfl, rfl⟩) ?_ ?_
             rotate_left
             ·simp only [Act.put, List.setIfInBounds_toArray, List.set_cons_zero, List.set_cons_succ, zaE, zaF]
              rfl
             refine zaX (i := 6) (N := some 45) (v := undef) (a' := ?_) #[true, true, true, true, true, true, true, false, false, false, false] rfl rfl (zaG HT_.out (by kernel_rfl)) (fun _ _ _ h => h) (Or.inr ⟨by rfl, rfl⟩) ?_ ?_
             rotate_left
             ·simp only [Act.put, List.setIfInBounds_toArray, List.set_cons_zero, List.set_cons_succ, zaE, zaF]
              rfl
             refine zaX (i := 7) (N := some 46) (v := undef) (a' := ?_) #[true, true, true, true, true, true, true, true, false, false, false] rfl rfl (zaG HT_.out (by kernel_rfl)) (fun _ _ _ h => h) (Or.inr ⟨by rfl, rfl⟩) ?_ ?_
             rotate_left
             ·simp only [Act.put, List.setIfInBounds_toArray, List.set_cons_zero, List.set_cons_succ, zaE, zaF]
              rfl
             refine zaX (i := 8) (N := some 47) (v := undef) (a' := ?_) #[true, true, true, true, true, true, true, true, true, false, false] rfl rfl (zaG HT_.out (by kernel_rfl)) (fun _ _ _ h => h) (Or.inr ⟨by rfl, rfl⟩) ?_ ?_
             rotate_left
             ·simp only [Act.put, List.setIfInBounds_toArray, List.set_cons_zero, List.set_cons_succ, zaE, zaF]
              rfl
             refine zaX (i := 9) (N := some 48) (v := ?_) (a' := ?_) #[true, true, true, true, true, true, true, true, true, true, false] rfl rfl (zaG HT_.out (by kernel_rfl)) (fun _ _ _ h => h) (Or.inl ⟨by rfl, ?_⟩) ?_ ?_
             rotate_left
             ·intro w'
              go_simp
              with_reducible rfl
             rotate_left
             ·simp only [Act.put, List.setIfInBounds_toArray, List.set_cons_zero, List.set_cons_succ, zaE, zaF]
              rfl
             refine zaX (i := 10) (N := some 38) (v := ?_) (a' := ?_) #[true, true, true, true, true, true, true, true, true, true, true] rfl rfl (zaG HT_.out (by kernel_rfl)) (fun _ _ _ h => h) (Or.inl ⟨by rfl, ?_⟩) ?_ ?_
             rotate_left
             ·intro w'
              go_simp
              with_reducible rfl
             rotate_left
             ·simp only [Act.put, List.setIfInBounds_toArray, List.set_cons_zero, List.set_cons_succ, zaE, zaF]
              rfl
             refine done_ (done_of HT_.out (by kernel_rfl)) ?_
             try go_wp2
             go_meet
             case rel => exact ⟨_, (false), (by first | rfl | (simp; done) | (simp [*]; done)), H', ⟨by have := HJ2.out; have := HJ16.out; have := HJ20.out; first | omega | exact Nat.le_refl _⟩, ⟨by (with_reducible repeat (first | refine zai ?_ _ | refine zaj ?_ | refine zag ?_ _)); exact BK229.out⟩, ⟨by repeat (first | (with_reducible first | exact HB.out | apply zaa | apply zac | apply zae | refine zaf ?_ GE229.out) | exact HB.out)⟩⟩
           case rest =>
            clear HC24
            try clear c1
            try clear c2
            try clear p2
            try clear q2
            try clear hx2
            try clear c3
            try clear c6
            try clear c12
            try clear c18
            try clear c18b0
            try clear c20
            try clear c22
            try clear c22b0
            try clear c23
            try clear p23
            try clear q23
            try clear hx23
            try clear c25
            try clear c25b0
            try clear c26
            try clear c26b0
            try clear c27
            try clear c27b0
            try clear c29
            try clear hcz15_0
            try clear hcz15_1
            try clear hcz15_2
            try clear hcz19_0
            try clear hcz19_1
            try clear hcz19_2
            try clear hcz9_0
            try clear hcz9_1
            try clear hcz9_2
            try clear hfz15_0
            try clear hfz15_1
            try clear hfz15_2
            try clear hfz19_0
            try clear hfz19_1
            try clear hfz19_2
            try clear hfz9_0
            try clear hfz9_1
            try clear hfz9_2
            try clear hx233_0
            try clear hx233_1
            try clear hx233_2
            try clear p2
            try clear p233
            try clear q233
            obtain ⟨kq, x38_23, rfl, HA, HJ23, BK229, HB⟩ := hcut
            cases kq with
            | zero => exact absurd HA.out (by simp [registry_Add.j3])
            | succ kj23 =>
             have H := HA.out
             clear HA
             simp only [registry_Add.j3] at H
             by_cases c32 : x38_23 = true
             ·subst c32
              have H1 : (some (([] : List (SSchema)), 4)) = some (r1, r2) := by rw [if_pos rfl] at H; exact H
              clear H
              have H := H1
              clear H1
              simp only [Option.some.injEq, Prod.mk.injEq] at H
              obtain ⟨rfl, rfl⟩ := H
              go_wp2
              go_ret2
              exact ⟨_, by first | rfl | (simp [zap, zao] <;> rfl) | (simp [*, zap, zao] <;> rfl), by first | exact Kd.S_nil _ _ _ _ _ | exact Kd.N_nil _ _ _ _ _ | exact Kd.V_nil _ _ _ _ _ | exact Kd.Q_nil _ _ _ _ _ | exact Kd.R_nil _ _ _ _ _, by repeat (first | (with_reducible first | exact HB.out | apply zaa | apply zac | apply zae | refine zaf ?_ GE229.out) | exact HB.out)⟩
             ·replace c32 := Bool.eq_false_iff.mpr c32
              subst c32
              have H1 : (if t232 ≥ 0 then (if 0 ≤ t232 then (if t232 < (l0.length : Int) then ((schema_Fits.f kj23 ((zal l0 t232).f0) ((zal l0 t232).f1) ((zal l0 t232).f2) a1_0 a1_1 l1_2).bind fun t236 => (if t236 = true then (registry_Add.j4 kj23 l0 t232 a1_0 a1_1 l1_2) else (some (([] : List (SSchema)), 5)))) else (none)) else (none)) else (registry_Add.j4 kj23 l0 t232 a1_0 a1_1 l1_2)) = some (r1, r2) := by rw [if_neg (show ¬ (false = true) by decide)] at H; exact H
              clear H
              have H := H1
              clear H1
              by_cases c33 : t232 ≥ 0
              ·rw [if_pos c33] at H
               have c33b0 : decide (0 ≤ t232) = true := decide_eq_true c33
               clear c33
               by_cases c34 : 0 ≤ t232
               ·rw [if_pos c34] at H
                have c34b0 : decide (0 ≤ t232) = true := decide_eq_true c34
                clear c34
                by_cases c35 : t232 < (l0.length : Int)
                ·rw [if_pos c35] at H
                 have c35b0 : decide (t232 < (l0.length : Int)) = true := decide_eq_true c35
                 clear c35
                 replace H := Option.bind_eq_some_iff.mp H
                 obtain ⟨t236, A360, H⟩ := H
                 replace H : (if t236 = true then (registry_Add.j4 kj23 l0 t232 a1_0 a1_1 l1_2) else (some (([] : List (SSchema)), 5))) = some (r1, r2) := H
                 have A36 := Aside0.mk A360
                 clear A360
                 by_cases c37 : t236 = true
                 ·subst c37
                  have H1 : (registry_Add.j4 kj23 l0 t232 a1_0 a1_1 l1_2) = some (r1, r2) := by rw [if_pos rfl] at H; exact H
                  clear H
                  have H := H1
                  clear H1
                  have H' := Aside0.mk H
                  clear H
                  try go_wp2
                  have n0_ := Aside0.mk (zaj BK229.out)
                  have n1_ := Aside0.mk (zae HB.out)
                  clear BK229
                  clear HB
                  have BK229 := n0_
                  have HB := n1_
                  clear n0_ n1_
                  have p235 : 0 ≤ (t232 : Int) := of_decide_eq_true (by first | (with_reducible assumption) | assumption)
                  have q235 : t232 < (l0.length : Int) := of_decide_eq_true (by first | (with_reducible assumption) | assumption)
                  obtain ⟨ad235, A235_2, c235_2, e235, hx235_0, hx235_1, hx235_2, hl235_2, hi235_2⟩ := zbl HR0.out t232 p235 q235
                  have hw235_2 := hx235_2
                  have hw235_1 := hx235_1
                  have hw235_0 := hx235_0
                  cases e235
                  replace hx235_0 := (HB.out.cell (World.block_lt_of_cell? w _ hx235_0)).trans hx235_0
                  replace hx235_1 := (HB.out.cell (World.block_lt_of_cell? w _ hx235_1)).trans hx235_1
                  replace hx235_2 := (HB.out.cell (World.block_lt_of_cell? w _ hx235_2)).trans hx235_2
                  have HR235_2 := Aside0.mk hi235_2
                  have HC235_2 := Aside0.mk hl235_2
                  clear hi235_2 hl235_2
                  replace p235 := eq_true p235
                  replace q235 := eq_true q235
                  refine start_ (n := 12) (S := fun w' => w'.cell? ⟨gb229, 0, none⟩ = some (.string a1_0) ∧ w'.cell? ⟨gb229, 1, none⟩ = some (.int .i64 a1_1) ∧ w'.cell? ⟨gb229, 2, none⟩ = some (.slice A1_2 l1_2.length c1_2) ∧ w'.cell? (ad235.add ((t232).toNat * 3)) = some (.string ((zal l0 t232).f0)) ∧ w'.cell? ⟨(ad235.add ((t232).toNat * 3)).block, (ad235.add ((t232).toNat * 3)).off + 1, none⟩ = some (.int .i64 ((zal l0 t232).f1)) ∧ w'.cell? ⟨(ad235.add ((t232).toNat * 3)).block, (ad235.add ((t232).toNat * 3)).off + 2, none⟩ = some (.slice A235_2 ((zal l0 t232).f2).length c235_2)) (ds := []) #[false, false, false, false, false, false, false, false, false, false, false, false] (by kernel_rfl) rfl rfl ⟨(zad BK229.out 0).trans rfl, (zad BK229.out 1).trans rfl, (zad BK229.out 2).trans rfl, ((HB.out.cell (World.block_lt_of_cell? w _ hw235_0)).trans hw235_0), ((HB.out.cell (World.block_lt_of_cell? w _ hw235_1)).trans hw235_1), ((HB.out.cell (World.block_lt_of_cell? w _ hw235_2)).trans hw235_2)⟩ (fun hHeld => ?_); refine with_tabW registry_Add.tab10 registry_Add.bits10 (fun HT_ HW_ => ?_)
                  generalize wc.drew = w38 at BK229 HB HR235_2 hx235_0 hx235_1 hx235_2 hHeld ⊢
                  refine zaX (i := 0) (N := some 50) (v := ?_) (a' := ?_) #[true, false, false, false, false, false, false, false, false, false, false, false] rfl rfl (zaG HT_.out (by kernel_rfl)) (fun _ _ _ h => h) (Or.inl ⟨by rfl, ?_⟩) ?_ ?_
                  rotate_left
                  ·intro w'
                   go_simp
                   with_reducible rfl
                  rotate_left
                  ·simp only [Act.put, List.setIfInBounds_toArray, List.set_cons_zero, List.set_cons_succ, zaE, zaF]
                   rfl
                  refine zaX (i := 1) (N := some 51) (v := ?_) (a' := ?_) #[true, true, false, false, false, false, false, false, false, false, false, false] rfl rfl (zaG HT_.out (by kernel_rfl)) (fun _ _ _ h => h) (Or.inl ⟨by rfl, ?_⟩) ?_ ?_
                  rotate_left
                  ·intro w'
                   go_simp
                   with_reducible rfl
                  rotate_left
                  ·simp only [Act.put, List.setIfInBounds_toArray, List.set_cons_zero, List.set_cons_succ, zaE, zaF]
                   rfl
                  refine zaX (i := 2) (N := some 52) (v := ?_) (a' := ?_) #[true, true, true, false, false, false, false, false, false, false, false, false] rfl rfl (zaG HT_.out (by kernel_rfl)) (fun _ _ _ h => h) (Or.inl ⟨by rfl, ?_⟩) ?_ ?_
                  rotate_left
                  ·intro w'
                   go_simp
                   with_reducible rfl
                  rotate_left
                  ·simp only [Act.put, List.setIfInBounds_toArray, List.set_cons_zero, List.set_cons_succ, zaE, zaF]
                   rfl
                  refine zaX (i := 3) (N := some 53) (v := ?_) (a' := ?_) #[true, true, true, true, false, false, false, false, false, false, false, false] rfl rfl (zaG HT_.out (by kernel_rfl)) (fun _ _ _ h => h) (Or.inl ⟨by rfl, ?_⟩) ?_ ?_
                  rotate_left
                  ·intro w'
                   go_simp
                   with_reducible rfl
                  rotate_left
                  ·simp only [Act.put, List.setIfInBounds_toArray, List.set_cons_zero, List.set_cons_succ, zaE, zaF]
                   rfl
                  refine zaX (i := 4) (N := some 54) (v := ?_) (a' := ?_) #[true, true, true, true, true, false, false, false, false, false, false, false] rfl rfl (zaG HT_.out (by kernel_rfl)) (fun _ _ _ h => h) (Or.inl ⟨by rfl, ?_⟩) ?_ ?_
                  rotate_left
                  ·intro w'
                   go_simp
                   with_reducible rfl
                  rotate_left
                  ·simp only [Act.put, List.setIfInBounds_toArray, List.set_cons_zero, List.set_cons_succ, zaE, zaF]
                   rfl
                  refine zaX (i := 5) (N := some 55) (v := ?_) (a' := ?_) #[true, true, true, true, true, true, false, false, false, false, false, false] rfl rfl (zaG HT_.out (by kernel_rfl)) (fun _ _ _ h => h) (Or.inl ⟨by rfl, ?_⟩) ?_ ?_
                  rotate_left
                  ·intro w'
                   go_simp
                   with_reducible rfl
                  rotate_left
                  ·simp only [Act.put, List.setIfInBounds_toArray, List.set_cons_zero, List.set_cons_succ, zaE, zaF]
                   rfl
                  refine take_ (i := 6) (N := some 56) (v := ?_) (a' := ?_) #[true, true, true, true, true, true, true, false, false, false, false, false] rfl rfl (take_ofW HT_.out HW_.out (by kernel_rfl)) (fun _ _ _ h => h) (Or.inl ⟨by rfl, ?_⟩) hHeld ?_ ?_
                  rotate_left
                  ·rintro w' ⟨s0, s1, s2, s3, s4, s5⟩
                   go_simp
                   with_reducible rfl
                  rotate_left
                  ·simp only [Act.put, List.setIfInBounds_toArray, List.set_cons_zero, List.set_cons_succ, zaE, zaF]
                   rfl
                  refine take_ (i := 7) (N := some 57) (v := ?_) (a' := ?_) #[true, true, true, true, true, true, true, true, false, false, false, false] rfl rfl (take_ofW HT_.out HW_.out (by kernel_rfl)) (fun _ _ _ h => h) (Or.inl ⟨by rfl, ?_⟩) hHeld ?_ ?_
                  rotate_left
                  ·rintro w' ⟨s0, s1, s2, s3, s4, s5⟩
                   go_simp
                   with_reducible rfl
                  rotate_left
                  ·simp only [Act.put, List.setIfInBounds_toArray, List.set_cons_zero, List.set_cons_succ, zaE, zaF]
                   rfl
                  refine one_ (i := 8) (N := some 58) #[true, true, true, true, true, true, true, true, true, false, false, false] rfl rfl (one_of HT_.out (by kernel_rfl)) (by decide) (fun K hK => ?_)
                  refine goes_ Try.func36 (by kernel_rfl) rfl #[.agg #[.string ((zal l0 t232).f0), .int .i64 ((zal l0 t232).f1), .slice A235_2 ((zal l0 t232).f2).length c235_2], .agg #[.string a1_0, .int .i64 a1_1, .slice A1_2 l1_2.length c1_2]] (by rfl) rfl rfl (by (try simp only [List.map_toArray, List.map_cons, List.map_nil]); first | done | rfl | (simp only [List.length_drop, List.length_take]; rfl)) ?_
                  with_reducible refine (schema_Fits.calls kj23 ((zal l0 t232).f0) ((zal l0 t232).f1) _ _ ((zal l0 t232).f2) a1_0 a1_1 _ _ l1_2 true _ ?side1 ?side2 ?side3 ?side4 A36.out).mono ?_
                  (case side1 => repeat (first | exact (Kd.C_below HR235_2.out HB.out) | (with_reducible refine Kd.C_alloc ?_ _) | (with_reducible refine Kd.C_drewN ?_ _) | (with_reducible refine Kd.C_drew ?_)))
                  (case side2 => exact HC235_2.out)
                  (case side3 => repeat (first | exact (Kd.C_below HR1_2.out HB.out) | (with_reducible refine Kd.C_alloc ?_ _) | (with_reducible refine Kd.C_drewN ?_ _) | (with_reducible refine Kd.C_drew ?_)))
                  (case side4 => exact HC1_2.out)
                  rintro e w39 ⟨rfl, hb⟩
                  refine ⟨_, rfl, ?_⟩
                  have n0_ := Aside0.mk (zak (g := gb229) (o := .cells #[.string a1_0, .int .i64 a1_1, .slice A1_2 l1_2.length c1_2] 43 (0, 0)) (by (with_reducible repeat (first | refine zai ?_ _ | refine zaj ?_ | refine zag ?_ _)); exact BK229.out) hb)
                  have n1_ := Aside0.mk (zah (by repeat (first | (with_reducible first | exact HB.out | apply zaa | apply zac | apply zae | refine zaf ?_ GE229.out) | exact HB.out)) hb)
                  clear BK229
                  clear HB
                  have BK229 := n0_
                  have HB := n1_
                  clear n0_ n1_
                  (try clear hb)
                  (try clear hb2)
                  (try clear hk)
                  (try clear hi)
                  refine hK.out _ _ ⟨(zad BK229.out 0).trans rfl, (zad BK229.out 1).trans rfl, (zad BK229.out 2).trans rfl, ((HB.out.cell (World.block_lt_of_cell? w _ hw235_0)).trans hw235_0), ((HB.out.cell (World.block_lt_of_cell? w _ hw235_1)).trans hw235_1), ((HB.out.cell (World.block_lt_of_cell? w _ hw235_2)).trans hw235_2)⟩ (fun hHeld => ?_)
                  clear hK K
                  refine norm_ (a' := ?_) ?_ ?_
                  rotate_left
                  ·show Act.put _ (some 58) _ = _
                   simp only [Act.put, List.setIfInBounds_toArray, List.set_cons_zero, List.set_cons_succ, zaE, zaF]
                   rfl
                  refine zaX (i := 9) (N := some 59) (v := ?_) (a' := ?_) #[true, true, true, true, true, true, true, true, true, true, false, false] rfl rfl (zaG HT_.out (by kernel_rfl)) (fun _ _ _ h => h) (Or.inl ⟨by rfl, ?_⟩) ?_ ?_
                  rotate_left
                  ·intro w'
                   go_simp
                   with_reducible rfl
                  rotate_left
                  ·simp only [Act.put, List.setIfInBounds_toArray, List.set_cons_zero, List.set_cons_succ, zaE, zaF]
                   rfl
                  refine zaX (i := 10) (N := some 60) (v := ?_) (a' := ?_) #[true, true, true, true, true, true, true, true, true, true, true, false] rfl rfl (zaG HT_.out (by kernel_rfl)) (fun _ _ _ h => h) (Or.inl ⟨by rfl, ?_⟩) ?_ ?_
                  rotate_left
                  ·intro w'
                   go_simp
                   with_reducible rfl
                  rotate_left
                  ·simp only [Act.put, List.setIfInBounds_toArray, List.set_cons_zero, List.set_cons_succ, zaE, zaF]
                   rfl
                  refine zaX (i := 11) (N := some 49) (v := ?_) (a' := ?_) #[true, true, true, true, true, true, true, true, true, true, true, true] rfl rfl (zaG HT_.out (by kernel_rfl)) (fun _ _ _ h => h) (Or.inl ⟨by rfl, ?_⟩) ?_ ?_
                  rotate_left
                  ·intro w'
                   go_simp
                   with_reducible rfl
                  rotate_left
                  ·simp only [Act.put, List.setIfInBounds_toArray, List.set_cons_zero, List.set_cons_succ, zaE, zaF]
                   rfl
                  refine done_ (done_of HT_.out (by kernel_rfl)) ?_
                  try go_wp2
                  go_meet
                  case rel => exact ⟨_, H', ⟨by have := HJ2.out; have := HJ16.out; have := HJ20.out; have := HJ23.out; first | omega | exact Nat.le_refl _⟩, ⟨by (with_reducible repeat (first | refine zai ?_ _ | refine zaj ?_ | refine zag ?_ _)); exact BK229.out⟩, ⟨by repeat (first | (with_reducible first | exact HB.out | apply zaa | apply zac | apply zae | refine zaf ?_ GE229.out) | exact HB.out)⟩⟩
                 ·replace c37 := Bool.eq_false_iff.mpr c37
                  subst c37
                  have H1 : (some (([] : List (SSchema)), 5)) = some (r1, r2) := by rw [if_neg (show ¬ (false = true) by decide)] at H; exact H
                  clear H
                  have H := H1
                  clear H1
                  simp only [Option.some.injEq, Prod.mk.injEq] at H
                  obtain ⟨rfl, rfl⟩ := H
                  try go_wp2
                  have n0_ := Aside0.mk (zaj BK229.out)
                  have n1_ := Aside0.mk (zae HB.out)
                  clear BK229
                  clear HB
                  have BK229 := n0_
                  have HB := n1_
                  clear n0_ n1_
                  have p235 : 0 ≤ (t232 : Int) := of_decide_eq_true (by first | (with_reducible assumption) | assumption)
                  have q235 : t232 < (l0.length : Int) := of_decide_eq_true (by first | (with_reducible assumption) | assumption)
                  obtain ⟨ad235, A235_2, c235_2, e235, hx235_0, hx235_1, hx235_2, hl235_2, hi235_2⟩ := zbl HR0.out t232 p235 q235
                  have hw235_2 := hx235_2
                  have hw235_1 := hx235_1
                  have hw235_0 := hx235_0
                  cases e235
                  replace hx235_0 := (HB.out.cell (World.block_lt_of_cell? w _ hx235_0)).trans hx235_0
                  replace hx235_1 := (HB.out.cell (World.block_lt_of_cell? w _ hx235_1)).trans hx235_1
                  replace hx235_2 := (HB.out.cell (World.block_lt_of_cell? w _ hx235_2)).trans hx235_2
                  have HR235_2 := Aside0.mk hi235_2
                  have HC235_2 := Aside0.mk hl235_2
                  clear hi235_2 hl235_2
                  replace p235 := eq_true p235
                  replace q235 := eq_true q235
                  refine start_ (n := 12) (S := fun w' => w'.cell? ⟨gb229, 0, none⟩ = some (.string a1_0) ∧ w'.cell? ⟨gb229, 1, none⟩ = some (.int .i64 a1_1) ∧ w'.cell? ⟨gb229, 2, none⟩ = some (.slice A1_2 l1_2.length c1_2) ∧ w'.cell? (ad235.add ((t232).toNat * 3)) = some (.string ((zal l0 t232).f0)) ∧ w'.cell? ⟨(ad235.add ((t232).toNat * 3)).block, (ad235.add ((t232).toNat * 3)).off + 1, none⟩ = some (.int .i64 ((zal l0 t232).f1)) ∧ w'.cell? ⟨(ad235.add ((t232).toNat * 3)).block, (ad235.add ((t232).toNat * 3)).off + 2, none⟩ = some (.slice A235_2 ((zal l0 t232).f2).length c235_2)) (ds := []) #[false, false, false, false, false, false, false, false, false, false, false, false] (by kernel_rfl) rfl rfl ⟨(zad BK229.out 0).trans rfl, (zad BK229.out 1).trans rfl, (zad BK229.out 2).trans rfl, ((HB.out.cell (World.block_lt_of_cell? w _ hw235_0)).trans hw235_0), ((HB.out.cell (World.block_lt_of_cell? w _ hw235_1)).trans hw235_1), ((HB.out.cell (World.block_lt_of_cell? w _ hw235_2)).trans hw235_2)⟩ (fun hHeld => ?_); refine with_tabW registry_Add.tab10 registry_Add.bits10 (fun HT_ HW_ => ?_)
                  generalize wc.drew = w40 at BK229 HB HR235_2 hx235_0 hx235_1 hx235_2 hHeld ⊢
                  refine zaX (i := 0) (N := some 50) (v := ?_) (a' := ?_) #[true, false, false, false, false, false, false, false, false, false, false, false] rfl rfl (zaG HT_.out (by kernel_rfl)) (fun _ _ _ h => h) (Or.inl ⟨by rfl, ?_⟩) ?_ ?_
                  rotate_left
                  ·intro w'
                   go_simp
                   with_reducible rfl
                  rotate_left
                  ·simp only [Act.put, List.setIfInBounds_toArray, List.set_cons_zero, List.set_cons_succ, zaE, zaF]
                   rfl
                  refine zaX (i := 1) (N := some 51) (v := ?_) (a' := ?_) #[true, true, false, false, false, false, false, false, false, false, false, false] rfl rfl (zaG HT_.out (by kernel_rfl)) (fun _ _ _ h => h) (Or.inl ⟨by rfl, ?_⟩) ?_ ?_
                  rotate_left
                  ·intro w'
                   go_simp
                   with_reducible rfl
                  rotate_left
                  ·simp only [Act.put, List.setIfInBounds_toArray, List.set_cons_zero, List.set_cons_succ, zaE, zaF]
                   rfl
                  refine zaX (i := 2) (N := some 52) (v := ?_) (a' := ?_) #[true, true, true, false, false, false, false, false, false, false, false, false] rfl rfl (zaG HT_.out (by kernel_rfl)) (fun _ _ _ h => h) (Or.inl ⟨by rfl, ?_⟩) ?_ ?_
                  rotate_left
                  ·intro w'
                   go_simp
                   with_reducible rfl
                  rotate_left
                  ·simp only [Act.put, List.setIfInBounds_toArray, List.set_cons_zero, List.set_cons_succ, zaE, zaF]
                   rfl
                  refine zaX (i := 3) (N := some 53) (v := ?_) (a' := ?_) #[true, true, true, true, false, false, false, false, false, false, false, false] rfl rfl (zaG HT_.out (by kernel_rfl)) (fun _ _ _ h => h) (Or.inl ⟨by rfl, ?_⟩) ?_ ?_
                  rotate_left
                  ·intro w'
                   go_simp
                   with_reducible rfl
                  rotate_left
                  ·simp only [Act.put, List.setIfInBounds_toArray, List.set_cons_zero, List.set_cons_succ, zaE, zaF]
                   rfl
                  refine zaX (i := 4) (N := some 54) (v := ?_) (a' := ?_) #[true, true, true, true, true, false, false, false, false, false, false, false] rfl rfl (zaG HT_.out (by kernel_rfl)) (fun _ _ _ h => h) (Or.inl ⟨by rfl, ?_⟩) ?_ ?_
                  rotate_left
                  ·intro w'
                   go_simp
                   with_reducible rfl
                  rotate_left
                  ·simp only [Act.put, List.setIfInBounds_toArray, List.set_cons_zero, List.set_cons_succ, zaE, zaF]
                   rfl
                  refine zaX (i := 5) (N := some 55) (v := ?_) (a' := ?_) #[true, true, true, true, true, true, false, false, false, false, false, false] rfl rfl (zaG HT_.out (by kernel_rfl)) (fun _ _ _ h => h) (Or.inl ⟨by rfl, ?_⟩) ?_ ?_
                  rotate_left
                  ·intro w'
                   go_simp
                   with_reducible rfl
                  rotate_left
                  ·simp only [Act.put, List.setIfInBounds_toArray, List.set_cons_zero, List.set_cons_succ, zaE, zaF]
                   rfl
                  refine take_ (i := 6) (N := some 56) (v := ?_) (a' := ?_) #[true, true, true, true, true, true, true, false, false, false, false, false] rfl rfl (take_ofW HT_.out HW_.out (by kernel_rfl)) (fun _ _ _ h => h) (Or.inl ⟨by rfl, ?_⟩) hHeld ?_ ?_
                  rotate_left
                  ·rintro w' ⟨s0, s1, s2, s3, s4, s5⟩
                   go_simp
                   with_reducible rfl
                  rotate_left
                  ·simp only [Act.put, List.setIfInBounds_toArray, List.set_cons_zero, List.set_cons_succ, zaE, zaF]
                   rfl
                  refine take_ (i := 7) (N := some 57) (v := ?_) (a' := ?_) #[true, true, true, true, true, true, true, true, false, false, false, false] rfl rfl (take_ofW HT_.out HW_.out (by kernel_rfl)) (fun _ _ _ h => h) (Or.inl ⟨by rfl, ?_⟩) hHeld ?_ ?_
                  rotate_left
                  ·rintro w' ⟨s0, s1, s2, s3, s4, s5⟩
                   go_simp
                   with_reducible rfl
                  rotate_left
                  ·simp only [Act.put, List.setIfInBounds_toArray, List.set_cons_zero, List.set_cons_succ, zaE, zaF]
                   rfl
                  refine one_ (i := 8) (N := some 58) #[true, true, true, true, true, true, true, true, true, false, false, false] rfl rfl (one_of HT_.out (by kernel_rfl)) (by decide) (fun K hK => ?_)
                  refine goes_ Try.func36 (by kernel_rfl) rfl #[.agg #[.string ((zal l0 t232).f0), .int .i64 ((zal l0 t232).f1), .slice A235_2 ((zal l0 t232).f2).length c235_2], .agg #[.string a1_0, .int .i64 a1_1, .slice A1_2 l1_2.length c1_2]] (by rfl) rfl rfl (by (try simp only [List.map_toArray, List.map_cons, List.map_nil]); first | done | rfl | (simp only [List.length_drop, List.length_take]; rfl)) ?_
                  with_reducible refine (schema_Fits.calls kj23 ((zal l0 t232).f0) ((zal l0 t232).f1) _ _ ((zal l0 t232).f2) a1_0 a1_1 _ _ l1_2 false _ ?side1 ?side2 ?side3 ?side4 A36.out).mono ?_
                  (case side1 => repeat (first | exact (Kd.C_below HR235_2.out HB.out) | (with_reducible refine Kd.C_alloc ?_ _) | (with_reducible refine Kd.C_drewN ?_ _) | (with_reducible refine Kd.C_drew ?_)))
                  (case side2 => exact HC235_2.out)
                  (case side3 => repeat (first | exact (Kd.C_below HR1_2.out HB.out) | (with_reducible refine Kd.C_alloc ?_ _) | (with_reducible refine Kd.C_drewN ?_ _) | (with_reducible refine Kd.C_drew ?_)))
                  (case side4 => exact HC1_2.out)
                  rintro e w41 ⟨rfl, hb⟩
                  refine ⟨_, rfl, ?_⟩
                  have n0_ := Aside0.mk (zak (g := gb229) (o := .cells #[.string a1_0, .int .i64 a1_1, .slice A1_2 l1_2.length c1_2] 43 (0, 0)) (by (with_reducible repeat (first | refine zai ?_ _ | refine zaj ?_ | refine zag ?_ _)); exact BK229.out) hb)
                  have n1_ := Aside0.mk (zah (by repeat (first | (with_reducible first | exact HB.out | apply zaa | apply zac | apply zae | refine zaf ?_ GE229.out) | exact HB.out)) hb)
                  clear BK229
                  clear HB
                  have BK229 := n0_
                  have HB := n1_
                  clear n0_ n1_
                  (try clear hb)
                  (try clear hb2)
                  (try clear hk)
                  (try clear hi)
                  refine hK.out _ _ ⟨(zad BK229.out 0).trans rfl, (zad BK229.out 1).trans rfl, (zad BK229.out 2).trans rfl, ((HB.out.cell (World.block_lt_of_cell? w _ hw235_0)).trans hw235_0), ((HB.out.cell (World.block_lt_of_cell? w _ hw235_1)).trans hw235_1), ((HB.out.cell (World.block_lt_of_cell? w _ hw235_2)).trans hw235_2)⟩ (fun hHeld => ?_)
                  clear hK K
                  refine norm_ (a' := ?_) ?_ ?_
                  rotate_left
                  ·show Act.put _ (some 58) _ = _
                   simp only [Act.put, List.setIfInBounds_toArray, List.set_cons_zero, List.set_cons_succ, zaE, zaF]
                   rfl
                  refine zaX (i := 9) (N := some 59) (v := ?_) (a' := ?_) #[true, true, true, true, true, true, true, true, true, true, false, false] rfl rfl (zaG HT_.out (by kernel_rfl)) (fun _ _ _ h => h) (Or.inl ⟨by rfl, ?_⟩) ?_ ?_
                  rotate_left
                  ·intro w'
                   go_simp
                   with_reducible rfl
                  rotate_left
                  ·simp only [Act.put, List.setIfInBounds_toArray, List.set_cons_zero, List.set_cons_succ, zaE, zaF]
                   rfl
                  refine zaX (i := 10) (N := some 60) (v := ?_) (a' := ?_) #[true, true, true, true, true, true, true, true, true, true, true, false] rfl rfl (zaG HT_.out (by kernel_rfl)) (fun _ _ _ h => h) (Or.inl ⟨by rfl, ?_⟩) ?_ ?_
                  rotate_left
                  ·intro w'
                   go_simp
                   with_reducible rfl
                  rotate_left
                  ·simp only [Act.put, List.setIfInBounds_toArray, List.set_cons_zero, List.set_cons_succ, zaE, zaF]
                   rfl
                  refine zaX (i := 11) (N := some 49) (v := ?_) (a' := ?_) #[true, true, true, true, true, true, true, true, true, true, true, true] rfl rfl (zaG HT_.out (by kernel_rfl)) (fun _ _ _ h => h) (Or.inl ⟨by rfl, ?_⟩) ?_ ?_
                  rotate_left
                  ·intro w'
                   go_simp
                   with_reducible rfl
                  rotate_left
                  ·simp only [Act.put, List.setIfInBounds_toArray, List.set_cons_zero, List.set_cons_succ, zaE, zaF]
                   rfl
                  refine done_ (done_of HT_.out (by kernel_rfl)) ?_
                  try go_wp2
                  go_ret2
                  exact ⟨_, by first | rfl | (simp [zap, zao] <;> rfl) | (simp [*, zap, zao] <;> rfl), by first | exact Kd.S_nil _ _ _ _ _ | exact Kd.N_nil _ _ _ _ _ | exact Kd.V_nil _ _ _ _ _ | exact Kd.Q_nil _ _ _ _ _ | exact Kd.R_nil _ _ _ _ _, by repeat (first | (with_reducible first | exact HB.out | apply zaa | apply zac | apply zae | refine zaf ?_ GE229.out) | exact HB.out)⟩
                ·rw [if_neg c35] at H
                 exact absurd H (by simp)
               ·rw [if_neg c34] at H
                exact absurd H (by simp)
              ·rw [if_neg c33] at H
               have c33b0 : decide (0 ≤ t232) = false := decide_eq_false c33
               clear c33
               have H' := Aside0.mk H
               clear H
               try go_wp2
               have n0_ := Aside0.mk (zaj BK229.out)
               have n1_ := Aside0.mk (zae HB.out)
               clear BK229
               clear HB
               have BK229 := n0_
               have HB := n1_
               clear n0_ n1_
               refine start_ (n := 12) (S := fun w' => True) (ds := []) #[false, false, false, false, false, false, false, false, false, false, false, false] (by kernel_rfl) rfl rfl trivial (fun hHeld => ?_); refine with_tabW registry_Add.tab10 registry_Add.bits10 (fun HT_ HW_ => ?_)
               generalize wc.drew = w42 at BK229 HB hHeld ⊢
               refine zaX (i := 0) (N := some 50) (v := ?_) (a' := ?_) #[true, false, false, false, false, false, false, false, false, false, false, false] rfl rfl (zaG HT_.out (by kernel_rfl)) (fun _ _ _ h => h) (Or.inl ⟨by rfl, ?_⟩) ?_ ?_
               rotate_left
               ·intro w'
                go_simp
                with_reducible rfl
               rotate_left
               ·simp only [Act.put, List.setIfInBounds_toArray, List.set_cons_zero, List.set_cons_succ, zaE, zaF]
                rfl
               refine zaX (i := 1) (N := some 51) (v := ?_) (a' := ?_) #[true, true, false, false, false, false, false, false, false, false, false, false] rfl rfl (zaG HT_.out (by kernel_rfl)) (fun _ _ _ h => h) (Or.inl ⟨by rfl, ?_⟩) ?_ ?_
               rotate_left
               ·intro w'
                go_simp
                with_reducible rfl
               rotate_left
               ·simp only [Act.put, List.setIfInBounds_toArray, List.set_cons_zero, List.set_cons_succ, zaE, zaF]
                rfl
               refine zaX (i := 2) (N := some 52) (v := ?_) (a' := ?_) #[true, true, true, false, false, false, false, false, false, false, false, false] rfl rfl (zaG HT_.out (by kernel_rfl)) (fun _ _ _ h => h) (Or.inl ⟨by rfl, ?_⟩) ?_ ?_
               rotate_left
               ·intro w'
                go_simp
                with_reducible rfl
               rotate_left
               ·simp only [Act.put, List.setIfInBounds_toArray, List.set_cons_zero, List.set_cons_succ, zaE, zaF]
                rfl
               refine zaX (i := 3) (N := some 53) (v := undef) (a' := ?_) #[true, true, true, true, false, false, false, false, false, false, false, false] rfl rfl (zaG HT_.out (by kernel_rfl)) (fun _ _ _ h => h) (Or.inr ⟨by rfl, rfl⟩) ?_ ?_
               rotate_left
               ·simp only [Act.put, List.setIfInBounds_toArray, List.set_cons_zero, List.set_cons_succ, zaE, zaF]
                rfl
               refine zaX (i := 4) (N := some 54) (v := undef) (a' := ?_) #[true, true, true, true, true, false, false, false, false, false, false, false] rfl rfl (zaG HT_.out (by kernel_rfl)) (fun _ _ _ h => h) (Or.inr ⟨by rfl, rfl⟩) ?_ ?_
               rotate_left
               ·simp only [Act.put, List.setIfInBounds_toArray, List.set_cons_zero, List.set_cons_succ, zaE, zaF]
                rfl
               refine zaX (i := 5) (N := some 55) (v := undef) (a' := ?_) #[true, true, true, true, true, true, false, false, false, false, false, false] rfl rfl (zaG HT_.out (by kernel_rfl)) (fun _ _ _ h => h) (Or.inr ⟨by rfl, rfl⟩) ?_ ?_
               rotate_left
               ·simp only [Act.put, List.setIfInBounds_toArray, List.set_cons_zero, List.set_cons_succ, zaE, zaF]
                rfl
               refine zaX (i := 6) (N := some 56) (v := undef) (a' := ?_) #[true, true, true, true, true, true, true, false, false, false, false, false] rfl rfl (zaG HT_.out (by kernel_rfl)) (fun _ _ _ h => h) (Or.inr ⟨by rfl, rfl⟩) ?_ ?_
               rotate_left
               ·simp only [Act.put, List.setIfInBounds_toArray, List.set_cons_zero, List.set_cons_succ, zaE, zaF]
                rfl
               refine zaX (i := 7) (N := some 57) (v := undef) (a' := ?_) #[true, true, true, true, true, true, true, true, false, false, false, false] rfl rfl (zaG HT_.out (by kernel_rfl)) (fun _ _ _ h => h) (Or.inr ⟨by rfl, rfl⟩) ?_ ?_
               rotate_left
               ·simp only [Act.put, List.setIfInBounds_toArray, List.set_cons_zero, List.set_cons_succ, zaE, zaF]
                rfl
               refine zaX (i := 8) (N := some 58) (v := undef) (a' := ?_) #[true, true, true, true, true, true, true, true, true, false, false, false] rfl rfl (zaG HT_.out (by kernel_rfl)) (fun _ _ _ h => h) (Or.inr ⟨by rfl, rfl⟩) ?_ ?_
               rotate_left
               ·simp only [Act.put, List.setIfInBounds_toArray, List.set_cons_zero, List.set_cons_succ, zaE, zaF]
                rfl
               refine zaX (i := 9) (N := some 59) (v := undef) (a' := ?_) #[true, true, true, true, true, true, true, true, true, true, false, false] rfl rfl (zaG HT_.out (by kernel_rfl)) (fun _ _ _ h => h) (Or.inr ⟨by rfl, rfl⟩) ?_ ?_
               rotate_left
               ·simp only [Act.put, List.setIfInBounds_toArray, List.set_cons_zero, List.set_cons_succ, zaE, zaF]
                rfl
               refine zaX (i := 10) (N := some 60) (v := ?_) (a' := ?_) #[true, true, true, true, true, true, true, true, true, true, true, false] rfl rfl (zaG HT_.out (by kernel_rfl)) (fun _ _ _ h => h) (Or.inl ⟨by rfl, ?_⟩) ?_ ?_
               rotate_left
               ·intro w'
                go_simp
                with_reducible rfl
               rotate_left
               ·simp only [Act.put, List.setIfInBounds_toArray, List.set_cons_zero, List.set_cons_succ, zaE, zaF]
                rfl
               refine zaX (i := 11) (N := some 49) (v := ?_) (a' := ?_) #[true, true, true, true, true, true, true, true, true, true, true, true] rfl rfl (zaG HT_.out (by kernel_rfl)) (fun _ _ _ h => h) (Or.inl ⟨by rfl, ?_⟩) ?_ ?_
               rotate_left
               ·intro w'
                go_simp
                with_reducible rfl
               rotate_left
               ·simp only [Act.put, List.setIfInBounds_toArray, List.set_cons_zero, List.set_cons_succ, zaE, zaF]
                rfl
               refine done_ (done_of HT_.out (by kernel_rfl)) ?_
               try go_wp2
               go_meet
               case rel => exact ⟨_, H', ⟨by have := HJ2.out; have := HJ16.out; have := HJ20.out; have := HJ23.out; first | omega | exact Nat.le_refl _⟩, ⟨by (with_reducible repeat (first | refine zai ?_ _ | refine zaj ?_ | refine zag ?_ _)); exact BK229.out⟩, ⟨by repeat (first | (with_reducible first | exact HB.out | apply zaa | apply zac | apply zae | refine zaf ?_ GE229.out) | exact HB.out)⟩⟩
    case rest =>
     clear HC14
     try clear c1
     try clear c2
     try clear p2
     try clear q2
     try clear hx2
     try clear c3
     try clear c6
     try clear c12
     try clear c18
     try clear c18b0
     try clear c20
     try clear c22
     try clear c22b0
     try clear c23
     try clear p23
     try clear q23
     try clear hx23
     try clear c25
     try clear c25b0
     try clear c26
     try clear c26b0
     try clear c27
     try clear c27b0
     try clear c29
     try clear c32
     try clear c33
     try clear c33b0
     try clear c34
     try clear c34b0
     try clear c35
     try clear c35b0
     try clear c36
     try clear c37
     try clear hcz15_0
     try clear hcz15_1
     try clear hcz15_2
     try clear hcz19_0
     try clear hcz19_1
     try clear hcz19_2
     try clear hcz9_0
     try clear hcz9_1
     try clear hcz9_2
     try clear hfz15_0
     try clear hfz15_1
     try clear hfz15_2
     try clear hfz19_0
     try clear hfz19_1
     try clear hfz19_2
     try clear hfz9_0
     try clear hfz9_1
     try clear hfz9_2
     try clear hx233_0
     try clear hx233_1
     try clear hx233_2
     try clear hx235_0
     try clear hx235_1
     try clear hx235_2
     try clear p2
     try clear p23
     try clear p233
     try clear p235
     try clear q2
     try clear q23
     try clear q233
     try clear q235
     obtain ⟨kq, HA, HJ13, BK229, HB⟩ := hcut
     cases kq with
     | zero => exact absurd HA.out (by simp [registry_Add.j4])
     | succ kj13 =>
      have H := HA.out
      clear HA
      simp only [registry_Add.j4] at H
      have H' := Aside0.mk H
      clear H
      go_wp2
      go_loopg [7, 63] kj13 (fun kq v7 v63 w' => ∃ (x7_3 : List (SSchema)) (x63_3 : Int), v63 = .int .i64 x63_3 ∧ Aside0 (registry_Add.l0 kq t232 x7_3 l0 (l0.length : Int) x63_3 a1_0 a1_1 l1_2 = some (r1, r2)) ∧ Aside0 (kq ≤ kj13) ∧ Aside0 (Kd.S kSchema 43 w' w.heap.size (fun k_ => k_ ≠ gb229) v7 x7_3) ∧ Aside0 (w'.heap[gb229]? = some (.cells #[.string a1_0, .int .i64 a1_1, (.slice A1_2 l1_2.length c1_2)] 43 (0, 0))) ∧ Aside0 (Below w.heap.size w w'))
      case atStart => exact ⟨(([] : List (SSchema))), (0), (by first | rfl | (simp; done) | (simp [*]; done)), H', ⟨Nat.le_refl _⟩, ⟨by first | exact Kd.S_nil _ _ _ _ _ | exact Kd.N_nil _ _ _ _ _ | exact Kd.V_nil _ _ _ _ _ | exact Kd.Q_nil _ _ _ _ _ | exact Kd.R_nil _ _ _ _ _⟩, ⟨by (with_reducible repeat (first | refine zai ?_ _ | refine zaj ?_ | refine zag ?_ _)); exact BK229.out⟩, ⟨by repeat (first | (with_reducible first | exact HB.out | apply zaa | apply zac | apply zae | refine zaf ?_ GE229.out) | exact HB.out)⟩⟩
      case round =>
       clear H'
       try clear c1
       try clear c2
       try clear p2
       try clear q2
       try clear hx2
       try clear c3
       try clear c6
       try clear c12
       try clear c18
       try clear c18b0
       try clear c20
       try clear c22
       try clear c22b0
       try clear c23
       try clear p23
       try clear q23
       try clear hx23
       try clear c25
       try clear c25b0
       try clear c26
       try clear c26b0
       try clear c27
       try clear c27b0
       try clear c29
       try clear c32
       try clear c33
       try clear c33b0
       try clear c34
       try clear c34b0
       try clear c35
       try clear c35b0
       try clear c36
       try clear c37
       try clear hcz15_0
       try clear hcz15_1
       try clear hcz15_2
       try clear hcz19_0
       try clear hcz19_1
       try clear hcz19_2
       try clear hcz9_0
       try clear hcz9_1
       try clear hcz9_2
       try clear hfz15_0
       try clear hfz15_1
       try clear hfz15_2
       try clear hfz19_0
       try clear hfz19_1
       try clear hfz19_2
       try clear hfz9_0
       try clear hfz9_1
       try clear hfz9_2
       try clear hx233_0
       try clear hx233_1
       try clear hx233_2
       try clear hx235_0
       try clear hx235_1
       try clear hx235_2
       try clear p2
       try clear p23
       try clear p233
       try clear p235
       try clear q2
       try clear q23
       try clear q233
       try clear q235
       obtain ⟨x7_3, x63_3, rfl, HA, HK3, HO_7, BK229, HB⟩ := hrel
       cases gk with
       | zero => exact absurd HA.out (by simp [registry_Add.l0])
       | succ k3 =>
        have H := HA.out
        clear HA
        simp only [registry_Add.l0] at H
        by_cases c43 : x63_3 < (l0.length : Int)
        ·rw [if_pos c43] at H
         have c43b0 : decide (x63_3 < (l0.length : Int)) = true := decide_eq_true c43
         clear c43
         by_cases c44 : 0 ≤ x63_3
         ·rw [if_pos c44] at H
          have c44b0 : decide (0 ≤ x63_3) = true := decide_eq_true c44
          clear c44
          by_cases c45 : x63_3 < (l0.length : Int)
          ·rw [if_pos c45] at H
           have c45b0 : decide (x63_3 < (l0.length : Int)) = true := decide_eq_true c45
           clear c45
           replace H := Option.bind_eq_some_iff.mp H
           obtain ⟨⟨t239, t240, t241⟩, A460, H⟩ := H
           replace H : (if x7_3.length < 2932031007402 then (registry_Add.l0 k3 t232 (x7_3 ++ [(⟨t239, t240, t241⟩ : SSchema)]) l0 (l0.length : Int) (wrap64 (x63_3 + 1)) a1_0 a1_1 l1_2) else (none)) = some (r1, r2) := H
           have A46 := Aside0.mk A460
           clear A460
           by_cases c47 : x7_3.length < 2932031007402
           ·rw [if_pos c47] at H
            have LMc47 := Aside0.mk c47
            clear c47
            obtain ⟨y244, hy244⟩ : ∃ y_ : List (SSchema), y_ = (x7_3 ++ [(⟨t239, t240, t241⟩ : SSchema)]) := ⟨_, rfl⟩
            replace H : (registry_Add.l0 k3 t232 y244 l0 (l0.length : Int) (wrap64 (x63_3 + 1)) a1_0 a1_1 l1_2) = some (r1, r2) := by first | (rw [hy244]; with_reducible exact H) | (have H2_ := (Option.bind_some _ _).symm.trans H; rw [hy244]; with_reducible exact H2_) | (have H2_ := (Option.bind_some _ _).symm.trans H; with_reducible exact H2_) | with_reducible exact H | (rw [hy244]; exact H) | exact H
            have Ny244 := Aside0.mk hy244
            clear hy244
            have H' := Aside0.mk H
            clear H
            have p237 : 0 ≤ (x63_3 : Int) := of_decide_eq_true (by first | (with_reducible assumption) | assumption)
            have q237 : x63_3 < (l0.length : Int) := of_decide_eq_true (by first | (with_reducible assumption) | assumption)
            obtain ⟨ad237, A237_2, c237_2, e237, hx237_0, hx237_1, hx237_2, hl237_2, hi237_2⟩ := zbl HR0.out x63_3 p237 q237
            cases e237
            replace hx237_0 := (HB.out.cell (World.block_lt_of_cell? w _ hx237_0)).trans hx237_0
            replace hx237_1 := (HB.out.cell (World.block_lt_of_cell? w _ hx237_1)).trans hx237_1
            replace hx237_2 := (HB.out.cell (World.block_lt_of_cell? w _ hx237_2)).trans hx237_2
            have HR237_2 := Aside0.mk hi237_2
            have HC237_2 := Aside0.mk hl237_2
            clear hi237_2 hl237_2
            replace p237 := eq_true p237
            replace q237 := eq_true q237
            go_wp2_with (first | ((with_reducible refine zat (N := 9) rfl ?_); (try (refine zaC (by rfl) ?_; dsimp only)); refine zar ?hg (N := 9) ?hd (cs := #[.string (⟨#[]⟩ : ByteArray), .int .i64 0, .slice none 0 0]) (t := 43) ?hr ?_; (case hd => rfl); (case hg => rfl); (case hr => first | (go_simp; done) | (go_simp; rfl)); intro gb238 hg w48 hbox hb; have n0_ := Aside0.mk (Kd.S_below (Kd.S_elderB (by (with_reducible repeat (first | apply Kd.S_alloc | apply Kd.S_drewN | apply Kd.S_drew)); exact HO_7.out) gb238 (Nat.le_of_eq hg.symm)) hb); have n1_ := Aside0.mk (zak (g := gb229) (o := .cells #[.string a1_0, .int .i64 a1_1, .slice A1_2 l1_2.length c1_2] 43 (0, 0)) (by (with_reducible repeat (first | refine zai ?_ _ | refine zaj ?_ | refine zag ?_ _)); exact BK229.out) hb); have n2_ := Aside0.mk (zah (by repeat (first | (with_reducible first | exact HB.out | apply zaa | apply zac | apply zae | refine zaf ?_ GE229.out) | exact HB.out)) hb); have n3_ := Aside0.mk (hbox); have n4_ := Aside0.mk ((by rw [hg]; exact (zan (by repeat (first | (with_reducible first | exact HB.out | apply zaa | apply zac | apply zae | refine zaf ?_ GE229.out) | exact HB.out))) : w.heap.size ≤ gb238)); have n5_ := Aside0.mk ((by rw [hg]; exact (zan (by repeat (first | (with_reducible first | exact HB.out | apply zaa | apply zac | apply zae | refine zaf ?_ GE229.out) | exact HB.out))) : w.heap.size ≤ gb238)); have n6_ := Aside0.mk ((by rw [hg]; exact Nat.ne_of_lt (zay (g := gb229) (o := .cells #[.string a1_0, .int .i64 a1_1, .slice A1_2 l1_2.length c1_2] 43 (0, 0)) (by (with_reducible repeat (first | refine zai ?_ _ | refine zaj ?_ | refine zag ?_ _)); exact BK229.out)) : gb229 ≠ gb238)); have n7_ := Aside0.mk ((by rw [hg]; exact Nat.ne_of_gt (zay (g := gb229) (o := .cells #[.string a1_0, .int .i64 a1_1, .slice A1_2 l1_2.length c1_2] 43 (0, 0)) (by (with_reducible repeat (first | refine zai ?_ _ | refine zaj ?_ | refine zag ?_ _)); exact BK229.out)) : gb238 ≠ gb229)); clear HO_7; clear BK229; clear HB; have HO_7 := n0_; have BK229 := n1_; have HB := n2_; have BK238 := n3_; have GW238 := n4_; have GE238 := n5_; have NB229_238 := n6_; have NB238_229 := n7_; clear n0_ n1_ n2_ n3_ n4_ n5_ n6_ n7_; clear hb hbox hg; have hnb49 := NB238_229.out; have hnc49 := NB229_238.out; have hcz50_0 : w48.cell? ⟨gb238, 0, none⟩ = some (.string (⟨#[]⟩ : ByteArray)) := (zad BK238.out 0).trans rfl; have hcz50_1 : w48.cell? ⟨gb238, 1, none⟩ = some (.int .i64 0) := (zad BK238.out 1).trans rfl; have hcz50_2 : w48.cell? ⟨gb238, 2, none⟩ = some (.slice none 0 0) := (zad BK238.out 2).trans rfl; have hfz50_0 := zab BK238.out 0; have hfz50_1 := zab BK238.out 1; have hfz50_2 := zab BK238.out 2) | ((with_reducible refine zaq (f := 37) rfl ?_); refine zav (some 69) rfl rfl Try.func37 (by kernel_rfl) rfl #[.agg #[.string ((zal l0 x63_3).f0), .int .i64 ((zal l0 x63_3).f1), .slice A237_2 ((zal l0 x63_3).f2).length c237_2]] rfl (by (try simp only [List.map_toArray, List.map_cons, List.map_nil]); first | done | rfl | (simp only [List.length_drop, List.length_take]; rfl)) ?_; (with_reducible refine (registry_own.calls ((zal l0 x63_3).f0) ((zal l0 x63_3).f1) _ _ ((zal l0 x63_3).f2) t239 t240 t241 _ ?side1 ?side2 A46.out).mono ?_); (case side1 => exact Kd.C_below HR237_2.out (by repeat (first | (with_reducible first | exact HB.out | apply zaa | apply zac | apply zae | refine zaf ?_ GE229.out | refine zaf ?_ GE238.out) | exact HB.out))); (case side2 => exact HC237_2.out); rintro e w51 ⟨v242, rfl, ho0, hb⟩; refine ⟨_, rfl, ?_⟩; have n0_ := Aside0.mk (Kd.S_elder' (by (with_reducible repeat (first | apply Kd.S_alloc | apply Kd.S_drewN | apply Kd.S_drew)); exact (Kd.S_mono (Kd.S_far (p := ⟨gb238, 2, none⟩) (Kd.S_far (p := ⟨gb238, 1, none⟩) (Kd.S_far (p := ⟨gb238, 0, none⟩) (Kd.S_mono HO_7.out (fun k_ hk => (⟨hk, hk.2⟩ : _ ∧ k_ ≠ gb238))) (fun _ hk => hk.2) (.string ((zal l0 x63_3).f0))) (fun _ hk => hk.2) (.int .i64 ((zal l0 x63_3).f1))) (fun _ hk => hk.2) (.slice A237_2 ((zal l0 x63_3).f2).length c237_2)) (fun _ h_ => h_.1))) (Kd.R_base ho0) hb); have n1_ := Aside0.mk (Kd.R_lower ho0 (zan (by repeat (first | (with_reducible first | exact HB.out | apply zaa | apply zac | apply zae | refine zaf ?_ GE229.out | refine zaf ?_ GE238.out) | exact HB.out)))); have n2_ := Aside0.mk (zak (g := gb229) (o := .cells #[.string a1_0, .int .i64 a1_1, .slice A1_2 l1_2.length c1_2] 43 (0, 0)) (by (with_reducible repeat (first | refine zai ?_ _ | refine zaj ?_ | refine zag ?_ _)); refine zaM ?_ NB229_238.out _; (with_reducible repeat (first | refine zai ?_ _ | refine zaj ?_ | refine zag ?_ _)); refine zaM ?_ NB229_238.out _; (with_reducible repeat (first | refine zai ?_ _ | refine zaj ?_ | refine zag ?_ _)); refine zaM ?_ NB229_238.out _; (with_reducible repeat (first | refine zai ?_ _ | refine zaj ?_ | refine zag ?_ _)); exact BK229.out) hb); have n3_ := Aside0.mk (zak (g := gb238) (o := .cells #[.string ((zal l0 x63_3).f0), .int .i64 ((zal l0 x63_3).f1), .slice A237_2 ((zal l0 x63_3).f2).length c237_2] 43 (0, 0)) (by (with_reducible repeat (first | refine zai ?_ _ | refine zaj ?_ | refine zag ?_ _)); refine zas (cs := #[.string ((zal l0 x63_3).f0), .int .i64 ((zal l0 x63_3).f1), .slice none 0 0]) ?_ 2 _ rfl; (with_reducible repeat (first | refine zai ?_ _ | refine zaj ?_ | refine zag ?_ _)); refine zas (cs := #[.string ((zal l0 x63_3).f0), .int .i64 0, .slice none 0 0]) ?_ 1 _ rfl; (with_reducible repeat (first | refine zai ?_ _ | refine zaj ?_ | refine zag ?_ _)); refine zas (cs := #[.string (⟨#[]⟩ : ByteArray), .int .i64 0, .slice none 0 0]) ?_ 0 _ rfl; (with_reducible repeat (first | refine zai ?_ _ | refine zaj ?_ | refine zag ?_ _)); exact BK238.out) hb); have n4_ := Aside0.mk (zah (by repeat (first | (with_reducible first | exact HB.out | apply zaa | apply zac | apply zae | refine zaf ?_ GE229.out | refine zaf ?_ GE238.out) | exact HB.out)) hb); clear HO_7; clear BK229; clear BK238; clear HB; have HO_7 := n0_; have HO243 := n1_; have BK229 := n2_; have BK238 := n3_; have HB := n4_; clear n0_ n1_ n2_ n3_ n4_; (try clear hb); (try clear hb2); (try clear hk); (try clear hi); (try clear ho0); obtain ⟨Ao53, co53, eo53⟩ := Kd.R_slice HO243.out; subst eo53) | ((with_reducible refine zaD (b := .append) (xs := #[.tmp 67, .tmp 70]) rfl ?_); (try (refine zaC (by rfl) ?_; dsimp only)); at_builtin; refine Kd.S_append kSchema (w0 := w) w.heap.size rfl (.tmp 67) (.tmp 70) 34 43 (.agg #[(.string ⟨#[]⟩), (.int .i64 0), (.slice none 0 0)]) 48 rfl Try.underlying34 infoSchema rfl (by decide) (by omega) u7 x7_3 (⟨t239, t240, t241⟩ : SSchema) [.string t239, .int .i64 t240, .slice Ao53 t241.length co53] (fun k_ => k_ ≠ gb229 ∧ k_ ≠ gb238) (fun k_ => some k_ = (.slice Ao53 t241.length co53 : Value).ownBlock) rfl rfl ?aP (fun k_ hk_ => ((Kd.R_mono (ok' := fun k_ => ((fun k_ => k_ ≠ gb229 ∧ k_ ≠ gb238)) k_ ∧ some k_ ≠ (u7 : Value).ownBlock) (Kd.R_types (Kd.R_types (Kd.R_apart' (HO243.out) (Kd.S_typed HO_7.out) (by decide)) BK229.out (by decide)) BK238.out (by decide)) (fun k_ hk => ⟨⟨hk.1.2, hk.2⟩, hk.1.1.2⟩))).1 k_ hk_.symm) ?aF ?aO ?aB ?aS ?aL ?_; (case aP => exact kSchema_mkM _ _ _ (⟨t239, t240, t241⟩ : SSchema) (Kd.R_mono (Kd.R_tight rfl (Kd.R_mono (ok' := fun k_ => ((fun k_ => k_ ≠ gb229 ∧ k_ ≠ gb238)) k_ ∧ some k_ ≠ (u7 : Value).ownBlock) (Kd.R_types (Kd.R_types (Kd.R_apart' (HO243.out) (Kd.S_typed HO_7.out) (by decide)) BK229.out (by decide)) BK238.out (by decide)) (fun k_ hk => ⟨⟨hk.1.2, hk.2⟩, hk.1.1.2⟩))) (fun _ h_ => h_))); (case aB => exact (by repeat (first | (with_reducible first | exact HB.out | apply zaa | apply zac | apply zae | refine zaf ?_ GE229.out | refine zaf ?_ GE238.out) | exact HB.out))); (case aF => exact (fun k_ hk => ⟨Kd.freshB (g := gb229) (o := .cells #[.string a1_0, .int .i64 a1_1, .slice A1_2 l1_2.length c1_2] 43 (0, 0)) (by (with_reducible repeat (first | refine zai ?_ _ | refine zaj ?_ | refine zag ?_ _)); exact BK229.out) k_ hk, Kd.freshB (g := gb238) (o := .cells #[.string ((zal l0 x63_3).f0), .int .i64 ((zal l0 x63_3).f1), .slice A237_2 ((zal l0 x63_3).f2).length c237_2] 43 (0, 0)) (by (with_reducible repeat (first | refine zai ?_ _ | refine zaj ?_ | refine zag ?_ _)); exact BK238.out) k_ hk⟩)); (case aO => exact (by (with_reducible repeat (first | apply Kd.S_alloc | apply Kd.S_drewN | apply Kd.S_drew)); exact Kd.S_mono HO_7.out (fun k_ hk => ⟨⟨hk.1.1, hk.1.2⟩, fun e_ => hk.2 e_⟩))); (case aS => exact (zan (by repeat (first | (with_reducible first | exact HB.out | apply zaa | apply zac | apply zae | refine zaf ?_ GE229.out | refine zaf ?_ GE238.out) | exact HB.out)))); (case aL => have := LMc47.out; omega); intro v245 w52 ho hb hg hat; rw [← Ny244.out] at ho; have n0_ := Aside0.mk (za3 (g := gb229) (o := .cells #[.string a1_0, .int .i64 a1_1, .slice A1_2 l1_2.length c1_2] 43 (0, 0)) (by (with_reducible repeat (first | refine zai ?_ _ | refine zaj ?_ | refine zag ?_ _)); exact BK229.out) hg (Kd.S_away HO_7.out (fun _ hk => hk.1.1))); have n1_ := Aside0.mk (za3 (g := gb238) (o := .cells #[.string ((zal l0 x63_3).f0), .int .i64 ((zal l0 x63_3).f1), .slice A237_2 ((zal l0 x63_3).f2).length c237_2] 43 (0, 0)) (by (with_reducible repeat (first | refine zai ?_ _ | refine zaj ?_ | refine zag ?_ _)); exact BK238.out) hg (Kd.S_away HO_7.out (fun _ hk => hk.1.2))); have n2_ := Aside0.mk (hb); have n3_ := Aside0.mk (ho); clear BK229; clear BK238; clear HB; clear HO_7; clear HO243; have BK229 := n0_; have BK238 := n1_; have HB := n2_; have HO246 := n3_; clear n0_ n1_ n2_ n3_; clear ho hb hg hat))
            go_roundg k3
            case measure => have := HJ2.out; have := HJ13.out; have := HK3.out; omega
            case rel => exact ⟨(y244), (wrap64 (x63_3 + 1)), (by first | rfl | (simp; done) | (simp [*]; done)), H', ⟨by have := HJ2.out; have := HJ13.out; have := HK3.out; omega⟩, ⟨by (with_reducible repeat (first | apply Kd.S_alloc | apply Kd.S_drewN | apply Kd.S_drew)); exact Kd.S_mono HO246.out (fun _ hk => hk.1)⟩, ⟨by (with_reducible repeat (first | refine zai ?_ _ | refine zaj ?_ | refine zag ?_ _)); exact BK229.out⟩, ⟨by repeat (first | (with_reducible first | exact HB.out | apply zaa | apply zac | apply zae | refine zaf ?_ GE229.out | refine zaf ?_ GE238.out) | exact HB.out)⟩⟩
           ·rw [if_neg c47] at H
            exact absurd H (by simp)
          ·rw [if_neg c45] at H
           exact absurd H (by simp)
         ·rw [if_neg c44] at H
          exact absurd H (by simp)
        ·rw [if_neg c43] at H
         have c43b0 : decide (x63_3 < (l0.length : Int)) = false := decide_eq_false c43
         clear c43
         by_cases c54 : t232 < 0
         ·rw [if_pos c54] at H
          have c54b0 : decide (t232 < 0) = true := decide_eq_true c54
          clear c54
          replace H := Option.bind_eq_some_iff.mp H
          obtain ⟨⟨t247, t248, t249⟩, A550, H⟩ := H
          replace H : (if x7_3.length < 2932031007402 then (some ((x7_3 ++ [(⟨t247, t248, t249⟩ : SSchema)]), 0)) else (none)) = some (r1, r2) := H
          have A55 := Aside0.mk A550
          clear A550
          by_cases c56 : x7_3.length < 2932031007402
          ·rw [if_pos c56] at H
           have LMc56 := Aside0.mk c56
           clear c56
           obtain ⟨y252, hy252⟩ : ∃ y_ : List (SSchema), y_ = (x7_3 ++ [(⟨t247, t248, t249⟩ : SSchema)]) := ⟨_, rfl⟩
           replace H : (some (y252, 0)) = some (r1, r2) := by first | (rw [hy252]; with_reducible exact H) | (have H2_ := (Option.bind_some _ _).symm.trans H; rw [hy252]; with_reducible exact H2_) | (have H2_ := (Option.bind_some _ _).symm.trans H; with_reducible exact H2_) | with_reducible exact H | (rw [hy252]; exact H) | exact H
           have Ny252 := Aside0.mk hy252
           clear hy252
           simp only [Option.some.injEq, Prod.mk.injEq] at H
           obtain ⟨rfl, rfl⟩ := H
           have hcz57_0 : wr.cell? ⟨gb229, 0, none⟩ = some (.string a1_0) := (zad BK229.out 0).trans rfl
           have hcz57_1 : wr.cell? ⟨gb229, 1, none⟩ = some (.int .i64 a1_1) := (zad BK229.out 1).trans rfl
           have hcz57_2 : wr.cell? ⟨gb229, 2, none⟩ = some (.slice A1_2 l1_2.length c1_2) := (zad BK229.out 2).trans rfl
           have hfz57_0 := zab BK229.out 0
           have hfz57_1 := zab BK229.out 1
           have hfz57_2 := zab BK229.out 2
           go_wp2_with (first | ((with_reducible refine zaq (f := 37) rfl ?_); refine zav (some 77) rfl rfl Try.func37 (by kernel_rfl) rfl #[.agg #[.string a1_0, .int .i64 a1_1, .slice A1_2 l1_2.length c1_2]] rfl (by (try simp only [List.map_toArray, List.map_cons, List.map_nil]); first | done | rfl | (simp only [List.length_drop, List.length_take]; rfl)) ?_; (with_reducible refine (registry_own.calls a1_0 a1_1 _ _ l1_2 t247 t248 t249 _ ?side1 ?side2 A55.out).mono ?_); (case side1 => repeat (first | exact (Kd.C_below HR1_2.out HB.out) | (with_reducible refine Kd.C_alloc ?_ _) | (with_reducible refine Kd.C_drewN ?_ _) | (with_reducible refine Kd.C_drew ?_))); (case side2 => exact HC1_2.out); rintro e w58 ⟨v250, rfl, ho0, hb⟩; refine ⟨_, rfl, ?_⟩; have n0_ := Aside0.mk (Kd.S_elder' (by (with_reducible repeat (first | apply Kd.S_alloc | apply Kd.S_drewN | apply Kd.S_drew)); exact HO_7.out) (Kd.R_base ho0) hb); have n1_ := Aside0.mk (Kd.R_lower ho0 (zan (by repeat (first | (with_reducible first | exact HB.out | apply zaa | apply zac | apply zae | refine zaf ?_ GE229.out) | exact HB.out)))); have n2_ := Aside0.mk (zak (g := gb229) (o := .cells #[.string a1_0, .int .i64 a1_1, .slice A1_2 l1_2.length c1_2] 43 (0, 0)) (by (with_reducible repeat (first | refine zai ?_ _ | refine zaj ?_ | refine zag ?_ _)); exact BK229.out) hb); have n3_ := Aside0.mk (zah (by repeat (first | (with_reducible first | exact HB.out | apply zaa | apply zac | apply zae | refine zaf ?_ GE229.out) | exact HB.out)) hb); clear HO_7; clear BK229; clear HB; have HO_7 := n0_; have HO251 := n1_; have BK229 := n2_; have HB := n3_; clear n0_ n1_ n2_ n3_; (try clear hb); (try clear hb2); (try clear hk); (try clear hi); (try clear ho0); obtain ⟨Ao60, co60, eo60⟩ := Kd.R_slice HO251.out; subst eo60) | ((with_reducible refine zaD (b := .append) (xs := #[.tmp 75, .tmp 78]) rfl ?_); (try (refine zaC (by rfl) ?_; dsimp only)); at_builtin; refine Kd.S_append kSchema (w0 := w) w.heap.size rfl (.tmp 75) (.tmp 78) 34 43 (.agg #[(.string ⟨#[]⟩), (.int .i64 0), (.slice none 0 0)]) 48 rfl Try.underlying34 infoSchema rfl (by decide) (by omega) u7 x7_3 (⟨t247, t248, t249⟩ : SSchema) [.string t247, .int .i64 t248, .slice Ao60 t249.length co60] (fun k_ => k_ ≠ gb229) (fun k_ => some k_ = (.slice Ao60 t249.length co60 : Value).ownBlock) rfl rfl ?aP (fun k_ hk_ => ((Kd.R_mono (ok' := fun k_ => ((fun k_ => k_ ≠ gb229)) k_ ∧ some k_ ≠ (u7 : Value).ownBlock) (Kd.R_types (Kd.R_apart' (HO251.out) (Kd.S_typed HO_7.out) (by decide)) BK229.out (by decide)) (fun k_ hk => ⟨hk.2, hk.1.2⟩))).1 k_ hk_.symm) ?aF ?aO ?aB ?aS ?aL ?_; (case aP => exact kSchema_mkM _ _ _ (⟨t247, t248, t249⟩ : SSchema) (Kd.R_mono (Kd.R_tight rfl (Kd.R_mono (ok' := fun k_ => ((fun k_ => k_ ≠ gb229)) k_ ∧ some k_ ≠ (u7 : Value).ownBlock) (Kd.R_types (Kd.R_apart' (HO251.out) (Kd.S_typed HO_7.out) (by decide)) BK229.out (by decide)) (fun k_ hk => ⟨hk.2, hk.1.2⟩))) (fun _ h_ => h_))); (case aB => exact (by repeat (first | (with_reducible first | exact HB.out | apply zaa | apply zac | apply zae | refine zaf ?_ GE229.out) | exact HB.out))); (case aF => exact (fun k_ hk => Kd.freshB (g := gb229) (o := .cells #[.string a1_0, .int .i64 a1_1, .slice A1_2 l1_2.length c1_2] 43 (0, 0)) (by (with_reducible repeat (first | refine zai ?_ _ | refine zaj ?_ | refine zag ?_ _)); exact BK229.out) k_ hk)); (case aO => exact (by (with_reducible repeat (first | apply Kd.S_alloc | apply Kd.S_drewN | apply Kd.S_drew)); exact Kd.S_mono HO_7.out (fun k_ hk => ⟨hk.1, fun e_ => hk.2 e_⟩))); (case aS => exact (zan (by repeat (first | (with_reducible first | exact HB.out | apply zaa | apply zac | apply zae | refine zaf ?_ GE229.out) | exact HB.out)))); (case aL => have := LMc56.out; omega); intro v253 w59 ho hb hg hat; rw [← Ny252.out] at ho; have n0_ := Aside0.mk (za3 (g := gb229) (o := .cells #[.string a1_0, .int .i64 a1_1, .slice A1_2 l1_2.length c1_2] 43 (0, 0)) (by (with_reducible repeat (first | refine zai ?_ _ | refine zaj ?_ | refine zag ?_ _)); exact BK229.out) hg (Kd.S_away HO_7.out (fun _ hk => hk.1))); have n1_ := Aside0.mk (hb); have n2_ := Aside0.mk (ho); clear BK229; clear HB; clear HO_7; clear HO251; have BK229 := n0_; have HB := n1_; have HO254 := n2_; clear n0_ n1_ n2_; clear ho hb hg hat))
           go_ret2
           exact ⟨_, by first | rfl | (simp [zap, zao] <;> rfl) | (simp [*, zap, zao] <;> rfl), by (with_reducible repeat (first | apply Kd.S_alloc | apply Kd.S_drewN | apply Kd.S_drew)); exact Kd.S_mono HO254.out (fun _ hk => trivial), by repeat (first | (with_reducible first | exact HB.out | apply zaa | apply zac | apply zae | refine zaf ?_ GE229.out) | exact HB.out)⟩
          ·rw [if_neg c56] at H
           exact absurd H (by simp)
         ·rw [if_neg c54] at H
          have c54b0 : decide (t232 < 0) = false := decide_eq_false c54
          clear c54
          replace H := Option.bind_eq_some_iff.mp H
          obtain ⟨⟨t255, t256, t257⟩, A610, H⟩ := H
          replace H : (if 0 ≤ t232 then (if t232 < (x7_3.length : Int) then (some ((x7_3.set (t232 : Int).toNat (⟨t255, t256, t257⟩ : SSchema)), 0)) else (none)) else (none)) = some (r1, r2) := H
          have A61 := Aside0.mk A610
          clear A610
          by_cases c62 : 0 ≤ t232
          ·rw [if_pos c62] at H
           have c62b0 : decide (0 ≤ t232) = true := decide_eq_true c62
           clear c62
           by_cases c63 : t232 < (x7_3.length : Int)
           ·rw [if_pos c63] at H
            have c63b0 : decide (t232 < (x7_3.length : Int)) = true := decide_eq_true c63
            clear c63
            obtain ⟨y260, hy260⟩ : ∃ y_ : List (SSchema), y_ = (x7_3.set (t232 : Int).toNat (⟨t255, t256, t257⟩ : SSchema)) := ⟨_, rfl⟩
            replace H : (some (y260, 0)) = some (r1, r2) := by first | (rw [hy260]; with_reducible exact H) | (have H2_ := (Option.bind_some _ _).symm.trans H; rw [hy260]; with_reducible exact H2_) | (have H2_ := (Option.bind_some _ _).symm.trans H; with_reducible exact H2_) | with_reducible exact H | (rw [hy260]; exact H) | exact H
            have Ny260 := Aside0.mk hy260
            clear hy260
            simp only [Option.some.injEq, Prod.mk.injEq] at H
            obtain ⟨rfl, rfl⟩ := H
            have hcz65_0 : wr.cell? ⟨gb229, 0, none⟩ = some (.string a1_0) := (zad BK229.out 0).trans rfl
            have hcz65_1 : wr.cell? ⟨gb229, 1, none⟩ = some (.int .i64 a1_1) := (zad BK229.out 1).trans rfl
            have hcz65_2 : wr.cell? ⟨gb229, 2, none⟩ = some (.slice A1_2 l1_2.length c1_2) := (zad BK229.out 2).trans rfl
            have hfz65_0 := zab BK229.out 0
            have hfz65_1 := zab BK229.out 1
            have hfz65_2 := zab BK229.out 2
            go_wp2_with (first | ((with_reducible refine zaq (f := 37) rfl ?_); refine zav (some 83) rfl rfl Try.func37 (by kernel_rfl) rfl #[.agg #[.string a1_0, .int .i64 a1_1, .slice A1_2 l1_2.length c1_2]] rfl (by (try simp only [List.map_toArray, List.map_cons, List.map_nil]); first | done | rfl | (simp only [List.length_drop, List.length_take]; rfl)) ?_; (with_reducible refine (registry_own.calls a1_0 a1_1 _ _ l1_2 t255 t256 t257 _ ?side1 ?side2 A61.out).mono ?_); (case side1 => repeat (first | exact (Kd.C_below HR1_2.out HB.out) | (with_reducible refine Kd.C_alloc ?_ _) | (with_reducible refine Kd.C_drewN ?_ _) | (with_reducible refine Kd.C_drew ?_))); (case side2 => exact HC1_2.out); rintro e w66 ⟨v258, rfl, ho0, hb⟩; refine ⟨_, rfl, ?_⟩; have n0_ := Aside0.mk (Kd.S_elder' (by (with_reducible repeat (first | apply Kd.S_alloc | apply Kd.S_drewN | apply Kd.S_drew)); exact HO_7.out) (Kd.R_base ho0) hb); have n1_ := Aside0.mk (Kd.R_lower ho0 (zan (by repeat (first | (with_reducible first | exact HB.out | apply zaa | apply zac | apply zae | refine zaf ?_ GE229.out) | exact HB.out)))); have n2_ := Aside0.mk (zak (g := gb229) (o := .cells #[.string a1_0, .int .i64 a1_1, .slice A1_2 l1_2.length c1_2] 43 (0, 0)) (by (with_reducible repeat (first | refine zai ?_ _ | refine zaj ?_ | refine zag ?_ _)); exact BK229.out) hb); have n3_ := Aside0.mk (zah (by repeat (first | (with_reducible first | exact HB.out | apply zaa | apply zac | apply zae | refine zaf ?_ GE229.out) | exact HB.out)) hb); clear HO_7; clear BK229; clear HB; have HO_7 := n0_; have HO259 := n1_; have BK229 := n2_; have HB := n3_; clear n0_ n1_ n2_ n3_; (try clear hb); (try clear hb2); (try clear hk); (try clear hi); (try clear ho0); have p64 : 0 ≤ (t232 : Int) := of_decide_eq_true (by first | (with_reducible assumption) | assumption); have q64 : (t232 : Int) < ((x7_3.length : Int) : Int) := of_decide_eq_true (by first | (with_reducible assumption) | assumption); obtain ⟨go64, co64, eo64, gb64, gl64, cl64, HG64⟩ := Kd.S_form HO_7.out (by omega); (first | cases eo64 | (injection eo64 with ea_ en_ ec_; (first | subst ea_ | (injection ea_ with ea_; subst ea_)); subst ec_; clear en_)); have GB64 := Aside0.mk gb64; have GG64 := Aside0.mk HG64; clear gb64 gl64 HG64; obtain ⟨_, ce64, hcl64, hM64, hcc64, hfr64, _, _⟩ := Kd.S_elem HO_7.out zau (t232 : Int) p64 q64; obtain ⟨ve64_2, rfl, ge64_2⟩ := kSchema_openM hM64; have hx64_0 : w66.cell? ⟨go64, (t232 : Int).toNat * 3, none⟩ = some (.string ((zal x7_3 t232).f0)) := hcc64 0 _ rfl; have hx64_1 : w66.cell? ⟨go64, (t232 : Int).toNat * 3 + 1, none⟩ = some (.int .i64 ((zal x7_3 t232).f1)) := hcc64 1 _ rfl; have hx64_2 : w66.cell? ⟨go64, (t232 : Int).toNat * 3 + 2, none⟩ = some (ve64_2) := hcc64 2 _ rfl; have hf64_0 : w66.frozen? ⟨go64, (t232 : Int).toNat * 3, none⟩ = false := hfr64 0; have hf64_1 : w66.frozen? ⟨go64, (t232 : Int).toNat * 3 + 1, none⟩ = false := hfr64 1; have hf64_2 : w66.frozen? ⟨go64, (t232 : Int).toNat * 3 + 2, none⟩ = false := hfr64 2; clear hcl64 hcc64 hfr64 hM64; replace p64 := eq_true p64; replace q64 := eq_true q64; have HX67 := Aside0.mk (show Kd.S kSchema 43 w66 w.heap.size (fun k_ => ((fun k_ => k_ ≠ gb229)) k_ ∧ ¬ ((fun k_ => some k_ = (v258 : Value).ownBlock)) k_) (.slice (some ⟨go64, 0, none⟩) x7_3.length co64) x7_3 from (by (with_reducible repeat (first | apply Kd.S_alloc | apply Kd.S_drewN | apply Kd.S_drew)); exact Kd.S_mono HO_7.out (fun k_ hk => ⟨hk.1, fun e_ => hk.2 e_⟩))); obtain ⟨oki67, ce67, hcl67, hM67, hcc67, hfr67, hoki67, hH67⟩ := Kd.S_elem HX67.out zau (t232 : Int) (of_decide_eq_true (by first | (with_reducible assumption) | assumption)) (by have h_ : (t232 : Int) < ((x7_3.length : Int) : Int) := of_decide_eq_true (by first | (with_reducible assumption) | assumption); first | exact h_ | (have e_ := (Kd.S_reads' HO_7.out).1; omega) | simpa using h_); obtain ⟨ve67_2, rfl, ge67_2⟩ := kSchema_openM hM67; have HP67 := Kd.S_seg hH67 (of_decide_eq_true (by first | (with_reducible assumption) | assumption)) (by have h_ : (t232 : Int) < ((x7_3.length : Int) : Int) := of_decide_eq_true (by first | (with_reducible assumption) | assumption); first | exact h_ | (have e_ := (Kd.S_reads' HO_7.out).1; omega) | simpa using h_) (seg := [.string t255, .int .i64 t256, v258]) (j := 0) (show 3 ≤ 3 from by decide) (x' := (⟨t255, t256, t257⟩ : SSchema)) (kSchema_mkM _ _ _ (⟨t255, t256, t257⟩ : SSchema) (Kd.R_mono (Kd.R_tight rfl (Kd.R_mono (ok' := fun k_ => ((fun k_ => k_ ≠ gb229)) k_ ∧ k_ ≠ go64) (Kd.R_types (Kd.R_apart' (HO259.out) (Kd.S_typed HO_7.out) (by decide)) BK229.out (by decide)) (fun k_ hk => ⟨hk.2, fun e_ => (hk.1.2) (by rw [e_]; rfl)⟩))) (fun _ h_ => Or.inr (h_)))) (fun _ hk => hk) (fun k_ hk_ => ((Kd.R_mono (ok' := fun k_ => ((fun k_ => k_ ≠ gb229)) k_ ∧ k_ ≠ go64) (Kd.R_types (Kd.R_apart' (HO259.out) (Kd.S_typed HO_7.out) (by decide)) BK229.out (by decide)) (fun k_ hk => ⟨hk.2, fun e_ => (hk.1.2) (by rw [e_]; rfl)⟩))).1 k_ hk_.symm); have hx67_0 := hcc67 0 _ rfl; (try simp only [show (kSchema).sz = 3 from rfl, Nat.mul_one, Nat.add_zero] at hx67_0); have hf67_0 := hfr67 0; (try simp only [show (kSchema).sz = 3 from rfl, Nat.mul_one, Nat.add_zero] at hf67_0); have hx67_1 := hcc67 1 _ rfl; (try simp only [show (kSchema).sz = 3 from rfl, Nat.mul_one, Nat.add_zero] at hx67_1); have hf67_1 := hfr67 1; (try simp only [show (kSchema).sz = 3 from rfl, Nat.mul_one, Nat.add_zero] at hf67_1); have hx67_2 := hcc67 2 _ rfl; (try simp only [show (kSchema).sz = 3 from rfl, Nat.mul_one, Nat.add_zero] at hx67_2); have hf67_2 := hfr67 2; (try simp only [show (kSchema).sz = 3 from rfl, Nat.mul_one, Nat.add_zero] at hf67_2); clear hcl67 hcc67 hfr67 hM67 hoki67 hH67) | ((with_reducible refine gate_store (t := 43) (p := 84) rfl ?_); refine store_event (t := 43) (p := 84) (v := ?vo_w68) (w1 := (((w66.setCell ⟨go64, (t232 : Int).toNat * 3, none⟩ (.string t255)).setCell ⟨go64, (t232 : Int).toNat * 3 + 1, none⟩ (.int .i64 t256)).setCell ⟨go64, (t232 : Int).toNat * 3 + 2, none⟩ (v258))) ?hg ?ho ?hn ?hr ?_; (case ho => rfl); (case hg => rfl); (case hn => rfl); (case hr => first | (go_simp; done) | (go_simp; rfl) | (obtain ⟨A_0, c_0, hz_0⟩ := Kd.R_slice HO259.out; subst hz_0; first | (go_simp; done) | (go_simp; rfl))); intro w68 hw; have hg : w66.grownBy w68 (some go64) := (by rw [hw]; exact HP67.2); have hp_ : Kd.S kSchema 43 w68 w.heap.size (fun k_ => k_ ≠ gb229) (.slice (some ⟨go64, 0, none⟩) x7_3.length co64) y260 := (by rw [hw, Ny260.out]; exact HP67.1); clear HP67; have n0_ := Aside0.mk (hp_); have n1_ := Aside0.mk (za3 (g := gb229) (o := .cells #[.string a1_0, .int .i64 a1_1, .slice A1_2 l1_2.length c1_2] 43 (0, 0)) (by (with_reducible repeat (first | refine zai ?_ _ | refine zaj ?_ | refine zag ?_ _)); exact BK229.out) hg (Kd.S_away HO_7.out (fun _ hk => hk.1))); have n2_ := Aside0.mk ((by rw [hw]; exact zaf (zaf (zaf (HB.out) GB64.out) GB64.out) GB64.out : Below w.heap.size w w68)); clear HO_7; clear BK229; clear HB; clear HO259; have HO_7 := n0_; have BK229 := n1_; have HB := n2_; clear n0_ n1_ n2_; clear hg hw hp_))
            go_ret2
            exact ⟨_, by first | rfl | (simp [zap, zao] <;> rfl) | (simp [*, zap, zao] <;> rfl), by (with_reducible repeat (first | apply Kd.S_alloc | apply Kd.S_drewN | apply Kd.S_drew)); exact Kd.S_mono HO_7.out (fun _ hk => trivial), by repeat (first | (with_reducible first | exact HB.out | apply zaa | apply zac | apply zae | refine zaf ?_ GE229.out) | exact HB.out)⟩
           ·rw [if_neg c63] at H
            exact absurd H (by simp)
          ·rw [if_neg c62] at H
           exact absurd H (by simp)
end Go.Proofs.Ytooemobolfoefaa.P


namespace Go.Proofs.Ytooemobolfoefaa.P
open Go.RowKit Go.Proofs.YtooemobolfoefaaW.PrintWords Go.Proofs.YtooemobolfoefaaW.PrintLast Go.Proofs.YtooemobolfoefaaW.PrintMore
theorem idx_spec {α : Type} (p : α → Bool) (z : α) : ∀ (l : List α), 0 ≤ idx p l → ∃ i : Nat, idx p l = (i : Int) ∧ i < l.length ∧ p (l.getD i z) = true ∧ ∀ j, j < i → p (l.getD j z) = false
 | [], h => by simp [idx] at h
 | x :: l, h => by
  have e : idx p (x :: l) = if p x then 0 else if idx p l < 0 then -1 else idx p l + 1 := rfl
  rw [e] at h ⊢
  by_cases hp : p x = true
  ·rw [if_pos hp]
   exact ⟨0, rfl, by simp, by simpa using hp, fun j hj => by omega⟩
  ·rw [if_neg hp] at h ⊢
   by_cases h2 : idx p l < 0
   ·rw [if_pos h2] at h; omega
   ·rw [if_neg h2]
    obtain ⟨i, h3, h4, h5, h6⟩ := idx_spec p z l (by omega)
    refine ⟨i + 1, by omega, by simpa using h4, by simpa using h5, fun j hj => ?_⟩
    cases j with
    | zero => simpa using hp
    | succ j => simpa using h6 j (by omega)
theorem idx_neg {α : Type} (p : α → Bool) (z : α) (l : List α) (h : idx p l < 0) : ∀ i, i < l.length → p (l.getD i z) = false := by
 intro i hi
 cases hp : p (l.getD i z) with
 | false => rfl
 | true =>
  have h2 := (idx_any p l).1
  rw [decide_eq_false (by omega)] at h2
  have h3 : l.any p = true := List.any_eq_true.2 ⟨l.getD i z, by simp [List.getD, hi], hp⟩
  rw [h3] at h2
  exact absurd h2 (by simp)
theorem idx_at {α : Type} (p : α → Bool) (z : α) (l : List α) (i : Nat) (hi : i < l.length) (hp : p (l.getD i z) = true) (hj : ∀ j, j < i → p (l.getD j z) = false) : idx p l = (i : Int) := idx_skip p z l i hj hi hp
def atOf (l : List SSchema) (nm : ByteArray) : Int := idx (fun x : SSchema => x.f0.toList == nm.toList) l
theorem atOf_some {l : List SSchema} {nm : ByteArray} (h : 0 ≤ atOf l nm) : ∃ i : Nat, atOf l nm = (i : Int) ∧ i < l.length ∧ (l.getD i zau).f0.toList = nm.toList ∧ ∀ j, j < i → (l.getD j zau).f0.toList ≠ nm.toList := by
 obtain ⟨i, h1, h2, h3, h4⟩ := idx_spec _ zau l h
 exact ⟨i, h1, h2, by simpa using h3, fun j hj => by have := h4 j hj; simpa using this⟩
theorem atOf_none {l : List SSchema} {nm : ByteArray} (h : atOf l nm < 0) : ∀ i, i < l.length → (l.getD i zau).f0.toList ≠ nm.toList := by
 intro i hi
 have := idx_neg _ zau l h i hi
 simpa using this
theorem atOf_is {l : List SSchema} {nm : ByteArray} {i : Nat} (hi : i < l.length) (h : (l.getD i zau).f0.toList = nm.toList) (hj : ∀ j, j < i → (l.getD j zau).f0.toList ≠ nm.toList) : atOf l nm = (i : Int) :=
 idx_at _ zau l i hi (by simpa using h) (fun j hj2 => by have := hj j hj2; simpa using this)
theorem atOf_not {l : List SSchema} {nm : ByteArray} (h : ∀ i, i < l.length → (l.getD i zau).f0.toList ≠ nm.toList) : atOf l nm = -1 :=
 idx_none _ zau l (fun i hi => by have := h i hi; simpa using this)
def mayAll (l : List SSchema) : Bool := decide (l.length ≤ 8) && (List.range l.length).all fun i => mayS (l.getD i zau) && decide (atOf l (l.getD i zau).f0 = (i : Int))
theorem mayAll_iff {l : List SSchema} : mayAll l = true ↔ l.length ≤ 8 ∧ ∀ i, i < l.length → mayS (l.getD i zau) = true ∧ atOf l (l.getD i zau).f0 = (i : Int) := by
 unfold mayAll
 simp only [Bool.and_eq_true, decide_eq_true_eq, List.all_eq_true, List.mem_range]
theorem may_loop (l : List SSchema) (hl : l.length < 4611686018427387904) : ∀ (d i k : Nat), i + d = l.length → d < k → (∀ j, j < i → (mayS (l.getD j zau) && decide (atOf l (l.getD j zau).f0 = (j : Int))) = true) →
  registry_May.l0 k l l (l.length : Int) (i : Int) = some (mayAll l) := by
 intro d
 induction d with
 | zero =>
  intro i k hi hk h
  obtain ⟨k, rfl⟩ := zaP hk
  simp only [registry_May.l0]
  rw [if_neg (by omega)]
  unfold mayAll
  rw [range_all_none _ _ (fun j hj => h j (by omega)), Bool.and_true]
  exact congrArg some (decide_eq_decide.2 (by omega))
 | succ d ih =>
  intro i k hi hk h
  obtain ⟨k, rfl⟩ := zaP hk
  simp only [registry_May.l0]
  rw [if_pos (by omega), if_pos (by omega), if_pos (by omega), zbs (by omega)]
  rw [show zal l (i : Int) = l.getD i zau from rfl]
  have hf : ∀ b, (mayS (l.getD i zau) && decide (atOf l (l.getD i zau).f0 = (i : Int))) = b → b = false → some false = some (mayAll l) := by
   intro b hb hb2
   subst hb2
   unfold mayAll
   rw [range_all_hit _ _ i (by omega) hb, Bool.and_false]
  unfold schema_May.f registry_at.f
  simp only [Option.bind_some]
  cases h1 : mayB (l.getD i zau).f0 (l.getD i zau).f1 (l.getD i zau).f2 with
  | false => exact hf false (by unfold mayS; rw [h1, Bool.false_and]) rfl
  | true =>
   rw [if_pos rfl]
   by_cases h2 : atOf l (l.getD i zau).f0 = (i : Int)
   ·have h2' := h2
    unfold atOf at h2'
    rw [if_pos h2']
    exact ih (i + 1) k (by omega) (by omega) (all_next h (by unfold mayS; rw [h1, decide_eq_true h2]; rfl))
   ·have h2' := h2
    unfold atOf at h2'
    rw [if_neg h2']
    exact hf false (by rw [decide_eq_false h2, Bool.and_false]) rfl
theorem may_is (l : List SSchema) (hl : l.length < 4611686018427387904) {k : Nat} (hk : l.length < k) : registry_May.f k l = some (mayAll l) :=
 may_loop l hl l.length 0 k (by omega) hk (fun j hj => by omega)
theorem own_is (x : SSchema) (h : zaR x) : registry_own.f x.f0 x.f1 x.f2 = some (x.f0, x.f1, x.f2) := by
 unfold registry_own.f slices_Clone_api_Field.f
 rw [if_pos (fields_few h)]
 rfl
theorem find_none {l : List SSchema} {nm : ByteArray} (h : atOf l nm < 0) : registry_Find.f l nm = some ((⟨#[]⟩ : ByteArray), 0, [], false) := by
 unfold registry_Find.f registry_at.f
 unfold atOf at h
 simp only [Option.bind_some]
 rw [if_pos h]
theorem find_some {l : List SSchema} {nm : ByteArray} {i : Nat} (hw : ∀ y ∈ l, zaR y) (h : atOf l nm = (i : Int)) (hi : i < l.length) : registry_Find.f l nm = some ((l.getD i zau).f0, (l.getD i zau).f1, (l.getD i zau).f2, true) := by
 unfold registry_Find.f registry_at.f
 unfold atOf at h
 simp only [Option.bind_some]
 rw [h, if_neg (by omega), if_pos (by omega), if_pos (by omega), show zal l (i : Int) = l.getD i zau from rfl, own_is _ (getD_mem hw zau hi)]
 rfl
def zbC (l : List SSchema) (s : SSchema) : List SSchema × Int :=
  if mayAll l = true ∧ mayS s = true then
    (if atOf l s.f0 < 0 then (if s.f1 = 1 then (if l.length = 8 then ([], 7) else (l ++ [s], 0)) else ([], 5))
     else if eqSchema (l.getD (atOf l s.f0).toNat zau) s = true then ([], 4)
     else if fitsB (l.getD (atOf l s.f0).toNat zau) s = true then (l.set (atOf l s.f0).toNat s, 0) else ([], 5))
  else ([], 1)
theorem add_loop (l : List SSchema) (s : SSchema) (a : Int) (hl : l.length < 2000000000) (hw : ∀ y ∈ l, zaR y) (hs : zaR s) (ha : a < (l.length : Int)) : ∀ (d i k : Nat), i + d = l.length → d < k →
  registry_Add.l0 k a (l.take i) l (l.length : Int) (i : Int) s.f0 s.f1 s.f2 = some (if a < 0 then l ++ [s] else l.set a.toNat s, 0) := by
 intro d
 induction d with
 | zero =>
  intro i k hi hk
  obtain ⟨k, rfl⟩ := zaP hk
  simp only [registry_Add.l0]
  rw [if_neg (by omega), List.take_of_length_le (by omega), own_is s hs]
  simp only [Option.bind_some]
  by_cases h : a < 0
  ·rw [if_pos h, if_pos h, if_pos (by omega)]
  ·rw [if_neg h, if_neg h, if_pos (by omega), if_pos (by omega)]
 | succ d ih =>
  intro i k hi hk
  obtain ⟨k, rfl⟩ := zaP hk
  simp only [registry_Add.l0]
  rw [if_pos (by omega), if_pos (by omega), if_pos (by omega), zbs (by omega), show zal l (i : Int) = l.getD i zau from rfl, own_is _ (getD_mem hw zau (by omega))]
  simp only [Option.bind_some]
  rw [if_pos (by rw [List.length_take]; omega)]
  have h := ih (i + 1) k (by omega) (by omega)
  rw [take_snoc zau l i (by omega)] at h
  exact h
theorem add_is (l : List SSchema) (s : SSchema) (hl : l.length < 2000000000) (hw : ∀ y ∈ l, zaR y) (hs : zaR s) {k : Nat} (hk : 6000000000000 < k) : registry_Add.f k l s.f0 s.f1 s.f2 = some (zbC l s) := by
 obtain ⟨k, rfl⟩ : ∃ m, k = m + 5 := ⟨k - 5, by omega⟩
 unfold registry_Add.f zbC
 rw [may_is l (by omega) (by omega)]
 simp only [Option.bind_some]
 cases h1 : mayAll l with
 | false => simp [registry_Add.j0]
 | true =>
  rw [if_pos rfl]
  unfold schema_May.f
  simp only [Option.bind_some]
  cases h2 : mayS s with
  | false =>
   have h2' := h2
   unfold mayS at h2'
   rw [h2']
   simp [registry_Add.j0]
  | true =>
   have h2' := h2
   unfold mayS at h2'
   rw [h2']
   rw [if_pos (by simp)]
   have ea : registry_at.f l s.f0 = some (atOf l s.f0) := rfl
   simp only [registry_Add.j0, Bool.not_true, Bool.false_eq_true, if_false, ea, Option.bind_some]
   by_cases h3 : atOf l s.f0 < 0
   ·rw [if_pos h3, if_pos h3]
    simp only [registry_Add.j1]
    by_cases h4 : s.f1 = 1
    ·rw [if_neg (by simp [h4]), if_pos h3, if_pos h4]
     simp only [registry_Add.j2]
     by_cases h5 : l.length = 8
     ·rw [if_pos (by simp [h5]), if_pos h5]
     ·rw [if_neg (by simp; omega), if_neg h5, if_neg (by omega)]
      simp only [registry_Add.j3, Bool.false_eq_true, if_false]
      rw [if_neg (by omega)]
      simp only [registry_Add.j4]
      have := add_loop l s (atOf l s.f0) hl hw hs (by omega) l.length 0 k (by omega) (by omega)
      rw [if_pos h3] at this
      exact this
    ·rw [if_pos (by simpa using h4), if_neg h4]
   ·rw [if_neg h3, if_neg h3]
    obtain ⟨i, e, hi, hn, _⟩ := atOf_some (by omega : 0 ≤ atOf l s.f0)
    rw [e] at h3 ⊢
    rw [Int.toNat_natCast]
    have hwi := getD_mem hw zau hi
    have hfi := fields_few hwi
    have hfs := fields_few hs
    simp only [registry_Add.j1, Bool.false_eq_true, if_false]
    rw [if_neg h3]
    simp only [registry_Add.j2, Bool.false_eq_true, if_false]
    rw [if_pos (by omega), if_pos (by omega), if_pos (by omega), show zal l (i : Int) = l.getD i zau from rfl, schema_Same_is _ s (by omega) (by omega)]
    simp only [Option.bind_some, registry_Add.j3]
    cases h5 : eqSchema (l.getD i zau) s with
    | true => rfl
    | false =>
     simp only [Bool.false_eq_true, if_false]
     rw [if_pos (by omega), if_pos (by omega), if_pos (by omega), show zal l (i : Int) = l.getD i zau from rfl, fits_is _ s (by omega) (by omega) (by omega)]
     simp only [Option.bind_some]
     cases h6 : fitsB (l.getD i zau) s with
     | false => rfl
     | true =>
      rw [if_pos rfl, if_pos rfl]
      simp only [registry_Add.j4]
      have := add_loop l s (i : Int) hl hw hs (by omega) l.length 0 (k + 0) (by omega) (by omega)
      rw [if_neg (by omega), Int.toNat_natCast] at this
      exact this
theorem getD_set {α : Type} (l : List α) (z s : α) (i n : Nat) (hi : i < l.length) : (l.set i s).getD n z = if n = i then s else l.getD n z := by
 simp only [List.getD_eq_getElem?_getD, List.getElem?_set]
 by_cases h : i = n
 ·subst h; simp [hi]
 ·rw [if_neg h, if_neg (fun e => h e.symm)]
theorem getD_snoc {α : Type} (l : List α) (z s : α) : (l ++ [s]).getD l.length z = s := by simp
theorem addOf_ok {l : List SSchema} {s : SSchema} (h : (zbC l s).2 = 0) : mayAll l = true ∧ mayS s = true ∧ ((atOf l s.f0 < 0 ∧ s.f1 = 1 ∧ l.length < 8 ∧ zbC l s = (l ++ [s], 0)) ∨ ∃ i : Nat, atOf l s.f0 = (i : Int) ∧ i < l.length ∧ (l.getD i zau).f0.toList = s.f0.toList ∧ fitsB (l.getD i zau) s = true ∧ zbC l s = (l.set i s, 0)) := by
 unfold zbC at h ⊢
 by_cases h1 : mayAll l = true ∧ mayS s = true
 ·rw [if_pos h1] at h ⊢
  refine ⟨h1.1, h1.2, ?_⟩
  have h8 := (mayAll_iff.1 h1.1).1
  by_cases h2 : atOf l s.f0 < 0
  ·rw [if_pos h2] at h ⊢
   left
   by_cases h3 : s.f1 = 1
   ·rw [if_pos h3] at h ⊢
    by_cases h4 : l.length = 8
    ·rw [if_pos h4] at h; simp at h
    ·rw [if_neg h4] at h ⊢
     exact ⟨h2, h3, by omega, rfl⟩
   ·rw [if_neg h3] at h; simp at h
  ·rw [if_neg h2] at h ⊢
   right
   obtain ⟨i, e, hi, hn, _⟩ := atOf_some (by omega : 0 ≤ atOf l s.f0)
   rw [e, Int.toNat_natCast] at h ⊢
   by_cases h3 : eqSchema (l.getD i zau) s = true
   ·rw [if_pos h3] at h; simp at h
   ·rw [if_neg h3] at h ⊢
    by_cases h4 : fitsB (l.getD i zau) s = true
    ·rw [if_pos h4] at h ⊢
     exact ⟨i, rfl, hi, hn, h4, rfl⟩
    ·rw [if_neg h4] at h; simp at h
 ·rw [if_neg h1] at h; simp at h
theorem addOf_wf {l : List SSchema} {s : SSchema} (hw : ∀ y ∈ l, zaR y) (hs : zaR s) : ∀ y ∈ (zbC l s).1, zaR y := by
 unfold zbC
 repeat' split
 all_goals first
  | (intro y hy; simp at hy; done)
  | (intro y hy; simp at hy; rcases hy with hy | rfl; exact hw y hy; exact hs)
  | (intro y hy; rcases List.mem_or_eq_of_mem_set hy with hy | rfl; exact hw y hy; exact hs)
theorem atOf_snoc {l : List SSchema} {s : SSchema} {nm : ByteArray} {j : Nat} (h : atOf l nm = (j : Int)) : atOf (l ++ [s]) nm = (j : Int) ∧ (l ++ [s]).getD j zau = l.getD j zau := by
 obtain ⟨i, e, hi, hn, hj⟩ := atOf_some (l := l) (nm := nm) (by omega)
 obtain rfl : i = j := by omega
 have h1 : ∀ n, n < l.length → (l ++ [s]).getD n zau = l.getD n zau := fun n hn => getD_left _ _ _ hn
 refine ⟨atOf_is (by simp; omega) (by rw [h1 _ hi]; exact hn) (fun j hj2 => by rw [h1 _ (by omega)]; exact hj j hj2), h1 _ hi⟩
theorem atOf_set {l : List SSchema} {s : SSchema} {nm : ByteArray} {i : Nat} (hi : i < l.length) (he : (l.getD i zau).f0.toList = s.f0.toList) : atOf (l.set i s) nm = atOf l nm := by
 have h1 : ∀ n, ((l.set i s).getD n zau).f0.toList = (l.getD n zau).f0.toList := by
  intro n
  rw [getD_set _ _ _ _ _ hi]
  split
  ·rename_i h; rw [h, he]
  ·rfl
 by_cases h : atOf l nm < 0
 ·have h2 := atOf_none h
  rw [atOf_not (l := l.set i s) (fun n hn => by rw [h1]; exact h2 n (by simpa using hn)), atOf_not h2]
 ·obtain ⟨j, e, hj, hn, hjj⟩ := atOf_some (by omega : 0 ≤ atOf l nm)
  rw [e]
  exact atOf_is (by simpa using hj) (by rw [h1]; exact hn) (fun n hn => by rw [h1]; exact hjj n hn)
theorem few7_loop (l : List SSchema) (hl : l.length ≤ 12) : ∀ (d i k : Nat), i + d = l.length → d + 30 < k → ∃ b, towncrierlaw07_Few.l0 k l (i : Int) = some b := by
 intro d
 induction d with
 | zero =>
  intro i k hi hk
  obtain ⟨k, rfl⟩ := zaP (show 0 < k from by omega)
  simp only [towncrierlaw07_Few.l0]
  rw [if_neg (by omega)]
  exact ⟨_, rfl⟩
 | succ d ih =>
  intro i k hi hk
  obtain ⟨k, rfl⟩ := zaP (show 0 < k from by omega)
  simp only [towncrierlaw07_Few.l0]
  obtain ⟨b, hb, _⟩ := few5_some (zal l (i : Int)).f0 (zal l (i : Int)).f1 (zal l (i : Int)).f2 (k := k) (by omega)
  rw [if_pos (by omega), if_pos (by omega), hb, zbs (by omega)]
  simp only [Option.bind_some]
  split
  ·exact ih (i + 1) k (by omega) (by omega)
  ·exact ⟨_, rfl⟩
theorem few7_some (l : List SSchema) {k : Nat} (hk : 100 ≤ k) : ∃ b, towncrierlaw07_Few.f k l = some b ∧ (b = true → l.length ≤ 12) := by
 unfold towncrierlaw07_Few.f
 by_cases h : (l.length : Int) > 12
 ·rw [if_pos h]; exact ⟨_, rfl, by simp⟩
 ·rw [if_neg h]
  obtain ⟨b, hb⟩ := few7_loop l (by omega) l.length 0 k (by omega) (by omega)
  exact ⟨b, hb, fun _ => by omega⟩
end Go.Proofs.Ytooemobolfoefaa.P


namespace Go.Proofs.Ytooemobolfoefaa.P
open Go.RowKit Go.Proofs.YtooemobolfoefaaW.PrintWords Go.Proofs.YtooemobolfoefaaW.PrintLast Go.Proofs.YtooemobolfoefaaW.PrintMore
set_option linter.unusedVariables false
def i64V (v : SValue) : Prop := -9223372036854775808 ≤ v.f1 ∧ v.f1 ≤ 9223372036854775807
def eqV (x y : SValue) : Bool := (x.f0 == y.f0) && ((x.f1 == y.f1) && (x.f2.toList == y.f2.toList))
theorem eqV_iff {x y : SValue} : eqV x y = true ↔ x = y := by
 unfold eqV
 simp only [Bool.and_eq_true, beq_iff_eq]
 constructor
 ·rintro ⟨h1, h2, h3⟩
  obtain ⟨a, b, c⟩ := x
  obtain ⟨d, e, f⟩ := y
  obtain rfl : a = d := h1
  obtain rfl : b = e := h2
  obtain rfl : c = f := toList_inj h3
  rfl
 ·rintro rfl
  exact ⟨rfl, rfl, rfl⟩
theorem neV {x y : SValue} : (!(x.f0 == y.f0) || (!(x.f1 == y.f1) || !(x.f2.toList == y.f2.toList))) = !(eqV x y) := by
 unfold eqV
 cases (x.f0 == y.f0) <;> cases (x.f1 == y.f1) <;> cases (x.f2.toList == y.f2.toList) <;> rfl
end Go.Proofs.Ytooemobolfoefaa.P


namespace Go.Proofs.Ytooemobolfoefaa.P
open Go.RowKit Go.Proofs.YtooemobolfoefaaW.PrintWords Go.Proofs.YtooemobolfoefaaW.PrintLast Go.Proofs.YtooemobolfoefaaW.PrintMore
attribute [local go_sem] za1 zaZ zbb zba zaU zaT za0 zaY   -- for this text's walks alone
set_option linter.unusedVariables false
set_option linter.unusedSimpArgs false
def le_Put.f (a0 : Int) : Option (List Int) := if 0 ≤ a0 then (if a0 < 18446744073709551616 then some (zaK a0.toNat) else none) else none
theorem le_or (n : Nat) : Go.bits .or .u8 (((n : Nat) : Int) % 256) 128 = ((n % 128 + 128 : Nat) : Int) := by
 have h : ∀ b : Fin 256, Go.bits .or .u8 ((b.val : Nat) : Int) 128 = ((b.val % 128 + 128 : Nat) : Int) := by decide +kernel
 have h2 := h ⟨n % 256, Nat.mod_lt _ (by decide)⟩
 have e : ((n : Nat) : Int) % 256 = ((n % 256 : Nat) : Int) := by omega
 rw [e, h2]
 show (((n % 256) % 128 + 128 : Nat) : Int) = _
 omega
def lePutRel (a : Nat) (w : World) (n : Nat) (v : Value) (w' : World) : Prop := ∃ acc : List Int, (1 ≤ n ∨ acc = []) ∧ acc ++ zaK n = zaK a ∧ n * 128 ^ acc.length ≤ a ∧ Kd.R (Kd.int .u8) 5 w' w.heap.size (fun _ => True) v acc ∧ Below w.heap.size w w'
set_option maxHeartbeats 1000000 in
set_option maxRecDepth 100000 in
theorem le_Put.calls (a0 : Int) (r : List Int) (w : World) (h : le_Put.f a0 = some r) :
  Calls Try.prog 41 #[.int .u64 a0] w fun e w' => ∃ v0_ : Value, e = .returned v0_ ∧ Kd.R (Kd.int .u8) 5 w' w.heap.size (fun _ => True) v0_ r ∧ Below w.heap.size w w' := by
 unfold le_Put.f at h
 by_cases h0 : 0 ≤ a0
 ·rw [if_pos h0] at h
  by_cases h1 : a0 < 18446744073709551616
  ·rw [if_pos h1] at h
   obtain rfl := Option.some.inj h
   clear h
   obtain ⟨a, rfl⟩ := Int.eq_ofNat_of_zero_le h0
   have ha : a < 18446744073709551616 := by omega
   rw [Int.toNat_natCast]
   show Calls _ _ _ _ (rowPost (Kd.int .u8) 5 (zaK a) w)
   have HA := Aside0.mk ha
   clear h0 h1 ha
   go_enter Try.func41, Try.ntmps41
   go_wp2
   go_step3
   go_wp2
   go_step3
   go_wp2
   go_loopg [0, 3] (a + 1) (fun kq v0 v3 w' => ∃ n : Nat, v0 = .int .u64 (n : Int) ∧ lePutRel a w n v3 w' ∧ Aside0 (n < kq))
   case atStart => exact ⟨a, rfl, ⟨[], .inr rfl, rfl, by simp, Kd.R_nil _ _ _ _ _, Below.refl _ _⟩, ⟨by omega⟩⟩
   case round =>
    obtain ⟨n, rfl, HR, HK⟩ := hrel
    obtain ⟨acc, h1n, hacc, hle, ho, hb⟩ := HR
    have HACC := Aside0.mk hacc
    have HLE := Aside0.mk hle
    have HO := Aside0.mk ho
    have HB := Aside0.mk hb
    clear hacc hle ho hb
    have hlen : acc.length ≤ 64 := by
     rcases h1n with h | rfl
     ·have := lePut_few HLE.out HA.out h; omega
     ·simp
    clear h1n
    by_cases hn : n < 128
    ·have hn' : ((n : Nat) : Int) < 128 := by omega
     go_wp2_with ((with_reducible refine zaD (b := .append) (xs := #[.tmp 6, .tmp 9]) rfl ?_); at_builtin; refine Kd.R_append (Kd.int .u8) (w0 := w) w.heap.size rfl (.tmp 6) (.tmp 9) 25 5 (.int .u8 0) 1 rfl Try.underlying25 info5 rfl (by decide) (by omega) u3 acc (n : Int) [.int .u8 (n : Int)] (fun _ => True) (fun _ => False) rfl rfl ?aP (fun _ hk => hk.elim) (fun _ _ => trivial) ?aO ?aB ?aS ?aL ?_; (case aP => exact rfl); (case aO => exact HO.out); (case aB => exact HB.out); (case aS => exact zan HB.out); (case aL => omega); intro v1 w2 ho hb hg hat)
     rw [Exit.noGoto_ret]
     go_ret
     exact ⟨v1, rfl, by have h := HACC.out; rw [zbf hn] at h; rw [← h]; exact ho, hb⟩
    ·have hn' : ¬ ((n : Nat) : Int) < 128 := by omega
     have he := le_or n
     go_wp2_with ((with_reducible refine zaD (b := .append) (xs := #[.tmp 11, .tmp 15]) rfl ?_); at_builtin; refine Kd.R_append (Kd.int .u8) (w0 := w) w.heap.size rfl (.tmp 11) (.tmp 15) 25 5 (.int .u8 0) 1 rfl Try.underlying25 info5 rfl (by decide) (by omega) u3 acc ((n % 128 + 128 : Nat) : Int) [.int .u8 ((n % 128 + 128 : Nat) : Int)] (fun _ => True) (fun _ => False) rfl rfl ?aP (fun _ hk => hk.elim) (fun _ _ => trivial) ?aO ?aB ?aS ?aL ?_; (case aP => exact rfl); (case aO => exact HO.out); (case aB => exact HB.out); (case aS => exact zan HB.out); (case aL => omega); intro v1 w2 ho hb hg hat)
     cases gk with
     | zero => exact absurd HK.out (by omega)
     | succ k1 =>
      go_roundg k1
      case measure => omega
      case rel => exact ⟨n / 128, by simp, ⟨acc ++ [((n % 128 + 128 : Nat) : Int)], .inl (by omega), by have h := HACC.out; rw [lePut_more hn] at h; simpa using h, by have h := HLE.out; rw [List.length_append, List.length_singleton, Nat.pow_succ, Nat.mul_comm (128 ^ _) 128, ← Nat.mul_assoc]; exact Nat.le_trans (Nat.mul_le_mul_right _ (Nat.div_mul_le_self n 128)) h, ho, hb⟩, ⟨by have := HK.out; omega⟩⟩
  ·rw [if_neg h1] at h
   exact absurd h (by simp)
 ·rw [if_neg h0] at h
  exact absurd h (by simp)
theorem le_Put.told (a : Nat) (w : World) (h : a < 18446744073709551616) : Calls Try.prog 41 #[.int .u64 (a : Int)] w (rowPost (Kd.int .u8) 5 (zaK a) w) :=
 le_Put.calls (a : Int) (zaK a) w (by unfold le_Put.f; rw [if_pos (by omega), if_pos (by omega), Int.toNat_natCast])
def mayV (x : SValue) : Bool := decide ((x.f0 = 0 ∧ x.f2.toList = []) ∨ (x.f0 = 1 ∧ x.f2.toList = [] ∧ 0 ≤ x.f1 ∧ x.f1 < 2) ∨ (x.f0 = 2 ∧ x.f1 = 0 ∧ x.f2.size ≤ 40) ∨ (x.f0 = 3 ∧ x.f2.toList = [] ∧ 0 ≤ x.f1 ∧ x.f1 ≤ 1125899906842624))
theorem mayV_iff {x : SValue} : mayV x = true ↔ (x.f0 = 0 ∧ x.f2.toList = []) ∨ (x.f0 = 1 ∧ x.f2.toList = [] ∧ 0 ≤ x.f1 ∧ x.f1 < 2) ∨ (x.f0 = 2 ∧ x.f1 = 0 ∧ x.f2.size ≤ 40) ∨ (x.f0 = 3 ∧ x.f2.toList = [] ∧ 0 ≤ x.f1 ∧ x.f1 ≤ 1125899906842624) := by
 unfold mayV; rw [decide_eq_true_eq]
def heldV (x : SValue) : Value := if mayV x = true then (if x.f0 = 0 then .iface 3 (.int .i64 x.f1) else if x.f0 = 1 then .iface 4 (.bool (x.f1 == 1)) else if x.f0 = 2 then .iface 9 (.string x.f2) else .iface 114 (.int .i64 x.f1)) else .nilIface
theorem heldV_no {x : SValue} (h : mayV x = false) : heldV x = .nilIface := by unfold heldV; rw [if_neg (by rw [h]; simp)]
theorem heldV_of {x : SValue} (h : mayV x = true) : heldV x = (if x.f0 = 0 then .iface 3 (.int .i64 x.f1) else if x.f0 = 1 then .iface 4 (.bool (x.f1 == 1)) else if x.f0 = 2 then .iface 9 (.string x.f2) else .iface 114 (.int .i64 x.f1)) := by unfold heldV; rw [if_pos h]
theorem za4 {s : ByteArray} (h : s.toList = []) : s = ⟨#[]⟩ := toList_inj (h.trans (by decide +kernel))
def valPost (v : Value) (w : World) (e : Ending) (w' : World) : Prop := e = .returned v ∧ Below w.heap.size w w'
set_option maxHeartbeats 4000000 in
theorem held_told (x : SValue) (w : World) (hb : -9223372036854775808 ≤ x.f1 ∧ x.f1 ≤ 9223372036854775807) : Calls Try.prog 68 #[.agg #[.int .i64 x.f0, .int .i64 x.f1, .string x.f2]] w (valPost (heldV x) w) := by
 obtain ⟨k, n, s⟩ := x
 replace hb : -9223372036854775808 ≤ n ∧ n ≤ 9223372036854775807 := hb
 show Calls _ _ #[.agg #[.int .i64 k, .int .i64 n, .string s]] w _
 obtain ⟨v, hv⟩ : ∃ v, heldV ⟨k, n, s⟩ = v := ⟨_, rfl⟩
 rw [hv]
 by_cases hs : s.toList = []
 ·obtain rfl := za4 hs
  have hmay := @mayV_iff ⟨k, n, ⟨#[]⟩⟩
  have hk : k = 0 ∨ k = 1 ∨ k = 2 ∨ k = 3 ∨ (k ≠ 0 ∧ k ≠ 1 ∧ k ≠ 2 ∧ k ≠ 3) := by omega
  rcases hk with rfl | rfl | rfl | rfl | ⟨h0, h1, h2, h3⟩
  ·rw [heldV_of (hmay.2 (.inl ⟨rfl, hs⟩))] at hv
   subst hv
   clear hmay hs
   go_enter Try.func68, Try.ntmps68
   go_wp2
   go_ret
   exact ⟨rfl, zaa (Below.refl _ _) _⟩
  ·by_cases hn : 0 ≤ n ∧ n < 2
   ·rw [heldV_of (hmay.2 (.inr (.inl ⟨rfl, hs, hn⟩)))] at hv
    subst hv
    clear hmay hs
    have hn2 : n = 0 ∨ n = 1 := by omega
    rcases hn2 with rfl | rfl
    all_goals
     clear hn
     go_enter Try.func68, Try.ntmps68
     go_wp2
     go_ret
     exact ⟨rfl, zaa (Below.refl _ _) _⟩
   ·rw [heldV_no (by rw [← Bool.not_eq_true, hmay]; simp only; omega)] at hv
    subst hv
    clear hmay hs
    have hnb : 2 ≤ IntKind.wrap .u64 n := by
     rw [show IntKind.wrap .u64 n = n % 18446744073709551616 from rfl]
     have := hb
     omega
    clear hn
    go_enter Try.func68, Try.ntmps68
    go_wp2
    go_ret
    exact ⟨rfl, zaa (Below.refl _ _) _⟩
  ·by_cases hn : n = 0
   ·subst hn
    rw [heldV_of (hmay.2 (.inr (.inr (.inl ⟨rfl, rfl, by decide⟩))))] at hv
    subst hv
    clear hmay hs
    go_enter Try.func68, Try.ntmps68
    go_wp2
    go_ret
    exact ⟨rfl, zaa (Below.refl _ _) _⟩
   ·rw [heldV_no (by rw [← Bool.not_eq_true, hmay]; simp only; omega)] at hv
    subst hv
    have hn2 : (n == 0) = false := by simpa using hn
    clear hmay hs hn
    go_enter Try.func68, Try.ntmps68
    go_wp2
    go_ret
    exact ⟨rfl, zaa (Below.refl _ _) _⟩
  ·by_cases hn : 0 ≤ n ∧ n ≤ 1125899906842624
   ·rw [heldV_of (hmay.2 (.inr (.inr (.inr ⟨rfl, hs, hn⟩))))] at hv
    subst hv
    obtain ⟨hn1, hn2⟩ := hn
    clear hmay hs
    go_enter Try.func68, Try.ntmps68
    go_wp2
    go_ret
    exact ⟨rfl, zaa (Below.refl _ _) _⟩
   ·rw [heldV_no (by rw [← Bool.not_eq_true, hmay]; simp only; omega)] at hv
    subst hv
    clear hmay hs
    have hn2 : n < 0 ∨ 1125899906842624 < n := by omega
    rcases hn2 with hn2 | hn2
    all_goals
     clear hn
     go_enter Try.func68, Try.ntmps68
     go_wp2
     go_ret
     exact ⟨rfl, zaa (Below.refl _ _) _⟩
  ·rw [heldV_no (by rw [← Bool.not_eq_true, hmay]; simp only; omega)] at hv
   subst hv
   have e0 : (k == 0) = false := by simpa using h0
   have e1 : (k == 1) = false := by simpa using h1
   have e2 : (k == 2) = false := by simpa using h2
   have e3 : (k == 3) = false := by simpa using h3
   have e2' : (k != 2) = true := by simpa using h2
   clear hmay hs h0 h1 h2 h3
   go_enter Try.func68, Try.ntmps68
   go_wp2
   go_ret
   exact ⟨rfl, zaa (Below.refl _ _) _⟩
 ·have hse : (s.toList == []) = false := by simpa using hs
  have hse2 : s.toList.isEmpty = false := by simpa using hs
  have hmay := @mayV_iff ⟨k, n, s⟩
  by_cases hk : k = 2
  ·subst hk
   by_cases hn : n = 0 ∧ s.size ≤ 40
   ·obtain ⟨rfl, h40⟩ := hn
    rw [heldV_of (hmay.2 (.inr (.inr (.inl ⟨rfl, rfl, h40⟩))))] at hv
    subst hv
    clear hmay
    go_enter Try.func68, Try.ntmps68
    go_wp2
    go_ret
    exact ⟨rfl, zaa (Below.refl _ _) _⟩
   ·rw [heldV_no (by rw [← Bool.not_eq_true, hmay]; simp only [hs, false_and, and_false, or_false, false_or]; omega)] at hv
    subst hv
    by_cases hn0 : n = 0
    ·subst hn0
     have h40 : 40 < s.size := by omega
     clear hmay hn
     go_enter Try.func68, Try.ntmps68
     go_wp2
     go_ret
     exact ⟨rfl, zaa (Below.refl _ _) _⟩
    ·have hn2 : (n == 0) = false := by simpa using hn0
     clear hmay hn hn0
     go_enter Try.func68, Try.ntmps68
     go_wp2
     go_ret
     exact ⟨rfl, zaa (Below.refl _ _) _⟩
  ·rw [heldV_no (by rw [← Bool.not_eq_true, hmay]; simp only [hs, false_and, and_false, or_false, false_or]; omega)] at hv
   subst hv
   have e2 : (k == 2) = false := by simpa using hk
   have e2' : (k != 2) = true := by simpa using hk
   clear hmay hk
   go_enter Try.func68, Try.ntmps68
   go_wp2
   go_ret
   exact ⟨rfl, zaa (Below.refl _ _) _⟩
def le_Zig.f (a0 : Int) : Option (Int) := some (Go.bits .xor .u64 (IntKind.u64.wrap ((IntKind.u64.wrap (a0)) * 2)) (IntKind.u64.wrap (a0 / 9223372036854775808)))
set_option maxHeartbeats 8000000 in
set_option maxRecDepth 100000 in
theorem le_Zig.calls (a0 : Int) (r : Int) (w : World) (h : le_Zig.f a0 = some r) :
  Calls Try.prog 69 #[.int .i64 a0] w fun e w' => e = .returned (.int .u64 r) ∧ Drawn0 w w' := by
 have H : (some (Go.bits .xor .u64 (IntKind.u64.wrap ((IntKind.u64.wrap (a0)) * 2)) (IntKind.u64.wrap (a0 / 9223372036854775808)))) = some r := h
 clear h
 obtain rfl := Option.some.inj H
 go_enter Try.func69, Try.ntmps69
 go_wp2
 go_ret
 exact ⟨by first | rfl | (simp; done) | (simp [*]; done), by repeat (first | exact Drawn0.refl _ | apply Drawn0.step)⟩
theorem zig_is {n : Int} (h0 : -9223372036854775808 ≤ n) (h1 : n ≤ 9223372036854775807) : le_Zig.f n = some (zigN n : Int) := by
 unfold le_Zig.f zigN
 by_cases h : 0 ≤ n
 ·rw [if_pos h, show n / 9223372036854775808 = 0 from by omega, wrap_u64 0, show (0 : Int) % 18446744073709551616 = 0 from rfl, wrap_u64 n, wrap_u64]
  rw [xor_zeroU _ (by rw [ofInt_u64 (by omega) (by omega), wrap_u64]; omega)]
  congr 1
  omega
 ·rw [if_neg h, show n / 9223372036854775808 = -1 from by omega, wrap_u64 (-1), show (-1 : Int) % 18446744073709551616 = 18446744073709551615 from by decide, wrap_u64 n, wrap_u64]
  have e : n % 18446744073709551616 * 2 % 18446744073709551616 = 2 * n + 18446744073709551616 := by omega
  rw [e]
  show some (IntKind.wrap .u64 (((BitVec.ofInt 64 (2 * n + 18446744073709551616) ^^^ BitVec.ofInt 64 18446744073709551615).toNat : Nat) : Int)) = _
  rw [show BitVec.ofInt 64 18446744073709551615 = BitVec.allOnes 64 from by decide, not64, ofInt_u64 (by omega) (by omega), wrap_u64]
  congr 1
  omega
def numV (x : SValue) : Nat := if x.f0 = 0 then zigN x.f1 else if x.f0 = 2 then x.f2.size else x.f1.toNat
def bytesV (x : SValue) : List Int := x.f0 :: (zaK (numV x) ++ bytesOf x.f2)
theorem numV_lt {x : SValue} (hb : -9223372036854775808 ≤ x.f1 ∧ x.f1 ≤ 9223372036854775807) (h : mayV x = true) : numV x < 18446744073709551616 := by
 have h2 := mayV_iff.1 h
 have := zig_lt hb.1 hb.2
 unfold numV
 split
 ·exact this
 ·split <;> omega
theorem lePut_len {n : Nat} (h : n < 18446744073709551616) : (zaK n).length ≤ 10 := by
 have h2 := getN_put n [] h
 rw [List.append_nil] at h2
 exact (getN_used h2).2.2
theorem bytesOf_nil : bytesOf (⟨#[]⟩ : ByteArray) = [] := rfl
def getV (l : List Int) : Option (SValue × Nat) := match l with
 | [] => none
 | k :: r => match getN r with
  | none => none
  | some (n, u) => if k = 0 then some (⟨0, zagN n, ⟨#[]⟩⟩, u + 1)
   else if k = 2 then (if n ≤ 40 ∧ n ≤ r.length - u then some (⟨2, 0, strOfNums ((r.drop u).take n)⟩, u + 1 + n) else none)
   else if (k = 1 ∧ n < 2) ∨ (k = 3 ∧ n ≤ 1125899906842624) then some (⟨k, (n : Int), ⟨#[]⟩⟩, u + 1) else none
def gotV (r : Option (SValue × Nat)) : SValue × Nat × Bool := match r with
 | some (x, n) => (x, n, true)
 | none => (⟨0, 0, ⟨#[]⟩⟩, 0, false)
def valPost3 (x : SValue) (n : Nat) (b : Bool) (w : World) (e : Ending) (w' : World) : Prop := e = .returned (.tuple #[.agg #[.int .i64 x.f0, .int .i64 x.f1, .string x.f2], .int .i64 (n : Int), .bool b]) ∧ Below w.heap.size w w'
theorem getV_rest {k : Int} {r : List Int} {n u : Nat} (hg : getN r = some (n, u)) (h0 : k ≠ 0) (h2 : k ≠ 2) (hn : n < 18446744073709551616) :
  gotV (getV (k :: r)) = if mayV ⟨k, IntKind.wrap .i64 (n : Int), ⟨#[]⟩⟩ then (⟨k, IntKind.wrap .i64 (n : Int), ⟨#[]⟩⟩, u + 1, true) else (⟨0, 0, ⟨#[]⟩⟩, 0, false) := by
 have hw : IntKind.wrap .i64 (n : Int) = wrap64 (n : Int) := wrap_i64 _
 have he : (⟨#[]⟩ : ByteArray).toList = [] := by decide +kernel
 unfold getV
 simp only [hg]
 rw [if_neg h0, if_neg h2, hw]
 have hiff := @mayV_iff ⟨k, wrap64 (n : Int), ⟨#[]⟩⟩
 simp only [he, true_and, and_true] at hiff
 by_cases hc : (k = 1 ∧ n < 2) ∨ (k = 3 ∧ n ≤ 1125899906842624)
 ·have e : wrap64 (n : Int) = (n : Int) := by unfold wrap64; omega
  rw [if_pos hc]
  rw [e] at hiff ⊢
  rw [if_pos (hiff.2 (by rcases hc with ⟨h, h3⟩ | ⟨h, h3⟩; exact .inr (.inl ⟨h, by omega, by omega⟩); exact .inr (.inr (.inr ⟨h, by omega, by omega⟩))))]
  rfl
 ·rw [if_neg hc, if_neg]
  ·rfl
  ·rw [hiff]
   unfold wrap64
   omega
theorem as_int_int (n : Int) (W : World) : (Instr.typeAssert (.iface 3 (.int .i64 n)) 20 3 true).run Try.prog W = .ok (.tuple #[(.int .i64 n : Value), .bool true]) W := by kernel_rfl
theorem as_int_bool (n : Int) (W : World) : (Instr.typeAssert (.iface 3 (.int .i64 n)) 20 4 true).run Try.prog W = .ok (.tuple #[Value.bool false, .bool false]) W := by kernel_rfl
theorem as_int_str (n : Int) (W : World) : (Instr.typeAssert (.iface 3 (.int .i64 n)) 20 9 true).run Try.prog W = .ok (.tuple #[Value.string ⟨#[]⟩, .bool false]) W := by kernel_rfl
theorem as_int_time (n : Int) (W : World) : (Instr.typeAssert (.iface 3 (.int .i64 n)) 20 114 true).run Try.prog W = .ok (.tuple #[Value.int .i64 0, .bool false]) W := by kernel_rfl
theorem as_bool_int (n : Bool) (W : World) : (Instr.typeAssert (.iface 4 (.bool n)) 20 3 true).run Try.prog W = .ok (.tuple #[Value.int .i64 0, .bool false]) W := by kernel_rfl
theorem as_bool_bool (n : Bool) (W : World) : (Instr.typeAssert (.iface 4 (.bool n)) 20 4 true).run Try.prog W = .ok (.tuple #[(.bool n : Value), .bool true]) W := by kernel_rfl
theorem as_bool_str (n : Bool) (W : World) : (Instr.typeAssert (.iface 4 (.bool n)) 20 9 true).run Try.prog W = .ok (.tuple #[Value.string ⟨#[]⟩, .bool false]) W := by kernel_rfl
theorem as_bool_time (n : Bool) (W : World) : (Instr.typeAssert (.iface 4 (.bool n)) 20 114 true).run Try.prog W = .ok (.tuple #[Value.int .i64 0, .bool false]) W := by kernel_rfl
theorem as_str_int (n : ByteArray) (W : World) : (Instr.typeAssert (.iface 9 (.string n)) 20 3 true).run Try.prog W = .ok (.tuple #[Value.int .i64 0, .bool false]) W := by kernel_rfl
theorem as_str_bool (n : ByteArray) (W : World) : (Instr.typeAssert (.iface 9 (.string n)) 20 4 true).run Try.prog W = .ok (.tuple #[Value.bool false, .bool false]) W := by kernel_rfl
theorem as_str_str (n : ByteArray) (W : World) : (Instr.typeAssert (.iface 9 (.string n)) 20 9 true).run Try.prog W = .ok (.tuple #[(.string n : Value), .bool true]) W := by kernel_rfl
theorem as_str_time (n : ByteArray) (W : World) : (Instr.typeAssert (.iface 9 (.string n)) 20 114 true).run Try.prog W = .ok (.tuple #[Value.int .i64 0, .bool false]) W := by kernel_rfl
theorem as_time_int (n : Int) (W : World) : (Instr.typeAssert (.iface 114 (.int .i64 n)) 20 3 true).run Try.prog W = .ok (.tuple #[Value.int .i64 0, .bool false]) W := by kernel_rfl
theorem as_time_bool (n : Int) (W : World) : (Instr.typeAssert (.iface 114 (.int .i64 n)) 20 4 true).run Try.prog W = .ok (.tuple #[Value.bool false, .bool false]) W := by kernel_rfl
theorem as_time_str (n : Int) (W : World) : (Instr.typeAssert (.iface 114 (.int .i64 n)) 20 9 true).run Try.prog W = .ok (.tuple #[Value.string ⟨#[]⟩, .bool false]) W := by kernel_rfl
theorem as_time_time (n : Int) (W : World) : (Instr.typeAssert (.iface 114 (.int .i64 n)) 20 114 true).run Try.prog W = .ok (.tuple #[(.int .i64 n : Value), .bool true]) W := by kernel_rfl
theorem as_nil_int (W : World) : (Instr.typeAssert .nilIface 20 3 true).run Try.prog W = .ok (.tuple #[Value.int .i64 0, .bool false]) W := by kernel_rfl
theorem as_nil_bool (W : World) : (Instr.typeAssert .nilIface 20 4 true).run Try.prog W = .ok (.tuple #[Value.bool false, .bool false]) W := by kernel_rfl
theorem as_nil_str (W : World) : (Instr.typeAssert .nilIface 20 9 true).run Try.prog W = .ok (.tuple #[Value.string ⟨#[]⟩, .bool false]) W := by kernel_rfl
theorem as_nil_time (W : World) : (Instr.typeAssert .nilIface 20 114 true).run Try.prog W = .ok (.tuple #[Value.int .i64 0, .bool false]) W := by kernel_rfl
set_option maxHeartbeats 4000000 in
set_option maxRecDepth 100000 in
theorem value_Put.told (x : SValue) (w : World) (hb : -9223372036854775808 ≤ x.f1 ∧ x.f1 ≤ 9223372036854775807) {b : Bool} (hm : mayV x = b) {P : List Int} (hP : (if b then bytesV x else []) = P) : Calls Try.prog 59 #[.agg #[.int .i64 x.f0, .int .i64 x.f1, .string x.f2]] w (bytesPost 5 P b w) := by
 obtain ⟨k, n, s⟩ := x
 replace hb : -9223372036854775808 ≤ n ∧ n ≤ 9223372036854775807 := hb
 show Calls _ _ #[.agg #[.int .i64 k, .int .i64 n, .string s]] w _
 have HB := Aside0.mk hb
 cases b with
 | false =>
  subst hP
  have HV := Aside0.mk (heldV_no hm)
  have a1 := as_nil_int
  have a2 := as_nil_bool
  have a3 := as_nil_time
  have a4 := as_nil_str
  clear hm hb
  go_enter Try.func59, Try.ntmps59
  go_wp2_with (go_at_call 68; refine (held_told ⟨k, n, s⟩ _ HB.out).mono ?_; rw [HV.out]; rintro e w1 ⟨rfl, hb1⟩)
  go_ret2
  exact ⟨_, rfl, Kd.R_nil _ _ _ _ _, zah (zaa (zaa (Below.refl _ _) _) _) hb1⟩
 | true =>
  have hiff := mayV_iff.1 hm
  have hnum := numV_lt (x := ⟨k, n, s⟩) hb hm
  have HV := Aside0.mk (heldV_of hm)
  have hP2 : k :: (zaK (numV ⟨k, n, s⟩) ++ bytesOf s) = P := hP
  have hlen := lePut_len hnum
  clear hm hP
  rcases hiff with ⟨h0, hs⟩ | ⟨h0, hs, h1, h2⟩ | ⟨h0, h1, h2⟩ | ⟨h0, hs, h1, h2⟩
  ·replace h0 : k = 0 := h0
   subst h0
   replace hs : s.toList = [] := hs
   obtain rfl := za4 hs
   clear hs
   have hq : numV ⟨0, n, ⟨#[]⟩⟩ = zigN n := rfl
   rw [hq] at hP2 hlen hnum
   clear hq
   rw [bytesOf_nil, List.append_nil] at hP2
   subst hP2
   replace HV : Aside0 (heldV ⟨0, n, ⟨#[]⟩⟩ = .iface 3 (.int .i64 n)) := ⟨HV.out⟩
   have a0 := as_int_int
   have a1 := as_int_bool
   have a2 := as_int_time
   have a3 := as_int_str
   have HZ := Aside0.mk (zig_is hb.1 hb.2)
   clear hb
   go_enter Try.func59, Try.ntmps59
   go_wp2_with (first
    | (go_at_call 68; refine (held_told ⟨0, n, ⟨#[]⟩⟩ _ HB.out).mono ?_; rw [HV.out]; rintro e w1 ⟨rfl, hb1⟩; have HO1 := Aside0.mk ((own8_one (w.alloc (.cells #[.int .i64 0, .int .i64 n, .string ⟨#[]⟩] 73)) (e := 5) (base := w.heap.size) 0 (zan (zaa (Below.refl _ _) _))).below hb1); have HB1 := Aside0.mk (zah (zaa (zaa (Below.refl _ _) _) _) hb1); have HK1 := Aside0.mk (zak (zag (zaw w (.cells #[.int .i64 0, .int .i64 n, .string ⟨#[]⟩] 73)) _) hb1); have hc1 : ∀ i, w1.cell? ⟨w.heap.size, i, none⟩ = (#[.int .i64 0, .int .i64 n, .string ⟨#[]⟩] : Array Value)[i]? := fun i => zad HK1.out i; rw [World.size_alloc] at HO1; clear hb1)
    | (go_at_call 69; refine (le_Zig.calls n _ _ HZ.out).mono ?_; rintro e w2 ⟨rfl, hd2⟩; have hb2 := hd2.below)
    | (go_at_call 41; refine (le_Put.told (zigN n) _ hnum).mono ?_; rintro e w3 ⟨v3, rfl, ho3, hb3⟩; obtain ⟨A3, c3, rfl, hc3, hr3⟩ := Own8.reads ho3; have HR3 := Aside0.mk hr3; have HO3 := Aside0.mk (Own8.below (HO1.out.below hb2) hb3); have HB3 := Aside0.mk (zah (zah HB1.out hb2) hb3); clear ho3 hr3 hb3)
    | ((with_reducible refine zaD (b := .append) (xs := #[.tmp 18, .tmp 21]) rfl ?_); at_builtin; refine app8 (w0 := w) w.heap.size rfl _ _ 25 5 rfl Try.underlying25 info5 _ [0] (zaK (zigN n)) A3 _ c3 rfl rfl HO3.out HR3.out HB3.out (zan HB3.out) (by simp only [List.length_singleton]; omega) ?_; intro v4 w4 ho4 hb4 hg4; have HO4 := Aside0.mk ho4; have HB4 := Aside0.mk hb4; clear ho4 hb4 hg4)
    )
   go_ret2
   exact ⟨_, rfl, HO4.out, HB4.out⟩
  ·replace h0 : k = 1 := h0
   subst h0
   replace hs : s.toList = [] := hs
   obtain rfl := za4 hs
   clear hs
   replace h1 : 0 ≤ n := h1
   obtain ⟨m, rfl⟩ := Int.eq_ofNat_of_zero_le h1
   have hq : numV ⟨1, (m : Int), ⟨#[]⟩⟩ = m := rfl
   rw [hq] at hP2 hlen hnum
   clear hq
   rw [bytesOf_nil, List.append_nil] at hP2
   subst hP2
   replace HV : Aside0 (heldV ⟨1, (m : Int), ⟨#[]⟩⟩ = .iface 4 (.bool ((m : Int) == 1))) := ⟨HV.out⟩
   have a0 := as_bool_int
   have a1 := as_bool_bool
   have a2 := as_bool_time
   have a3 := as_bool_str
   have hu := u64_small' (n := m) (by omega)
   have hu0 : (0 : Int) ≤ (m : Int) := by omega
   clear h1 h2
   clear hb
   go_enter Try.func59, Try.ntmps59
   go_wp2_with (first
    | (go_at_call 68; refine (held_told ⟨1, (m : Int), ⟨#[]⟩⟩ _ HB.out).mono ?_; rw [HV.out]; rintro e w1 ⟨rfl, hb1⟩; have HO1 := Aside0.mk ((own8_one (w.alloc (.cells #[.int .i64 1, .int .i64 (m : Int), .string ⟨#[]⟩] 73)) (e := 5) (base := w.heap.size) 1 (zan (zaa (Below.refl _ _) _))).below hb1); have HB1 := Aside0.mk (zah (zaa (zaa (Below.refl _ _) _) _) hb1); have HK1 := Aside0.mk (zak (zag (zaw w (.cells #[.int .i64 1, .int .i64 (m : Int), .string ⟨#[]⟩] 73)) _) hb1); have hc1 : ∀ i, w1.cell? ⟨w.heap.size, i, none⟩ = (#[.int .i64 1, .int .i64 (m : Int), .string ⟨#[]⟩] : Array Value)[i]? := fun i => zad HK1.out i; rw [World.size_alloc] at HO1; clear hb1)
    | (go_at_call 41; refine (le_Put.told (m) _ hnum).mono ?_; rintro e w3 ⟨v3, rfl, ho3, hb3⟩; obtain ⟨A3, c3, rfl, hc3, hr3⟩ := Own8.reads ho3; have HR3 := Aside0.mk hr3; have HO3 := Aside0.mk (Own8.below HO1.out hb3); have HB3 := Aside0.mk (zah HB1.out hb3); clear ho3 hr3 hb3)
    | ((with_reducible refine zaD (b := .append) (xs := #[.tmp 30, .tmp 34]) rfl ?_); at_builtin; refine app8 (w0 := w) w.heap.size rfl _ _ 25 5 rfl Try.underlying25 info5 _ [1] (zaK (m)) A3 _ c3 rfl rfl HO3.out HR3.out HB3.out (zan HB3.out) (by simp only [List.length_singleton]; omega) ?_; intro v4 w4 ho4 hb4 hg4; have HO4 := Aside0.mk ho4; have HB4 := Aside0.mk hb4; clear ho4 hb4 hg4)
    )
   go_ret2
   exact ⟨_, rfl, HO4.out, HB4.out⟩
  ·replace h0 : k = 2 := h0
   subst h0
   replace h1 : n = 0 := h1
   replace h2 : s.size ≤ 40 := h2
   subst h1
   have hq : numV ⟨2, 0, s⟩ = s.size := rfl
   rw [hq] at hP2 hlen hnum
   clear hq
   subst hP2
   replace HV : Aside0 (heldV ⟨2, 0, s⟩ = .iface 9 (.string s)) := ⟨HV.out⟩
   have a0 := as_str_int
   have a1 := as_str_bool
   have a2 := as_str_time
   have a3 := as_str_str
   have hu := u64_small' (n := s.size) (by omega)
   clear hb
   go_enter Try.func59, Try.ntmps59
   go_wp2_with (first
    | (go_at_call 68; refine (held_told ⟨2, 0, s⟩ _ HB.out).mono ?_; rw [HV.out]; rintro e w1 ⟨rfl, hb1⟩; have HO1 := Aside0.mk ((own8_one (w.alloc (.cells #[.int .i64 2, .int .i64 0, .string s] 73)) (e := 5) (base := w.heap.size) 2 (zan (zaa (Below.refl _ _) _))).below hb1); have HB1 := Aside0.mk (zah (zaa (zaa (Below.refl _ _) _) _) hb1); have HK1 := Aside0.mk (zak (zag (zaw w (.cells #[.int .i64 2, .int .i64 0, .string s] 73)) _) hb1); have hc1 : ∀ i, w1.cell? ⟨w.heap.size, i, none⟩ = (#[.int .i64 2, .int .i64 0, .string s] : Array Value)[i]? := fun i => zad HK1.out i; rw [World.size_alloc] at HO1; clear hb1)
    | (go_at_call 41; refine (le_Put.told (s.size) _ hnum).mono ?_; rintro e w3 ⟨v3, rfl, ho3, hb3⟩; obtain ⟨A3, c3, rfl, hc3, hr3⟩ := Own8.reads ho3; have HR3 := Aside0.mk hr3; have HO3 := Aside0.mk (Own8.below HO1.out hb3); have HB3 := Aside0.mk (zah HB1.out hb3); clear ho3 hr3 hb3)
    | ((with_reducible refine zaD (b := .append) (xs := #[.tmp 39, .tmp 43]) rfl ?_); at_builtin; refine app8 (w0 := w) w.heap.size rfl _ _ 25 5 rfl Try.underlying25 info5 _ [2] (zaK (s.size)) A3 _ c3 rfl rfl HO3.out HR3.out HB3.out (zan HB3.out) (by simp only [List.length_singleton]; omega) ?_; intro v4 w4 ho4 hb4 hg4; have HO4 := Aside0.mk ho4; have HB4 := Aside0.mk hb4; clear ho4 hb4 hg4)
    | ((with_reducible refine zaD (b := .append) (xs := #[.tmp 45, .tmp 46]) rfl ?_); at_builtin; refine app8s (w0 := w) w.heap.size rfl _ _ 25 9 5 rfl Try.underlying25 Try.underlying9 info5 v4 _ s rfl rfl HO4.out HB4.out (zan HB4.out) (by simp only [List.length_append, List.length_singleton]; omega) ?_; intro v5 w5 ho5 hb5 hg5; have HO5 := Aside0.mk ho5; have HB5 := Aside0.mk hb5; clear ho5 hb5 hg5)
    )
   go_ret2
   exact ⟨_, rfl, HO5.out, HB5.out⟩
  ·replace h0 : k = 3 := h0
   subst h0
   replace hs : s.toList = [] := hs
   obtain rfl := za4 hs
   clear hs
   replace h1 : 0 ≤ n := h1
   obtain ⟨m, rfl⟩ := Int.eq_ofNat_of_zero_le h1
   have hq : numV ⟨3, (m : Int), ⟨#[]⟩⟩ = m := rfl
   rw [hq] at hP2 hlen hnum
   clear hq
   rw [bytesOf_nil, List.append_nil] at hP2
   subst hP2
   replace HV : Aside0 (heldV ⟨3, (m : Int), ⟨#[]⟩⟩ = .iface 114 (.int .i64 (m : Int))) := ⟨HV.out⟩
   have a0 := as_time_int
   have a1 := as_time_bool
   have a2 := as_time_time
   have a3 := as_time_str
   have hu := u64_small' (n := m) (by omega)
   have hu0 : (0 : Int) ≤ (m : Int) := by omega
   clear h1 h2
   clear hb
   go_enter Try.func59, Try.ntmps59
   go_wp2_with (first
    | (go_at_call 68; refine (held_told ⟨3, (m : Int), ⟨#[]⟩⟩ _ HB.out).mono ?_; rw [HV.out]; rintro e w1 ⟨rfl, hb1⟩; have HO1 := Aside0.mk ((own8_one (w.alloc (.cells #[.int .i64 3, .int .i64 (m : Int), .string ⟨#[]⟩] 73)) (e := 5) (base := w.heap.size) 3 (zan (zaa (Below.refl _ _) _))).below hb1); have HB1 := Aside0.mk (zah (zaa (zaa (Below.refl _ _) _) _) hb1); have HK1 := Aside0.mk (zak (zag (zaw w (.cells #[.int .i64 3, .int .i64 (m : Int), .string ⟨#[]⟩] 73)) _) hb1); have hc1 : ∀ i, w1.cell? ⟨w.heap.size, i, none⟩ = (#[.int .i64 3, .int .i64 (m : Int), .string ⟨#[]⟩] : Array Value)[i]? := fun i => zad HK1.out i; rw [World.size_alloc] at HO1; clear hb1)
    | (go_at_call 41; refine (le_Put.told (m) _ hnum).mono ?_; rintro e w3 ⟨v3, rfl, ho3, hb3⟩; obtain ⟨A3, c3, rfl, hc3, hr3⟩ := Own8.reads ho3; have HR3 := Aside0.mk hr3; have HO3 := Aside0.mk (Own8.below HO1.out hb3); have HB3 := Aside0.mk (zah HB1.out hb3); clear ho3 hr3 hb3)
    | ((with_reducible refine zaD (b := .append) (xs := #[.tmp 30, .tmp 34]) rfl ?_); at_builtin; refine app8 (w0 := w) w.heap.size rfl _ _ 25 5 rfl Try.underlying25 info5 _ [3] (zaK (m)) A3 _ c3 rfl rfl HO3.out HR3.out HB3.out (zan HB3.out) (by simp only [List.length_singleton]; omega) ?_; intro v4 w4 ho4 hb4 hg4; have HO4 := Aside0.mk ho4; have HB4 := Aside0.mk hb4; clear ho4 hb4 hg4)
    )
   go_ret2
   exact ⟨_, rfl, HO4.out, HB4.out⟩
end Go.Proofs.Ytooemobolfoefaa.P

