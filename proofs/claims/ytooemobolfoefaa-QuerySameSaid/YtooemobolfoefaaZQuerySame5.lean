/- What QuerySame's row stands on: words, contracts of the functions that it reaches, plain facts, its walk (part 5): no condition but those that each theorem names. -/
import Derived.Test.YtooemobolfoefaaZQuerySame4
set_option linter.unusedVariables false
set_option linter.unusedSimpArgs false
namespace Go.Proofs.Ytooemobolfoefaa.P
open Go.RowKit Go.Proofs.YtooemobolfoefaaW.PrintWords Go.Proofs.YtooemobolfoefaaW.PrintLast Go.Proofs.YtooemobolfoefaaW.PrintMore
attribute [local go_sem] zaX zaV zbf zbe zaO zaN zaW zaU   -- for this text's walks alone
set_option linter.unusedVariables false
set_option linter.unusedSimpArgs false
def zbp (w0 : World) (B : Nat) (V : Value) (k : Bool) (r : Except Int (List SValue)) (e : Ending) (w' : World) : Prop := match r with
 | .ok q => e = .returned (.int .i64 0) ∧ pileRel w0 B V k q w'
 | .error n => e = .returned (.int .i64 n) ∧ ∃ q, pileRel w0 B V k q w'
theorem at_thing {w : World} {ad : Addr} {n : Nat} {xs : List SValue} (h : Kd.C kThing w (some ad) n xs) (i : Nat) (hi : i < n) : w.cell? (ad.add i) = some (thV (xs.getD i zaL)) := by
 obtain ⟨ad', c, e, hl, hK, hcell⟩ := Kd.C_get h zaL (i : Int) (by omega) (by omega)
 cases e
 have hK2 : c = [thV (xs.getD ((i : Int).toNat) zaL)] := hK
 subst hK2
 have := hcell 0 _ rfl
 rw [show kThing.sz = 1 from rfl, Nat.mul_one, Nat.add_zero, Int.toNat_natCast] at this
 exact this
theorem za4 (a : Addr) : a.add 0 = a := by simp [Addr.add]
theorem at_last {w : World} {ad : Addr} {xs : List SValue} {m : Nat} (h : Kd.C kThing w (some ad) 1 (xs.drop m)) (hm : xs.length = m + 1) : w.cell? ad = some (thV (xs.getD m zaL)) := by
 have := at_thing h 0 (by decide)
 rw [za4] at this
 rw [this]
 congr 2
 simp [List.getD]
theorem lay_tru (w0 : World) (B : Nat) (V : Value) (k : Bool) (xs : List SValue) (b : Bool) (w : World) (h : pileRel w0 B V k xs w) (hB : B < w0.heap.size) (hl : xs.length ≤ 1000) :
  Calls Try.prog 74 #[.pointer (some ⟨B, 0, none⟩), .iface 133 (.bool b)] w fun e w' => e = .returned (.tuple #[]) ∧ pileRel w0 B V k (xs ++ [truV b]) w' := by
 have := lay_told w0 B V k xs (truV b) w h hB hl
 rwa [thV_tru] at this
set_option maxHeartbeats 1000000 in
set_option maxRecDepth 100000 in
theorem not_told (w0 : World) (B : Nat) (V : Value) (k : Bool) (xs : List SValue) (w : World) (h : pileRel w0 B V k xs w) (hB : B < w0.heap.size) (hl : xs.length ≤ 1000) (hok : okVs xs) {r : Except Int (List SValue)}
  (hr : (if xs.length < 1 then .error 2 else if (xs.getD (xs.length - 1) zaL).f0 = 1 then .ok (xs.take (xs.length - 1) ++ [truV (!((xs.getD (xs.length - 1) zaL).f1 == 1))]) else .error 5 : Except Int (List SValue)) = r) :
  Calls Try.prog 76 #[.pointer (some ⟨B, 0, none⟩)] w (zbp w0 B V k r) := by
 have HH := Aside0.mk h
 by_cases hn : xs.length < 1
 ·rw [if_pos hn] at hr
  subst hr
  clear h hok
  go_enter Try.func76, Try.ntmps76
  go_wp2_with fail
  go_at_call 77
  refine (take_no w0 B 1 V k xs _ HH.out hn (by decide)).mono ?_
  rintro e w1 ⟨rfl, rfl⟩
  go_wp2_with fail
  go_ret
  exact ⟨rfl, xs, HH.out⟩
 rw [if_neg hn] at hr
 obtain ⟨m, hm⟩ : ∃ m, xs.length = m + 1 := ⟨xs.length - 1, by omega⟩
 rw [show xs.length - 1 = m from by omega] at hr
 have hat := okVs_at hok (i := m) (by omega)
 obtain ⟨x, hx⟩ : ∃ x, xs.getD m zaL = x := ⟨_, rfl⟩
 rw [hx] at hr hat
 have HX := Aside0.mk hx
 obtain ⟨t, v, f, hx1, hx2, hx3, hx4, ⟨px, hx5⟩, _, hx7, _, _, _⟩ := zaK hat.1
 have HX1 := Aside0.mk hx1
 clear hx1 hx2 hx3 hx4 hat hok h hx
 by_cases h1 : x.f0 = 1
 ·rw [if_pos h1] at hr
  subst hr
  have a1 := hx7 h1
  clear hx5 hx7
  go_enter Try.func76, Try.ntmps76
  go_wp2_with fail
  go_at_call 77
  refine (take_told w0 B 1 V k xs _ HH.out hB (by decide) (by decide) hl (by omega)).mono ?_
  rintro e w1 ⟨A, c, ⟨rfl, hc, hC⟩, hp, hsp⟩
  rw [show xs.length - 1 = m from by omega] at hC hp
  have HC := Aside0.mk hC
  have HP := Aside0.mk hp
  have hcell := at_last hC hm
  rw [HX.out, HX1.out] at hcell
  have hcell2 : w1.cell? (A.add 0) = some (.iface t v) := by rw [za4]; exact hcell
  clear hC hp hsp
  go_wp2_with fail
  go_at_call 74
  refine (lay_tru w0 B V k (xs.take m) (!(x.f1 == 1)) _ HP.out hB (by rw [List.length_take]; omega)).mono ?_
  rintro e w2 ⟨rfl, hp2⟩
  have HP2 := Aside0.mk hp2
  clear hp2
  go_wp2_with fail
  go_ret
  exact ⟨rfl, HP2.out⟩
 ·rw [if_neg h1] at hr
  subst hr
  have h1b : (x.f0 == 1) = false := beq_eq_false_iff_ne.2 h1
  rw [h1b] at hx5
  clear hx7 h1 h1b
  go_enter Try.func76, Try.ntmps76
  go_wp2_with fail
  go_at_call 77
  refine (take_told w0 B 1 V k xs _ HH.out hB (by decide) (by decide) hl (by omega)).mono ?_
  rintro e w1 ⟨A, c, ⟨rfl, hc, hC⟩, hp, hsp⟩
  rw [show xs.length - 1 = m from by omega] at hC hp
  have HP := Aside0.mk hp
  have hcell := at_last hC hm
  rw [HX.out, HX1.out] at hcell
  have hcell2 : w1.cell? (A.add 0) = some (.iface t v) := by rw [za4]; exact hcell
  clear hC hp hsp
  go_wp2_with fail
  go_ret
  exact ⟨rfl, _, HP.out⟩
def cellsP (x : SOp) : Array Value := #[.int .i64 x.f0, .int .i64 x.f1, .int .i64 x.f2.f0, .int .i64 x.f2.f1, .string x.f2.f2]
def partBPost (r : Option (SOp × Nat)) (w : World) (e : Ending) (w' : World) : Prop := (match r with
 | some (x, n) => e = .returned (.tuple #[.agg (cellsP x), .int .i64 (n : Int), .bool true])
 | none => ∃ (x : SOp) (n : Int), e = .returned (.tuple #[.agg (cellsP x), .int .i64 n, .bool false])) ∧ Below w.heap.size w w'
theorem blk_put5 {W : World} {g : Nat} {t : TypeId} {a b c d e : Value} (h : W.heap[g]? = some (.cells #[a, b, c, d, e] t (0, 0))) (x y z u v : Value) : (((((W.setCell ⟨g, 0, none⟩ x).setCell ⟨g, 1, none⟩ y).setCell ⟨g, 2, none⟩ z).setCell ⟨g, 3, none⟩ u).setCell ⟨g, 4, none⟩ v).heap[g]? = some (.cells #[x, y, z, u, v] t (0, 0)) :=
 zar (zar (zar (zar (zar h 0 x rfl) 1 y rfl) 2 z rfl) 3 u rfl) 4 v rfl
theorem below_put5 {B : Nat} {w W : World} {g : Nat} (h : Below B w W) (hg : B ≤ g) (x y z u v : Value) : Below B w (((((W.setCell ⟨g, 0, none⟩ x).setCell ⟨g, 1, none⟩ y).setCell ⟨g, 2, none⟩ z).setCell ⟨g, 3, none⟩ u).setCell ⟨g, 4, none⟩ v) :=
 ((((h.setCell (p := ⟨g, 0, none⟩) hg x).setCell (p := ⟨g, 1, none⟩) hg y).setCell (p := ⟨g, 2, none⟩) hg z).setCell (p := ⟨g, 3, none⟩) hg u).setCell (p := ⟨g, 4, none⟩) hg v
set_option maxHeartbeats 1000000 in
set_option maxRecDepth 100000 in
theorem partb_nil (A : Option Addr) (c : Nat) (w : World) : Calls Try.prog 70 #[.slice A 0 c] w (partBPost none w) := by
 go_enter Try.func70, Try.ntmps70
 go_wp2_with fail
 exact bodyPost_ret (v := .tuple #[.agg #[.int .i64 0, .int .i64 0, .int .i64 0, .int .i64 0, .string ⟨#[]⟩], .int .i64 0, .bool false]) (by simp [results, Try.results70, go_sem]) rfl ⟨⟨⟨0, 0, ⟨0, 0, ⟨#[]⟩⟩⟩, 0, rfl⟩, zab (Below.refl _ _) _⟩
set_option maxHeartbeats 1000000 in
set_option maxRecDepth 100000 in
theorem partb_code (k : Int) (r : List Int) (A : Option Addr) (c : Nat) (w : World) (hr : Kd.C (Kd.int .u8) w A (r.length + 1) (k :: r)) (hc : r.length + 1 ≤ c) (hb : zaJ (k :: r)) (hl : (k :: r).length < 4611686018427387904) (h0 : ¬ k = 0) (h1 : ¬ k = 1) : Calls Try.prog 70 #[.slice A (r.length + 1) c] w (partBPost (some (⟨k, 0, zeroV⟩, 1)) w) := by
 obtain ⟨ad, e, z0⟩ := Kd.at_int hr 0 (by decide) (by omega)
 subst e
 have z1 : w.cell? ad = some (.int .u8 k) := by have h := z0; rw [show (0 : Int).toNat = 0 from rfl, za4] at h; exact h
 have z2 : w.cell? (ad.add 0) = some (.int .u8 k) := z0
 have z3 : ∀ o, (w.alloc o).cell? ad = some (.int .u8 k) := fun o => zav o z1
 have z4 : ∀ o, (w.alloc o).cell? (ad.add 0) = some (.int .u8 k) := fun o => zav o z2
 obtain ⟨hk0, hk1⟩ := hb k (by simp)
 have hwk : IntKind.i64.wrap k = k := IntWalk.i64_in _ (by omega)
 have hlen : (((r.length + 1 : Nat) : Int) == 0) = false := beq_eq_false_iff_ne.2 (by omega)
 have hlen2 : ((r.length : Int) + 1 == 0) = false := beq_eq_false_iff_ne.2 (by omega)
 have hlen3 : ¬ (r.length : Int) + 1 = 0 := by omega
 have h0b : (k == 0) = false := beq_eq_false_iff_ne.2 h0
 have h1b : (k == 1) = false := beq_eq_false_iff_ne.2 h1
 clear z0 hr hc hb hl h0 h1
 go_enter Try.func70, Try.ntmps70
 go_wp2_with fail
 exact bodyPost_ret (v := .tuple #[.agg #[.int .i64 k, .int .i64 0, .int .i64 0, .int .i64 0, .string ⟨#[]⟩], .int .i64 1, .bool true]) (by simp [results, Try.results70, go_sem]) rfl ⟨rfl, zab (zab (Below.refl _ _) _) _⟩
set_option maxHeartbeats 1000000 in
set_option maxRecDepth 100000 in
theorem partb_short (k : Int) (r : List Int) (A : Option Addr) (c : Nat) (w : World) (hr : Kd.C (Kd.int .u8) w A (r.length + 1) (k :: r)) (hc : r.length + 1 ≤ c) (hb : zaJ (k :: r)) (hl : (k :: r).length < 4611686018427387904) (h1 : k = 1) (h2 : r = []) : Calls Try.prog 70 #[.slice A (r.length + 1) c] w (partBPost none w) := by
 obtain ⟨ad, e, z0⟩ := Kd.at_int hr 0 (by decide) (by omega)
 subst e
 have z1 : w.cell? ad = some (.int .u8 k) := by have h := z0; rw [show (0 : Int).toNat = 0 from rfl, za4] at h; exact h
 have z2 : w.cell? (ad.add 0) = some (.int .u8 k) := z0
 have z3 : ∀ o, (w.alloc o).cell? ad = some (.int .u8 k) := fun o => zav o z1
 have z4 : ∀ o, (w.alloc o).cell? (ad.add 0) = some (.int .u8 k) := fun o => zav o z2
 obtain ⟨hk0, hk1⟩ := hb k (by simp)
 have hwk : IntKind.i64.wrap k = k := IntWalk.i64_in _ (by omega)
 have hlen : (((r.length + 1 : Nat) : Int) == 0) = false := beq_eq_false_iff_ne.2 (by omega)
 have hlen2 : ((r.length : Int) + 1 == 0) = false := beq_eq_false_iff_ne.2 (by omega)
 have hlen3 : ¬ (r.length : Int) + 1 = 0 := by omega
 subst h1 h2
 clear z0 hr hc hb hl hlen hlen2 hlen3
 go_enter Try.func70, Try.ntmps70
 go_wp2_with fail
 exact bodyPost_ret (v := .tuple #[.agg #[.int .i64 1, .int .i64 0, .int .i64 0, .int .i64 0, .string ⟨#[]⟩], .int .i64 0, .bool false]) (by simp [results, Try.results70, go_sem]) rfl ⟨⟨⟨1, 0, ⟨0, 0, ⟨#[]⟩⟩⟩, 0, rfl⟩, zab (zab (Below.refl _ _) _) _⟩
set_option maxHeartbeats 1000000 in
set_option maxRecDepth 100000 in
theorem partb_load (a : Int) (r : List Int) (A : Option Addr) (c : Nat) (w : World) (hr : Kd.C (Kd.int .u8) w A (r.length + 1 + 1) (1 :: a :: r)) (hc : r.length + 1 + 1 ≤ c) (hb : zaJ (1 :: a :: r)) (hl : (1 :: a :: r).length < 4611686018427387904) : Calls Try.prog 70 #[.slice A (r.length + 1 + 1) c] w (partBPost (some (⟨1, a, zeroV⟩, 2)) w) := by
 obtain ⟨ad, e, z0⟩ := Kd.at_int hr 0 (by decide) (by omega)
 subst e
 have z1 : w.cell? ad = some (.int .u8 1) := by have h := z0; rw [show (0 : Int).toNat = 0 from rfl, za4] at h; exact h
 have z2 : w.cell? (ad.add 0) = some (.int .u8 1) := z0
 have z3 : ∀ o, (w.alloc o).cell? ad = some (.int .u8 1) := fun o => zav o z1
 have z4 : ∀ o, (w.alloc o).cell? (ad.add 0) = some (.int .u8 1) := fun o => zav o z2
 obtain ⟨hk0, hk1⟩ := hb a (by simp)
 have hwk : IntKind.i64.wrap a = a := IntWalk.i64_in _ (by omega)
 have hlen : (((r.length + 1 + 1 : Nat) : Int) == 0) = false := beq_eq_false_iff_ne.2 (by omega)
 have hlen2 : ((r.length : Int) + 1 + 1 == 0) = false := beq_eq_false_iff_ne.2 (by omega)
 have hlen3 : ¬ (r.length : Int) + 1 + 1 = 0 := by omega
 obtain ⟨ad2, e2, y0⟩ := Kd.at_int hr 1 (by decide) (by omega)
 cases e2
 have y1 : w.cell? ⟨ad.block, ad.off + 1, none⟩ = some (.int .u8 a) := by have h := y0; rw [show (1 : Int).toNat = 1 from rfl, zax _ _ 1 (by omega)] at h; exact h
 have y2 : w.cell? (ad.add 1) = some (.int .u8 a) := y0
 have y3 : ∀ o o2, ((w.alloc o).alloc o2).cell? ⟨ad.block, ad.off + 1, none⟩ = some (.int .u8 a) := fun o o2 => zav o2 (zav o y1)
 have y4 : ∀ o o2, ((w.alloc o).alloc o2).cell? (ad.add 1) = some (.int .u8 a) := fun o o2 => zav o2 (zav o y2)
 have hw1 : IntKind.i64.wrap 1 = 1 := by decide
 have hge : ¬ (r.length : Int) + 1 + 1 < 2 := by omega
 have hged : decide ((r.length : Int) + 1 + 1 < 2) = false := decide_eq_false hge
 have hlt1 : (1 : Int) < (r.length : Int) + 1 + 1 := by omega
 clear z0 hr hc hb hl y0
 go_enter Try.func70, Try.ntmps70
 go_wp2_with fail
 exact bodyPost_ret (v := .tuple #[.agg #[.int .i64 1, .int .i64 a, .int .i64 0, .int .i64 0, .string ⟨#[]⟩], .int .i64 2, .bool true]) (by simp [results, Try.results70, go_sem]) rfl ⟨rfl, zab (zab (Below.refl _ _) _) _⟩
set_option maxHeartbeats 1000000 in
set_option maxRecDepth 100000 in
theorem partb_push {x : SValue} {m : Nat} (r : List Int) (A : Option Addr) (c : Nat) (w : World) (hr : Kd.C (Kd.int .u8) w A (r.length + 1) (0 :: r)) (hc : r.length + 1 ≤ c) (hb : zaJ (0 :: r)) (hl : (0 :: r).length < 4611686018427387904) (hg : gotV (getV r) = (x, m, true)) : Calls Try.prog 70 #[.slice A (r.length + 1) c] w (partBPost (some (⟨0, 0, x⟩, m + 1)) w) := by
 obtain ⟨ad, e, z0⟩ := Kd.at_int hr 0 (by decide) (by omega)
 subst e
 have z1 : w.cell? ad = some (.int .u8 0) := by have h := z0; rw [show (0 : Int).toNat = 0 from rfl, za4] at h; exact h
 have z2 : w.cell? (ad.add 0) = some (.int .u8 0) := z0
 have z3 : ∀ o, (w.alloc o).cell? ad = some (.int .u8 0) := fun o => zav o z1
 have z4 : ∀ o, (w.alloc o).cell? (ad.add 0) = some (.int .u8 0) := fun o => zav o z2
 obtain ⟨hk0, hk1⟩ := hb 0 (by simp)
 have hwk : IntKind.i64.wrap 0 = 0 := IntWalk.i64_in _ (by omega)
 have hlen : (((r.length + 1 : Nat) : Int) == 0) = false := beq_eq_false_iff_ne.2 (by omega)
 have hlen2 : ((r.length : Int) + 1 == 0) = false := beq_eq_false_iff_ne.2 (by omega)
 have hlen3 : ¬ (r.length : Int) + 1 = 0 := by omega
 obtain ⟨i0, hi0, _, hsz0, _⟩ := info_parts info5
 obtain ⟨A', hcut, hC', hlc⟩ := drop_row (P := Try.prog) (d := Kd.int .u8) Try.underlying25 hi0 hsz0 (some ad) c (0 :: r) 1 1 rfl (by simp) (by simpa using hc)
 have HROW := Aside0.mk (hC' w hr)
 have HLC := Aside0.mk hlc
 have hcut2 : ∀ W : World, (Instr.slice 25 (.slice (some ad) (r.length + 1) c) (some (.int .i64 1)) none none).run Try.prog W = .ok (.slice A' r.length (c - 1)) W := hcut
 have HBY := Aside0.mk (show zaJ r from fun z hz => hb z (by simp [hz]))
 have hlr : r.length < 4611686018427387904 := by simp only [List.length_cons] at hl; omega
 have hm := gotV_len hg
 have hwm : IntKind.i64.wrap ((m : Int) + 1) = ((m + 1 : Nat) : Int) := by rw [IntWalk.i64_in _ (by omega)]; rfl
 have HG := Aside0.mk hg
 clear z0 hr hc hb hl hC' hi0 hsz0 hcut hlc hg
 go_enter Try.func70, Try.ntmps70
 go_wp2_with fail
 go_at_call 73
 refine (value_Get.told _ A' (c - 1) r (Kd.C_below HROW.out (zab (zab (Below.refl _ _) _) _)) HLC.out HBY.out hlr HG.out).mono ?_
 rintro e w1 ⟨rfl, hb1⟩
 have HB1 := Aside0.mk (zah (zab (zab (Below.refl _ _) _) _) hb1)
 have HT := Aside0.mk (zag (zak (zag (zat w (.cells #[.int .i64 0, .int .i64 0, .int .i64 0, .int .i64 0, .string ⟨#[]⟩] 75)) (.cells #[.int .i64 0, .int .i64 0, .int .i64 0, .int .i64 0, .string ⟨#[]⟩] 75)) hb1) (.cells #[.int .i64 x.f0, .int .i64 x.f1, .string x.f2] 73))
 have HX := Aside0.mk (zag (zak (za7 w (.cells #[.int .i64 0, .int .i64 0, .int .i64 0, .int .i64 0, .string ⟨#[]⟩] 75) (.cells #[.int .i64 0, .int .i64 0, .int .i64 0, .int .i64 0, .string ⟨#[]⟩] 75)) hb1) (.cells #[.int .i64 x.f0, .int .i64 x.f1, .string x.f2] 73))
 have HBV := Aside0.mk (zab HB1.out (.cells #[.int .i64 x.f0, .int .i64 x.f1, .string x.f2] 73))
 clear hb1
 go_upto_region 7 with fail
 go_cut [] (fun wx => wx.heap[w.heap.size]? = some (.cells #[.int .i64 0, .int .i64 0, .int .i64 0, .int .i64 0, .string ⟨#[]⟩] 75) ∧ wx.heap[w.heap.size + 1]? = some (.cells #[.int .i64 0, .int .i64 0, .int .i64 x.f0, .int .i64 x.f1, .string x.f2] 75) ∧ Below w.heap.size w wx)
 case first =>
  obtain ⟨k1, _, k3, _⟩ := know HX.out
  go_wp2_with fail
  go_meet
  exact ⟨zaG (zaG (zaG HT.out (p := ⟨w.heap.size + 1, 2, none⟩) (show w.heap.size ≠ w.heap.size + 1 by omega) (.int .i64 x.f0)) (p := ⟨w.heap.size + 1, 3, none⟩) (show w.heap.size ≠ w.heap.size + 1 by omega) (.int .i64 x.f1)) (p := ⟨w.heap.size + 1, 4, none⟩) (show w.heap.size ≠ w.heap.size + 1 by omega) (.string x.f2), zar (zar (zar HX.out 2 (.int .i64 x.f0) rfl) 3 (.int .i64 x.f1) rfl) 4 (.string x.f2) rfl, Below.setCell (p := ⟨w.heap.size + 1, 4, none⟩) (Below.setCell (p := ⟨w.heap.size + 1, 3, none⟩) (Below.setCell (p := ⟨w.heap.size + 1, 2, none⟩) HBV.out (Nat.le_succ _) _) (Nat.le_succ _) _) (Nat.le_succ _) _⟩
 case rest =>
 obtain ⟨hkt, hkx, hbw⟩ := hcut
 obtain ⟨w9, rfl⟩ : ∃ w9, w9 = wc := ⟨_, rfl⟩
 have HKT := Aside0.mk hkt
 have HBW := Aside0.mk hbw
 obtain ⟨j1, _, j3, _⟩ := know hkx
 obtain ⟨i1, _, i3, _⟩ := know hkt
 clear hkt hkx hbw
 have hfz := blk_put5 (HKT.out) (.int .i64 0) (.int .i64 0) (.int .i64 x.f0) (.int .i64 x.f1) (.string x.f2)
 have hz0 := zac hfz 0
 have hz1 := zac hfz 1
 have hz2 := zac hfz 2
 have hz3 := zac hfz 3
 have hz4 := zac hfz 4
 go_wp2_with fail
 exact bodyPost_ret (v := .tuple #[.agg #[.int .i64 0, .int .i64 0, .int .i64 x.f0, .int .i64 x.f1, .string x.f2], .int .i64 ((m + 1 : Nat) : Int), .bool true]) (by simp [results, Try.results70, go_sem, hz0, hz1, hz2, hz3, hz4]) rfl ⟨rfl, below_put5 (HBW.out) (Nat.le_refl _) _ _ _ _ _⟩
set_option maxHeartbeats 1000000 in
set_option maxRecDepth 100000 in
theorem partb_bad {x : SValue} {m : Nat} (r : List Int) (A : Option Addr) (c : Nat) (w : World) (hr : Kd.C (Kd.int .u8) w A (r.length + 1) (0 :: r)) (hc : r.length + 1 ≤ c) (hb : zaJ (0 :: r)) (hl : (0 :: r).length < 4611686018427387904) (hg : gotV (getV r) = (x, m, false)) : Calls Try.prog 70 #[.slice A (r.length + 1) c] w (partBPost none w) := by
 obtain ⟨ad, e, z0⟩ := Kd.at_int hr 0 (by decide) (by omega)
 subst e
 have z1 : w.cell? ad = some (.int .u8 0) := by have h := z0; rw [show (0 : Int).toNat = 0 from rfl, za4] at h; exact h
 have z2 : w.cell? (ad.add 0) = some (.int .u8 0) := z0
 have z3 : ∀ o, (w.alloc o).cell? ad = some (.int .u8 0) := fun o => zav o z1
 have z4 : ∀ o, (w.alloc o).cell? (ad.add 0) = some (.int .u8 0) := fun o => zav o z2
 obtain ⟨hk0, hk1⟩ := hb 0 (by simp)
 have hwk : IntKind.i64.wrap 0 = 0 := IntWalk.i64_in _ (by omega)
 have hlen : (((r.length + 1 : Nat) : Int) == 0) = false := beq_eq_false_iff_ne.2 (by omega)
 have hlen2 : ((r.length : Int) + 1 == 0) = false := beq_eq_false_iff_ne.2 (by omega)
 have hlen3 : ¬ (r.length : Int) + 1 = 0 := by omega
 obtain ⟨i0, hi0, _, hsz0, _⟩ := info_parts info5
 obtain ⟨A', hcut, hC', hlc⟩ := drop_row (P := Try.prog) (d := Kd.int .u8) Try.underlying25 hi0 hsz0 (some ad) c (0 :: r) 1 1 rfl (by simp) (by simpa using hc)
 have HROW := Aside0.mk (hC' w hr)
 have HLC := Aside0.mk hlc
 have hcut2 : ∀ W : World, (Instr.slice 25 (.slice (some ad) (r.length + 1) c) (some (.int .i64 1)) none none).run Try.prog W = .ok (.slice A' r.length (c - 1)) W := hcut
 have HBY := Aside0.mk (show zaJ r from fun z hz => hb z (by simp [hz]))
 have hlr : r.length < 4611686018427387904 := by simp only [List.length_cons] at hl; omega
 have hm := gotV_len hg
 have hwm : IntKind.i64.wrap ((m : Int) + 1) = ((m + 1 : Nat) : Int) := by rw [IntWalk.i64_in _ (by omega)]; rfl
 have HG := Aside0.mk hg
 clear z0 hr hc hb hl hC' hi0 hsz0 hcut hlc hg
 go_enter Try.func70, Try.ntmps70
 go_wp2_with fail
 go_at_call 73
 refine (value_Get.told _ A' (c - 1) r (Kd.C_below HROW.out (zab (zab (Below.refl _ _) _) _)) HLC.out HBY.out hlr HG.out).mono ?_
 rintro e w1 ⟨rfl, hb1⟩
 have HB1 := Aside0.mk (zah (zab (zab (Below.refl _ _) _) _) hb1)
 have HT := Aside0.mk (zag (zak (zag (zat w (.cells #[.int .i64 0, .int .i64 0, .int .i64 0, .int .i64 0, .string ⟨#[]⟩] 75)) (.cells #[.int .i64 0, .int .i64 0, .int .i64 0, .int .i64 0, .string ⟨#[]⟩] 75)) hb1) (.cells #[.int .i64 x.f0, .int .i64 x.f1, .string x.f2] 73))
 have HX := Aside0.mk (zag (zak (za7 w (.cells #[.int .i64 0, .int .i64 0, .int .i64 0, .int .i64 0, .string ⟨#[]⟩] 75) (.cells #[.int .i64 0, .int .i64 0, .int .i64 0, .int .i64 0, .string ⟨#[]⟩] 75)) hb1) (.cells #[.int .i64 x.f0, .int .i64 x.f1, .string x.f2] 73))
 have HBV := Aside0.mk (zab HB1.out (.cells #[.int .i64 x.f0, .int .i64 x.f1, .string x.f2] 73))
 clear hb1
 go_upto_region 7 with fail
 go_cut [] (fun wx => wx.heap[w.heap.size]? = some (.cells #[.int .i64 0, .int .i64 0, .int .i64 0, .int .i64 0, .string ⟨#[]⟩] 75) ∧ wx.heap[w.heap.size + 1]? = some (.cells #[.int .i64 0, .int .i64 0, .int .i64 x.f0, .int .i64 x.f1, .string x.f2] 75) ∧ Below w.heap.size w wx)
 case first =>
  obtain ⟨k1, _, k3, _⟩ := know HX.out
  go_wp2_with fail
  go_meet
  exact ⟨zaG (zaG (zaG HT.out (p := ⟨w.heap.size + 1, 2, none⟩) (show w.heap.size ≠ w.heap.size + 1 by omega) (.int .i64 x.f0)) (p := ⟨w.heap.size + 1, 3, none⟩) (show w.heap.size ≠ w.heap.size + 1 by omega) (.int .i64 x.f1)) (p := ⟨w.heap.size + 1, 4, none⟩) (show w.heap.size ≠ w.heap.size + 1 by omega) (.string x.f2), zar (zar (zar HX.out 2 (.int .i64 x.f0) rfl) 3 (.int .i64 x.f1) rfl) 4 (.string x.f2) rfl, Below.setCell (p := ⟨w.heap.size + 1, 4, none⟩) (Below.setCell (p := ⟨w.heap.size + 1, 3, none⟩) (Below.setCell (p := ⟨w.heap.size + 1, 2, none⟩) HBV.out (Nat.le_succ _) _) (Nat.le_succ _) _) (Nat.le_succ _) _⟩
 case rest =>
 obtain ⟨hkt, hkx, hbw⟩ := hcut
 obtain ⟨w9, rfl⟩ : ∃ w9, w9 = wc := ⟨_, rfl⟩
 have HKT := Aside0.mk hkt
 have HBW := Aside0.mk hbw
 obtain ⟨j1, _, j3, _⟩ := know hkx
 obtain ⟨i1, _, i3, _⟩ := know hkt
 clear hkt hkx hbw
 have hfz := blk_put5 (HKT.out) (.int .i64 0) (.int .i64 0) (.int .i64 x.f0) (.int .i64 x.f1) (.string x.f2)
 have hz0 := zac hfz 0
 have hz1 := zac hfz 1
 have hz2 := zac hfz 2
 have hz3 := zac hfz 3
 have hz4 := zac hfz 4
 go_wp2_with fail
 exact bodyPost_ret (v := .tuple #[.agg #[.int .i64 0, .int .i64 0, .int .i64 x.f0, .int .i64 x.f1, .string x.f2], .int .i64 ((m + 1 : Nat) : Int), .bool false]) (by simp [results, Try.results70, go_sem, hz0, hz1, hz2, hz3, hz4]) rfl ⟨⟨⟨0, 0, x⟩, _, rfl⟩, below_put5 (HBW.out) (Nat.le_refl _) _ _ _ _ _⟩
theorem partb_told (l : List Int) (A : Option Addr) (c : Nat) (w : World) (hr : Kd.C (Kd.int .u8) w A l.length l) (hc : l.length ≤ c) (hb : zaJ l) (hl : l.length < 4611686018427387904) {r : Option (SOp × Nat)} (hq : getP l = r) : Calls Try.prog 70 #[.slice A l.length c] w (partBPost r w) := by
 cases l with
 | nil =>
  subst hq
  exact partb_nil A c w
 | cons k r' =>
  simp only [getP] at hq
  by_cases h0 : k = 0
  ·subst h0
   rw [if_pos rfl] at hq
   obtain ⟨⟨x, m, b⟩, hg⟩ : ∃ q, gotV (getV r') = q := ⟨_, rfl⟩
   cases hv : getV r' with
   | none =>
    rw [hv] at hq hg
    subst hq
    simp only [gotV, Prod.mk.injEq] at hg
    obtain ⟨rfl, rfl, rfl⟩ := hg
    exact partb_bad r' A c w hr hc hb hl (by rw [hv]; rfl)
   | some p =>
    obtain ⟨y, j⟩ := p
    rw [hv] at hq hg
    subst hq
    simp only [gotV, Prod.mk.injEq] at hg
    obtain ⟨rfl, rfl, rfl⟩ := hg
    exact partb_push r' A c w hr hc hb hl (by rw [hv]; rfl)
  ·rw [if_neg h0] at hq
   by_cases h1 : k = 1
   ·rw [if_pos h1] at hq
    subst h1
    cases r' with
    | nil => subst hq; exact partb_short 1 [] A c w hr hc hb hl rfl rfl
    | cons a r'' => subst hq; exact partb_load a r'' A c w hr hc hb hl
   ·rw [if_neg h1] at hq
    subst hq
    exact partb_code k r' A c w hr hc hb hl h0 h1
def getORel (l : List Int) (n : Nat) (w : World) (k : Nat) (at_ v8 : Value) (w' : World) : Prop := ∃ (a : Nat) (fs : List SOp), at_ = .int .i64 (a : Int) ∧ k ≤ n ∧ a ≤ l.length ∧ fs.length = k ∧ (∀ x ∈ fs, i64V x.f2) ∧ getO l = contO l (n - k) a fs ∧ Kd.R kOp 75 w' w.heap.size (fun _ => True) v8 fs ∧ Below w.heap.size w w'
def opsPostR (x : List SOp) (n : Nat) (b : Bool) (w : World) (e : Ending) (w' : World) : Prop := ∃ v, e = .returned (.tuple #[v, .int .i64 (n : Int), .bool b]) ∧ Kd.R kOp 75 w' w.heap.size (fun _ => True) v x ∧ Below w.heap.size w w'
theorem none_opsR {w : World} {e : Ending} {w' : World} (he : e = .returned (.tuple #[.slice none 0 0, .int .i64 0, .bool false])) (hb : Below w.heap.size w w') : opsPostR [] 0 false w e w' := ⟨_, he, Kd.R_nil _ _ _ _ _, hb⟩
set_option maxHeartbeats 1000000 in
set_option maxRecDepth 100000 in
theorem getO_no1 (w : World) (A : Option Addr) (c : Nat) (l : List Int) (hr : Kd.C (Kd.int .u8) w A l.length l) (hc : l.length ≤ c) (hb : zaJ l) (hl : l.length < 4611686018427387904) (hg : getN l = none) : Calls Try.prog 60 #[.slice A l.length c] w (opsPostR [] 0 false w) := by
 go_enter Try.func60, Try.ntmps60
 go_wp2_with fail
 go_at_call 42
 refine (le_Get.no A c l _ hg hb hl hr hc).mono ?_
 rintro e w1 ⟨rfl, hb1⟩
 go_wp2_with fail
 go_ret3
 exact none_opsR rfl hb1
set_option maxHeartbeats 1000000 in
set_option maxRecDepth 100000 in
theorem getO_no2 (w : World) (A : Option Addr) (c : Nat) (l : List Int) (hr : Kd.C (Kd.int .u8) w A l.length l) (hc : l.length ≤ c) (hb : zaJ l) (hl : l.length < 4611686018427387904) {n u : Nat} (hg : getN l = some (n, u)) (hn : ¬ n ≤ 12) : Calls Try.prog 60 #[.slice A l.length c] w (opsPostR [] 0 false w) := by
 have hgt : (n : Int) > 12 := by omega
 have hgt2 : (12 : Int) < (n : Int) := by omega
 have hd : decide ((12 : Int) < (n : Int)) = true := decide_eq_true hgt2
 go_enter Try.func60, Try.ntmps60
 go_wp2_with fail
 go_at_call 42
 refine (le_Get.yes A c l _ hg hb hl hr hc).mono ?_
 rintro e w1 ⟨rfl, hb1⟩
 go_wp2_with fail
 go_ret3
 exact none_opsR rfl hb1
set_option maxHeartbeats 8000000 in
set_option maxRecDepth 100000 in
theorem getO_go (w : World) (A : Option Addr) (c : Nat) (l : List Int) (hr : Kd.C (Kd.int .u8) w A l.length l) (hc : l.length ≤ c) (hb : zaJ l) (hl : l.length < 4611686018427387904) {n u : Nat} (hg : getN l = some (n, u)) (hn : n ≤ 12) {x : List SOp} {m : Nat} {b : Bool} (hq : gotO (getO l) = (x, m, b)) : Calls Try.prog 60 #[.slice A l.length c] w (opsPostR x m b w) := by
 obtain ⟨i0, hi0, _, hsz0, _⟩ := info_parts info5
 have HR := Aside0.mk hr
 have HC := Aside0.mk hc
 have HBY := Aside0.mk hb
 have HG := Aside0.mk hg
 have HQ := Aside0.mk hq
 have hngt : ¬ (12 : Int) < (n : Int) := by omega
 have hd : decide ((12 : Int) < (n : Int)) = false := decide_eq_false hngt
 have hul := (getN_used hg).2.1
 have HST := Aside0.mk (getO_some (show getM l 12 = some (n, u) from by rw [getM_some hg, if_pos hn]))
 clear hr hc hb hg hq
 go_enter Try.func60, Try.ntmps60
 go_wp2_with fail
 go_at_call 42
 refine (le_Get.yes A c l _ HG.out HBY.out hl HR.out HC.out).mono ?_
 rintro e w1 ⟨rfl, hb1⟩
 have HB1 := Aside0.mk hb1
 clear hb1
 go_wp2_with fail
 go_loopw [6, 8, 9, 10, 11, 25] (fun v6 v8 _ _ _ v25 w' => ∃ k : Nat, v25 = .int .u64 (k : Int) ∧ getORel l n w k v6 v8 w') (fun _ _ _ _ _ i _ => n - (intOf i).toNat)
 case atStart => exact ⟨0, rfl, u, [], rfl, Nat.zero_le _, hul, rfl, (fun _ h => by cases h), by rw [Nat.sub_zero]; exact HST.out, Kd.R_nil _ _ _ _ _, HB1.out⟩
 case round =>
  obtain ⟨k, rfl, a, fs, rfl, hk, ha, hfl, hfi, hcont, ho, hbw⟩ := hrel
  have HO := Aside0.mk ho
  have HB := Aside0.mk hbw
  have HFI := Aside0.mk hfi
  have HCT := Aside0.mk hcont
  have HFL := Aside0.mk hfl
  have hfl12 : fs.length ≤ 12 := by omega
  clear ho hbw hfi hcont HB1 hfl
  by_cases hlt : k < n
  ·obtain ⟨A4, hcut4, hD4, hlc4⟩ := drop_row (P := Try.prog) (d := Kd.int .u8) Try.underlying25 hi0 hsz0 A c l a (a : Int) rfl ha HC.out
   have HD4 := Aside0.mk (hD4 w HR.out)
   have HL4 := Aside0.mk hlc4
   have hln4 : a + (l.drop a).length = l.length := by rw [List.length_drop]; omega
   have hstep := contO_step l (n - k - 1) a fs
   rw [show n - k - 1 + 1 = n - k from by omega] at hstep
   have HBD := Aside0.mk (zbn HBY.out a)
   have hld : (l.drop a).length < 4611686018427387904 := by omega
   have hlti : (k : Int) < (n : Int) := by omega
   have hltd : decide ((k : Int) < (n : Int)) = true := decide_eq_true hlti
   clear hD4 hlc4
   cases hg4 : getP (l.drop a) with
   | none =>
    have HN : Aside0 (getO l = none) := ⟨by rw [HCT.out, hstep, hg4]⟩
    have HG4 := Aside0.mk hg4
    have hq2 := HQ.out
    rw [HN.out] at hq2
    simp only [gotO, Prod.mk.injEq] at hq2
    obtain ⟨rfl, rfl, rfl⟩ := hq2
    clear hg4 hstep hi0 hsz0
    generalize l.drop a = ld4 at *
    go_wp2_with fail
    go_at_call 70
    refine (partb_told ld4 A4 _ _ (Kd.C_below HD4.out HB.out) HL4.out HBD.out hld HG4.out).mono ?_
    rintro e w4 ⟨⟨z, zn, rfl⟩, hb4⟩
    unfold cellsP
    go_wp2_with fail
    go_ret3
    exact none_opsR rfl (zab (zah HB.out hb4) _)
   | some p4 =>
    obtain ⟨z, zn⟩ := p4
    obtain ⟨hz1, hz2, hz3⟩ := getP_used HBD.out hg4
    rw [hg4] at hstep
    simp only at hstep
    have HST4 := Aside0.mk (HCT.out.trans hstep)
    have HG4 := Aside0.mk hg4
    have HZ1 := Aside0.mk hz1
    have hsum : IntKind.i64.wrap ((a : Int) + (zn : Int)) = ((a + zn : Nat) : Int) := by rw [IntWalk.i64_in _ (by omega)]; rfl
    have hwk : IntKind.u64.wrap ((k : Int) + 1) = ((k + 1 : Nat) : Int) := by rw [show (k : Int) + 1 = ((k + 1 : Nat) : Int) from rfl]; exact u64_small' (by omega)
    clear hg4 hstep hi0 hsz0 hz1
    generalize l.drop a = ld4 at *
    go_wp2_with fail
    go_at_call 70
    refine (partb_told ld4 A4 _ _ (Kd.C_below HD4.out HB.out) HL4.out HBD.out hld HG4.out).mono ?_
    rintro e w4 ⟨rfl, hb4⟩
    unfold cellsP
    have HB4 := Aside0.mk (zab (zah HB.out hb4) (.cells #[.int .i64 z.f0, .int .i64 z.f1, .int .i64 z.f2.f0, .int .i64 z.f2.f1, .string z.f2.f2] 75))
    have HO4 := Aside0.mk (Kd.R_alloc (Kd.R_below HO.out hb4) (.cells #[.int .i64 z.f0, .int .i64 z.f1, .int .i64 z.f2.f0, .int .i64 z.f2.f1, .string z.f2.f2] 75))
    have HS4 := Aside0.mk (World.size_alloc w4 (.cells #[.int .i64 z.f0, .int .i64 z.f1, .int .i64 z.f2.f0, .int .i64 z.f2.f1, .string z.f2.f2] 75))
    clear hb4
    go_wp2_with ((with_reducible refine zaz (b := .append) (xs := #[.tmp 37, .tmp 39]) rfl ?_); at_builtin; refine Kd.R_append kOp (w0 := w) w.heap.size rfl (.tmp 37) (.tmp 39) 38 75 (.agg #[.int .i64 0, .int .i64 0, .int .i64 0, .int .i64 0, .string ⟨#[]⟩]) 48 rfl Try.underlying38 infoOp rfl ?h1 ?h2 u8 fs z [.int .i64 z.f0, .int .i64 z.f1, .int .i64 z.f2.f0, .int .i64 z.f2.f1, .string z.f2.f2] (fun _ => True) (fun _ => False) ?hs ?hx ?aP (fun _ hk => hk.elim) (fun _ _ => trivial) ?aO ?aB ?aS ?aL ?_; (case h1 => decide); (case h2 => decide); (case hs => rfl); (case hx => first | rfl | (show Value.slice (some ⟨w4.heap.size + 1, 0, none⟩) 1 1 = _; rw [World.size_alloc])); (case aP => exact kOp_mkM _ _ _ z); (case aO => exact HO4.out); (case aB => exact HB4.out); (case aS => exact zao HB4.out); (case aL => omega); intro v5 w5 ho5 hb5 hg5 hat5; have HO5 := Aside0.mk ho5; have HB5 := Aside0.mk hb5; clear ho5 hb5 hg5 hat5)
    go_roundw
    case rel => exact ⟨k + 1, by first | go_num | (rw [hwk]) | rfl, a + zn, fs ++ [z], by first | go_num | rfl, by omega, by omega, by rw [List.length_append, HFL.out]; rfl, fun y hy => by rcases List.mem_append.1 hy with h | h; exact HFI.out y h; rw [List.mem_singleton.1 h]; exact HZ1.out, by rw [show n - (k + 1) = n - k - 1 from by omega]; exact HST4.out, HO5.out, HB5.out⟩
    case measure => simp [intOf]; omega
  ·obtain rfl : k = n := by omega
   have hnl : ¬ (k : Int) < (k : Int) := by omega
   have hcte := HCT.out
   rw [Nat.sub_self, contO_end] at hcte
   obtain ⟨A5, c5, rfl, hc5, hr5⟩ := Kd.R_reads HO.out
   have HC5 := Aside0.mk hc5
   have HR5 := Aside0.mk hr5
   have hq2 := HQ.out
   rw [hcte] at hq2
   clear hc5 hr5 hcte hi0 hsz0
   cases hmf : mayO fs with
   | false =>
    rw [hmf, if_neg (by decide)] at hq2
    simp only [gotO, Prod.mk.injEq] at hq2
    obtain ⟨rfl, rfl, rfl⟩ := hq2
    have HMF := Aside0.mk hmf
    clear hmf
    go_wp2_with fail
    go_at_call 58
    refine (mayO_told fs A5 c5 _ HR5.out HC5.out HFI.out HMF.out).mono ?_
    rintro e w6 ⟨rfl, hb6⟩
    go_wp2_with fail
    go_ret3
    exact none_opsR rfl (zah HB.out hb6)
   | true =>
    rw [hmf, if_pos rfl] at hq2
    simp only [gotO, Prod.mk.injEq] at hq2
    obtain ⟨rfl, rfl, rfl⟩ := hq2
    have HMF := Aside0.mk hmf
    clear hmf
    go_wp2_with fail
    go_at_call 58
    refine (mayO_told fs A5 c5 _ HR5.out HC5.out HFI.out HMF.out).mono ?_
    rintro e w6 ⟨rfl, hb6⟩
    go_wp2_with fail
    go_ret3
    exact ⟨_, rfl, Kd.R_below HO.out hb6, zah HB.out hb6⟩
theorem getO_toldR (w : World) (A : Option Addr) (c : Nat) (l : List Int) (hr : Kd.C (Kd.int .u8) w A l.length l) (hc : l.length ≤ c) (hb : zaJ l) (hl : l.length < 4611686018427387904) {x : List SOp} {m : Nat} {b : Bool} (hq : gotO (getO l) = (x, m, b)) : Calls Try.prog 60 #[.slice A l.length c] w (opsPostR x m b w) := by
 cases hg : getN l with
 | none =>
  rw [getO_none (getM_none hg)] at hq
  simp only [gotO, Prod.mk.injEq] at hq
  obtain ⟨rfl, rfl, rfl⟩ := hq
  exact getO_no1 w A c l hr hc hb hl hg
 | some p =>
  obtain ⟨n, u⟩ := p
  by_cases hn : n ≤ 12
  ·exact getO_go w A c l hr hc hb hl hg hn hq
  ·rw [getO_none (show getM l 12 = none from by rw [getM_some hg, if_neg hn])] at hq
   simp only [gotO, Prod.mk.injEq] at hq
   obtain ⟨rfl, rfl, rfl⟩ := hq
   exact getO_no2 w A c l hr hc hb hl hg hn
def opsPost9 (w0 : World) (B : Nat) (s : Option (List Int)) (w : World) (e : Ending) (w' : World) : Prop := ∃ v x, e = .returned v ∧ Kd.R kOp 75 w' w.heap.size (fun _ => True) v x ∧ (∀ y ∈ x, i64V y.f2) ∧ x.length ≤ 12 ∧ (∀ y r, s.bind rO = some (y, r) → x = y) ∧ RdAt w0 B (zay s rO) w' ∧ Only B w w'
set_option maxHeartbeats 1000000 in
set_option maxRecDepth 100000 in
theorem ops_told (w0 : World) (B : Nat) (s : Option (List Int)) (w : World) (h : RdAt w0 B s w) :
  Calls Try.prog 45 #[.pointer (some ⟨B, 0, none⟩)] w (opsPost9 w0 B s w) := by
 have HH := Aside0.mk h
 obtain ⟨⟨A, c, l, bad, h1, h2, h3, h4, h5, hs⟩, h6, h7⟩ := h
 have HR := Aside0.mk (Kd.C_below h3 h6)
 have HC := Aside0.mk h2
 have HBY := Aside0.mk h4
 obtain ⟨k1, k2, k3, k4⟩ := know h1
 obtain ⟨x, m, b, hg⟩ : ∃ x m b, gotO (getO l) = (x, m, b) := ⟨_, _, _, rfl⟩
 have hx : (∀ y ∈ x, i64V y.f2) ∧ m ≤ l.length ∧ x.length ≤ 12 := by
  cases hz : getO l with
  | none =>
   rw [hz] at hg
   simp only [gotO, Prod.mk.injEq] at hg
   obtain ⟨rfl, rfl, _⟩ := hg
   exact ⟨(fun _ h => by cases h), Nat.zero_le _, by decide⟩
  | some p =>
   obtain ⟨y, k⟩ := p
   rw [hz] at hg
   simp only [gotO, Prod.mk.injEq] at hg
   obtain ⟨rfl, rfl, _⟩ := hg
   have ht := getO_take h4 hz
   exact ⟨ht.2.2.2, ht.2.1, (mayO_iff.1 ht.1).1⟩
 have hsl : s = none ∨ s = some l := by
  rw [hs]
  cases bad
  ·exact .inr rfl
  ·exact .inl rfl
 have HE := Aside0.mk (restO_rO s hg hsl (fun _ => hx.2.1))
 have HX := Aside0.mk (show ∀ y r, s.bind rO = some (y, r) → x = y from by
  intro y r hy
  rcases hsl with rfl | rfl
  ·cases hy
  ·rw [Option.bind_some] at hy
   unfold rO at hy
   cases hz : getO l with
   | none => rw [hz] at hy; cases hy
   | some p =>
    obtain ⟨z, k⟩ := p
    rw [hz] at hy hg
    simp only [gotO, Option.some.injEq, Prod.mk.injEq] at hy hg
    rw [← hg.1, hy.1])
 have HG := Aside0.mk hg
 have HI := Aside0.mk hx.1
 have HX12 := Aside0.mk hx.2.2
 have hm63 : m < 4611686018427387904 := by omega
 clear h1 h2 h3 h4 h6 hs hsl hg hx
 go_enter Try.func45, Try.ntmps45
 go_wp2_with fail
 go_at_call 60
 refine (getO_toldR w A c l HR.out HC.out HBY.out h5 HG.out).mono ?_
 rintro e w1 ⟨v1, rfl, ho1, hb1⟩
 have HV1 := Aside0.mk ho1
 have HH1 := Aside0.mk (HH.out.grow hb1)
 have HO1 := Aside0.mk (Only.of_below hb1 (Nat.le_of_lt HH.out.lt))
 clear hb1 ho1 k1 k2 k3 k4
 go_wp2_with fail
 go_at_call 43
 refine (skip_told w0 B s m b _ HH1.out hm63).mono ?_
 rintro e w2 ⟨rfl, hrd, ho⟩
 rw [← HE.out] at hrd
 have HR2 := Aside0.mk hrd
 have HO2 := Aside0.mk (HO1.out.trans ho)
 obtain ⟨⟨A1, c1, l1, bad1, g1, g2, g3, g4, g5, g6⟩, g7, g8⟩ := HH1.out
 have HV2 := Aside0.mk (ho.row HV1.out g1 (by decide))
 clear g1 g2 g3 g4 g6 g7 hrd ho
 go_wp2_with fail
 go_ret
 exact ⟨v1, x, rfl, HV2.out, HI.out, HX12.out, HX.out, HR2.out, HO2.out⟩
def stepPost (w0 : World) (B : Nat) (s : Option (List Int)) (w : World) (e : Ending) (w' : World) : Prop := ∃ (v1 v6 : Value) (x : SStep), e = .returned (.agg #[.string x.f0, v1, .int .i64 x.f2, .int .i64 x.f3, .bool x.f4, .string x.f5, v6]) ∧ Kd.R kOp 75 w' w.heap.size (fun _ => True) v1 x.f1 ∧ Kd.R kOp 75 w' w.heap.size (fun _ => True) v6 x.f6 ∧ (∀ y ∈ x.f1, i64V y.f2) ∧ (∀ y ∈ x.f6, i64V y.f2) ∧ (∀ y r, s.bind rS = some (y, r) → x = y) ∧ RdAt w0 B (zay s rS) w' ∧ Only B w w'
theorem rd_row {w0 w w' : World} {B : Nat} {s : Option (List Int)} {base : Nat} {v : Value} {x : List SOp} (h : RdAt w0 B s w) (hr : Kd.R kOp 75 w base (fun _ => True) v x) (ho : Only B w w') : Kd.R kOp 75 w' base (fun _ => True) v x := by
 obtain ⟨⟨A1, c1, l1, bad1, g1, _⟩, _⟩ := h
 exact ho.row hr g1 (by decide)
theorem Only.set_new {B g j : Nat} {w w' : World} (h : Only B w w') (hg : w.heap.size ≤ g) (hB : B ≤ g) (u : Value) : Only B w (w'.setCell ⟨g, j, none⟩ u) :=
 ⟨h.1.setCell (p := ⟨g, j, none⟩) hB u, fun i hi hl => (Below.heap_setCell w' ⟨g, j, none⟩ u i (show i ≠ g by omega)).trans (h.2 i hi hl)⟩
theorem RdAt.set_far {w0 w : World} {B g j : Nat} {s : Option (List Int)} (h : RdAt w0 B s w) (hne : B ≠ g) (hg : w0.heap.size ≤ g) (u : Value) : RdAt w0 B s (w.setCell ⟨g, j, none⟩ u) := by
 obtain ⟨⟨A, c, l, bad, h1, h2⟩, h3, h4⟩ := h
 exact ⟨⟨A, c, l, bad, zaG h1 (p := ⟨g, j, none⟩) hne u, h2⟩, h3.setCell (p := ⟨g, j, none⟩) hg u, h4⟩
structure StepSt (w0 w : World) (B : Nat) (s : Option (List Int)) (v1 : Value) (o1 : List SOp) (v6 : Value) (o2 : List SOp) (W : World) : Prop where
 rd : RdAt w0 B s W
 only : Only B w W
 r1 : Kd.R kOp 75 W w.heap.size (fun _ => True) v1 o1
 r6 : Kd.R kOp 75 W w.heap.size (fun _ => True) v6 o2
theorem StepSt.set {w0 w W : World} {B g j : Nat} {s : Option (List Int)} {v1 v6 : Value} {o1 o2 : List SOp} {cs : Array Value} (h : StepSt w0 w B s v1 o1 v6 o2 W) (hk : W.heap[g]? = some (.cells cs 40 (0, 0))) (hg : w.heap.size ≤ g) (hB : B < w.heap.size) (u : Value) : StepSt w0 w B s v1 o1 v6 o2 (W.setCell ⟨g, j, none⟩ u) :=
 ⟨h.rd.set_far (by omega) (by have := h.rd.hB; omega) u, h.only.set_new hg (by omega) u, Kd.R_set h.r1 hk (by decide) j u, Kd.R_set h.r6 hk (by decide) j u⟩
theorem StepSt.set7 {w0 w W : World} {B g : Nat} {s : Option (List Int)} {v1 v6 : Value} {o1 o2 : List SOp} {a0 a1 a2 a3 a4 a5 a6 : Value} (h : StepSt w0 w B s v1 o1 v6 o2 W) (hk : W.heap[g]? = some (.cells #[a0, a1, a2, a3, a4, a5, a6] 40 (0, 0))) (hg : w.heap.size ≤ g) (hB : B < w.heap.size) (x0 x1 x2 x3 x4 x5 x6 : Value) :
  StepSt w0 w B s v1 o1 v6 o2 (((((((W.setCell ⟨g, 0, none⟩ x0).setCell ⟨g, 1, none⟩ x1).setCell ⟨g, 2, none⟩ x2).setCell ⟨g, 3, none⟩ x3).setCell ⟨g, 4, none⟩ x4).setCell ⟨g, 5, none⟩ x5).setCell ⟨g, 6, none⟩ x6) ∧ (((((((W.setCell ⟨g, 0, none⟩ x0).setCell ⟨g, 1, none⟩ x1).setCell ⟨g, 2, none⟩ x2).setCell ⟨g, 3, none⟩ x3).setCell ⟨g, 4, none⟩ x4).setCell ⟨g, 5, none⟩ x5).setCell ⟨g, 6, none⟩ x6).heap[g]? = some (.cells #[x0, x1, x2, x3, x4, x5, x6] 40 (0, 0)) := by
 have k0 := zar (cs' := #[x0, a1, a2, a3, a4, a5, a6]) hk 0 x0 rfl
 have k1 := zar (cs' := #[x0, x1, a2, a3, a4, a5, a6]) k0 1 x1 rfl
 have k2 := zar (cs' := #[x0, x1, x2, a3, a4, a5, a6]) k1 2 x2 rfl
 have k3 := zar (cs' := #[x0, x1, x2, x3, a4, a5, a6]) k2 3 x3 rfl
 have k4 := zar (cs' := #[x0, x1, x2, x3, x4, a5, a6]) k3 4 x4 rfl
 have k5 := zar (cs' := #[x0, x1, x2, x3, x4, x5, a6]) k4 5 x5 rfl
 have s0 := h.set (j := 0) hk hg hB x0
 have s1 := s0.set (j := 1) k0 hg hB x1
 have s2 := s1.set (j := 2) k1 hg hB x2
 have s3 := s2.set (j := 3) k2 hg hB x3
 have s4 := s3.set (j := 4) k3 hg hB x4
 have s5 := s4.set (j := 5) k4 hg hB x5
 have s6 := s5.set (j := 6) k5 hg hB x6
 exact ⟨s6, zar k5 6 x6 rfl⟩
set_option maxHeartbeats 4000000 in
set_option maxRecDepth 100000 in
theorem step_told (w0 : World) (B : Nat) (s : Option (List Int)) (w : World) (h : RdAt w0 B s w) :
  Calls Try.prog 26 #[.pointer (some ⟨B, 0, none⟩)] w (stepPost w0 B s w) := by
 have HZ := Aside0.mk (zat w (.cells #[.string ⟨#[]⟩, .slice none 0 0, .int .i64 0, .int .i64 0, .bool false, .string ⟨#[]⟩, .slice none 0 0] 40))
 have HB0 := Aside0.mk (zab (Below.refl w.heap.size w) (.cells #[.string ⟨#[]⟩, .slice none 0 0, .int .i64 0, .int .i64 0, .bool false, .string ⟨#[]⟩, .slice none 0 0] 40))
 have HH := Aside0.mk (h.grow HB0.out)
 have HO0 := Aside0.mk (Only.of_below HB0.out (Nat.le_of_lt h.lt))
 have hBw := h.lt
 have hne : w.heap.size ≠ B := by omega
 obtain ⟨s1, hs1⟩ : ∃ s1, zay s rT = s1 := ⟨_, rfl⟩
 obtain ⟨s2, hs2⟩ : ∃ s2, zay s1 rO = s2 := ⟨_, rfl⟩
 obtain ⟨s3, hs3⟩ : ∃ s3, zay s2 (rN 4) = s3 := ⟨_, rfl⟩
 obtain ⟨s4, hs4⟩ : ∃ s4, zay s3 (rN 4) = s4 := ⟨_, rfl⟩
 obtain ⟨s5, hs5⟩ : ∃ s5, zay s4 (rN 1) = s5 := ⟨_, rfl⟩
 obtain ⟨nm, hnm⟩ : ∃ t, wasO (⟨#[]⟩ : ByteArray) s rT = t := ⟨_, rfl⟩
 obtain ⟨mn, hmn⟩ : ∃ t, wasO 0 s2 (rN 4) = t := ⟨_, rfl⟩
 obtain ⟨mx, hmx⟩ : ∃ t, wasO 0 s3 (rN 4) = t := ⟨_, rfl⟩
 obtain ⟨g, hg⟩ : ∃ t, wasO 0 s4 (rN 1) = t := ⟨_, rfl⟩
 have HP := Aside0.mk (fun (y : SStep) (r : List Int) (hy : s.bind rS = some (y, r)) => rS_parts hy)
 have HRS := Aside0.mk (restO_rS s)
 rw [hs1, hs2, hs3, hs4, hs5, hg] at HRS
 rw [hs1, hs2, hs3, hs4, hs5, hg, hnm, hmn, hmx] at HP
 have HS1 := Aside0.mk hs1
 have HS2 := Aside0.mk hs2
 have HS3 := Aside0.mk hs3
 have HS4 := Aside0.mk hs4
 have HS5 := Aside0.mk hs5
 have HNM := Aside0.mk hnm
 have HMN := Aside0.mk hmn
 have HMX := Aside0.mk hmx
 have HG := Aside0.mk hg
 clear h hs1 hs2 hs3 hs4 hs5 hnm hmn hmx hg
 go_enter Try.func26, Try.ntmps26
 go_wp2_with fail
 go_at_call 44
 refine (text_told w0 B s _ HH.out).mono ?_
 rintro e w1 ⟨rfl, hrd, ho⟩
 rw [HS1.out] at hrd
 rw [HNM.out]
 have HR1 := Aside0.mk hrd
 have HO1 := Aside0.mk (HO0.out.trans ho)
 have HZ1 := Aside0.mk (ho.blk HZ.out hne)
 clear hrd ho
 go_wp2_with fail
 go_at_call 45
 refine (ops_told w0 B s1 _ HR1.out).mono ?_
 rintro e w2 ⟨v1, o1, rfl, hv, hi, _, hx, hrd, ho⟩
 rw [HS2.out] at hrd
 have HR2 := Aside0.mk hrd
 have HO2 := Aside0.mk (HO1.out.trans ho)
 have HV2 := Aside0.mk (Kd.R_lower hv HO1.out.1.size)
 have HI1 := Aside0.mk hi
 have HX1 := Aside0.mk hx
 have HZ2 := Aside0.mk (ho.blk HZ1.out hne)
 clear hrd ho hv hi hx
 go_wp2_with fail
 go_at_call 25
 refine (za5 w0 B s2 4 _ HR2.out (by decide)).mono ?_
 rintro e w3 ⟨rfl, hrd, ho⟩
 rw [HS3.out] at hrd
 rw [HMN.out]
 have HR3 := Aside0.mk hrd
 have HO3 := Aside0.mk (HO2.out.trans ho)
 have HV3 := Aside0.mk (rd_row HR2.out HV2.out ho)
 have HZ3 := Aside0.mk (ho.blk HZ2.out hne)
 clear hrd ho
 go_wp2_with fail
 go_at_call 25
 refine (za5 w0 B s3 4 _ HR3.out (by decide)).mono ?_
 rintro e w4 ⟨rfl, hrd, ho⟩
 rw [HS4.out] at hrd
 rw [HMX.out]
 have HR4 := Aside0.mk hrd
 have HO4 := Aside0.mk (HO3.out.trans ho)
 have HV4 := Aside0.mk (rd_row HR3.out HV3.out ho)
 have HZ4 := Aside0.mk (ho.blk HZ3.out hne)
 clear hrd ho
 go_wp2_with fail
 go_at_call 25
 refine (za5 w0 B s4 1 _ HR4.out (by decide)).mono ?_
 rintro e w5 ⟨rfl, hrd, ho⟩
 rw [HS5.out] at hrd
 rw [HG.out]
 have HR5 := Aside0.mk hrd
 have HO5 := Aside0.mk (HO4.out.trans ho)
 have hv5 := rd_row HR4.out HV4.out ho
 obtain ⟨A1, c1, rfl⟩ := Kd.R_slice hv5
 have HV5 := Aside0.mk hv5
 have HZ5 := Aside0.mk (ho.blk HZ4.out hne)
 clear hrd ho hv5
 by_cases hg : g = 1
 ·have hgb : (((g : Nat) : Int) == 1) = true := beq_iff_eq.2 (by omega)
  have HGG := Aside0.mk hg
  clear hg
  have HX := Aside0.mk (zat w5 (.cells #[.string nm, .slice (A1) o1.length c1, .int .i64 (mn : Int), .int .i64 (mx : Int), .bool true, .string ⟨#[]⟩, .slice none 0 0] 40))
  have HBX := Aside0.mk (zab (Below.refl w5.heap.size w5) (.cells #[.string nm, .slice (A1) o1.length c1, .int .i64 (mn : Int), .int .i64 (mx : Int), .bool true, .string ⟨#[]⟩, .slice none 0 0] 40))
  obtain ⟨q1, q2, q3, q4⟩ := know HX.out
  have hB5 := HR5.out.lt
  have hne5 : w5.heap.size ≠ B := by omega
  have hzl := zaA HZ5.out
  have hnz : w.heap.size ≠ w5.heap.size := by omega
  go_wp2_with fail
  go_at_call 44
  refine (text_told w0 B s5 _ (HR5.out.grow HBX.out)).mono ?_
  rintro e w6 ⟨rfl, hrd, ho⟩
  obtain ⟨s6, hs6⟩ : ∃ s6, zay s5 rT = s6 := ⟨_, rfl⟩
  obtain ⟨nm2, hnm2⟩ : ∃ t, wasO (⟨#[]⟩ : ByteArray) s5 rT = t := ⟨_, rfl⟩
  rw [hs6] at hrd
  have HNM2 := Aside0.mk hnm2
  have HS6 := Aside0.mk hs6
  rw [hnm2]
  have HR6 := Aside0.mk hrd
  have HO6 := Aside0.mk ((HO5.out.step HBX.out (Nat.le_of_lt hB5)).trans ho)
  have HV6 := Aside0.mk (rd_row (HR5.out.grow HBX.out) (Kd.R_below HV5.out HBX.out) ho)
  have HZ6 := Aside0.mk (ho.blk (zak HZ5.out HBX.out) hne)
  have HX6 := Aside0.mk (ho.blk HX.out hne5)
  obtain ⟨j1, j2, j3, j4⟩ := know HX6.out
  clear hrd ho q1 q2 q3 q4 hs6 hnm2
  go_wp2_with fail
  go_at_call 45
  refine (ops_told w0 B s6 _ HR6.out).mono ?_
  rintro e w7 ⟨v6, o2, rfl, hv, hi, _, hx, hrd, ho⟩
  obtain ⟨A6, c6, rfl⟩ := Kd.R_slice hv
  have HR7 := Aside0.mk hrd
  have HO7 := Aside0.mk (HO6.out.trans ho)
  have HW7 := Aside0.mk (Kd.R_lower hv HO6.out.1.size)
  have HV7 := Aside0.mk (rd_row HR6.out HV6.out ho)
  have HI2 := Aside0.mk hi
  have HX2 := Aside0.mk hx
  have hz7 := ho.blk HZ6.out hne
  have hx7 := ho.blk HX6.out hne5
  have HZ7 := Aside0.mk hz7
  have HX7 := Aside0.mk hx7
  obtain ⟨k1, k2, k3, k4⟩ := know hx7
  have hz7b := zaG (zaG hz7 (p := ⟨w5.heap.size, 5, none⟩) hnz (.string nm2)) (p := ⟨w5.heap.size, 6, none⟩) hnz (.slice A6 o2.length c6)
  have hx7b := zar (zar hx7 5 (Value.string nm2) rfl) 6 (Value.slice A6 o2.length c6) rfl
  have hx7a := zar hx7 5 (Value.string nm2) rfl
  obtain ⟨m1, m2, m3, m4⟩ := know hx7a
  obtain ⟨n1, n2, n3, n4⟩ := know hx7b
  obtain ⟨p1, p2, p3, p4⟩ := know hz7b
  have HX7A := Aside0.mk hx7a
  have HZ7B := Aside0.mk hz7b
  have hwx : w.heap.size ≤ w5.heap.size := Nat.le_of_lt hzl
  have HE7 := Aside0.mk (show zay s rS = zay s6 rO from by rw [HRS.out, if_pos HGG.out, HS6.out])
  clear hrd ho hv hi hx hz7 hx7 j1 j2 j3 j4 hz7b hx7b hx7a
  go_wp2_with fail
  have hst : StepSt w0 w B (zay s6 rO) (.slice A1 o1.length c1) o1 (.slice A6 o2.length c6) o2 w7 := ⟨HR7.out, HO7.out, HV7.out, HW7.out⟩
  have hfin := ((hst.set (j := 5) HX7.out hwx hBw (.string nm2)).set (j := 6) HX7A.out hwx hBw (.slice A6 o2.length c6)).set7 HZ7B.out (Nat.le_refl _) hBw (.string nm) (.slice A1 o1.length c1) (.int .i64 (mn : Int)) (.int .i64 (mx : Int)) (.bool true) (.string nm2) (.slice A6 o2.length c6)
  generalize World.setCell (World.setCell (World.setCell (World.setCell (World.setCell (World.setCell (World.setCell _ _ _) _ _) _ _) _ _) _ _) _ _) _ _ = Wf at hfin ⊢
  obtain ⟨hst2, hkf⟩ := hfin
  obtain ⟨f1, f2, f3, f4⟩ := know hkf
  have HST := Aside0.mk hst2
  clear hst hst2 hkf k1 k2 k3 k4 m1 m2 m3 m4 n1 n2 n3 n4 p1 p2 p3 p4
  refine bodyPost_ret (v := .agg #[.string nm, .slice A1 o1.length c1, .int .i64 (mn : Int), .int .i64 (mx : Int), .bool true, .string nm2, .slice A6 o2.length c6]) (by simp [results, Try.results26, go_sem, f1]) rfl ?_
  refine ⟨_, _, ⟨nm, o1, (mn : Int), (mx : Int), true, nm2, o2⟩, rfl, HST.out.r1, HST.out.r6, HI1.out, HI2.out, ?_, by rw [HE7.out]; exact HST.out.rd, HST.out.only⟩
  intro y r hy
  obtain ⟨o1', l2, e1, e2, e3, e4, e5, e6, e7, _⟩ := HP.out y r hy
  obtain ⟨e8, l7, e9⟩ := e7 HGG.out
  obtain ⟨y0, y1, y2, y3, y4, y5, y6⟩ := y
  have x1 := HX1.out _ _ e1
  rw [HS6.out] at e9
  rw [HNM2.out] at e8
  have x2 := HX2.out _ _ e9
  simp only at e2 e3 e4 e5 e6 e8 x2
  rw [e2, e3, e4, e5, e6, e8, ← x1, ← x2, decide_eq_true HGG.out]
 ·have hgb : (((g : Nat) : Int) == 1) = false := beq_eq_false_iff_ne.2 (by omega)
  have HGG := Aside0.mk hg
  clear hg
  have HX := Aside0.mk (zat w5 (.cells #[.string nm, .slice (A1) o1.length c1, .int .i64 (mn : Int), .int .i64 (mx : Int), .bool false, .string ⟨#[]⟩, .slice none 0 0] 40))
  have hzz := zag HZ5.out (.cells #[.string nm, .slice (A1) o1.length c1, .int .i64 (mn : Int), .int .i64 (mx : Int), .bool false, .string ⟨#[]⟩, .slice none 0 0] 40)
  have HZZ := Aside0.mk hzz
  have HBX := Aside0.mk (zab (Below.refl w5.heap.size w5) (.cells #[.string nm, .slice (A1) o1.length c1, .int .i64 (mn : Int), .int .i64 (mx : Int), .bool false, .string ⟨#[]⟩, .slice none 0 0] 40))
  have hzl := zaA HZ5.out
  have hnz : w.heap.size ≠ w5.heap.size := by omega
  go_upto_region 2 with fail
  generalize w5.alloc (.cells #[.string nm, .slice (A1) o1.length c1, .int .i64 (mn : Int), .int .i64 (mx : Int), .bool false, .string ⟨#[]⟩, .slice none 0 0] 40) = W6 at HX HZZ HBX hzz ⊢
  obtain ⟨q1, q2, q3, q4⟩ := know HX.out
  obtain ⟨p1, p2, p3, p4⟩ := know hzz
  clear hzz
  go_wp2_with fail
  have hst : StepSt w0 w B s5 (.slice A1 o1.length c1) o1 (.slice none 0 0) [] W6 := ⟨HR5.out.grow HBX.out, HO5.out.step HBX.out (Nat.le_of_lt HR5.out.lt), Kd.R_below HV5.out HBX.out, Kd.R_nil _ _ _ _ _⟩
  have hfin := hst.set7 HZZ.out (Nat.le_refl _) hBw (.string nm) (.slice A1 o1.length c1) (.int .i64 (mn : Int)) (.int .i64 (mx : Int)) (.bool false) (.string ⟨#[]⟩) (.slice none 0 0)
  have HE7 := Aside0.mk (show zay s rS = s5 from by rw [HRS.out, if_neg HGG.out])
  generalize World.setCell (World.setCell (World.setCell (World.setCell (World.setCell (World.setCell (World.setCell _ _ _) _ _) _ _) _ _) _ _) _ _) _ _ = Wf at hfin ⊢
  obtain ⟨hst2, hkf⟩ := hfin
  obtain ⟨f1, f2, f3, f4⟩ := know hkf
  have HST := Aside0.mk hst2
  clear hst hst2 hkf p1 p2 p3 p4 q1 q2 q3 q4
  refine bodyPost_ret (v := .agg #[.string nm, .slice A1 o1.length c1, .int .i64 (mn : Int), .int .i64 (mx : Int), .bool false, .string ⟨#[]⟩, .slice none 0 0]) (by simp [results, Try.results26, go_sem, f1]) rfl ?_
  refine ⟨_, _, ⟨nm, o1, (mn : Int), (mx : Int), false, ⟨#[]⟩, []⟩, rfl, HST.out.r1, HST.out.r6, HI1.out, fun _ h => by (cases h), ?_, by rw [HE7.out]; exact HST.out.rd, HST.out.only⟩
  intro y r hy
  obtain ⟨o1', l2, e1, e2, e3, e4, e5, e6, _, e7⟩ := HP.out y r hy
  obtain ⟨e8, e9⟩ := e7 HGG.out
  obtain ⟨y0, y1, y2, y3, y4, y5, y6⟩ := y
  have x1 := HX1.out _ _ e1
  simp only at e2 e3 e4 e5 e6 e8 e9
  rw [e2, e3, e4, e5, e6, e8, e9, ← x1, decide_eq_false HGG.out]
def qPost3 (x : SQuery) (n : Nat) (b : Bool) (w : World) (e : Ending) (w' : World) : Prop := ∃ v, e = .returned (.tuple #[.agg #[v, .int .i64 x.f1, .int .i64 x.f2, .int .i64 x.f3, .int .i64 x.f4], .int .i64 (n : Int), .bool b]) ∧ Kd.R kStep 40 w' w.heap.size (fun _ => True) v x.f0 ∧ okQ x ∧ Below w.heap.size w w'
theorem RdAt.grown {w0 w w1 : World} {B : Nat} {s : Option (List Int)} {u : Option Nat} (h : RdAt w0 B s w) (hg : w.grownBy w1 u) (hne : some B ≠ u) (hb : Below w0.heap.size w0 w1) : RdAt w0 B s w1 := by
 obtain ⟨⟨A, c, l, bad, h1, h2⟩, h3, h4⟩ := h
 exact ⟨⟨A, c, l, bad, zba h1 hg hne, h2⟩, hb, h4⟩
theorem RdAt.neR {w0 w : World} {B base : Nat} {s : Option (List Int)} {v : Value} {xs : List SStep} (h : RdAt w0 B s w) (hr : Kd.R kStep 40 w base (fun _ => True) v xs) : some B ≠ v.ownBlock := by
 obtain ⟨⟨A, c, l, bad, h1, h2⟩, h3, h4⟩ := h
 exact Kd.R_ne hr h1 (by decide)
theorem rd_rowS {w0 w w' : World} {B : Nat} {s : Option (List Int)} {base : Nat} {v : Value} {x : List SStep} (h : RdAt w0 B s w) (hr : Kd.R kStep 40 w base (fun _ => True) v x) (ho : Only B w w') : Kd.R kStep 40 w' base (fun _ => True) v x := by
 obtain ⟨⟨A1, c1, l1, bad1, g1, _⟩, _⟩ := h
 exact ho.row hr g1 (by decide)
structure GetQSt (w : World) (B Q : Nat) (s : Option (List Int)) (v : Value) (fs : List SStep) (a b c d : Value) (w' : World) : Prop where
 rd : RdAt w B s w'
 q : w'.heap[Q]? = some (.cells #[v, a, b, c, d] 24 (0, 0))
 z : w'.heap[w.heap.size]? = some (.cells #[.slice none 0 0, .int .i64 0, .int .i64 0, .int .i64 0, .int .i64 0] 24 (0, 0))
 row : Kd.R kStep 40 w' w.heap.size (fun _ => True) v fs
theorem GetQSt.only {w w1 w2 : World} {B Q : Nat} {s s' : Option (List Int)} {v a b c d : Value} {fs : List SStep} (h : GetQSt w B Q s v fs a b c d w1) (ho : Only B w1 w2) (hr : RdAt w B s' w2) (hQ : Q ≠ B) (hZ : w.heap.size ≠ B) : GetQSt w B Q s' v fs a b c d w2 :=
 ⟨hr, ho.blk h.q hQ, ho.blk h.z hZ, rd_rowS h.rd h.row ho⟩
theorem put5 {w W : World} {g n : Nat} {a0 a1 a2 a3 a4 : Value} {v : Value} {xs : List SStep} (hb : Below n w W) (hk : W.heap[g]? = some (.cells #[a0, a1, a2, a3, a4] 24 (0, 0))) (hr : Kd.R kStep 40 W n (fun _ => True) v xs) (hg : n ≤ g) (x0 x1 x2 x3 x4 : Value) :
  Below n w (((((W.setCell ⟨g, 0, none⟩ x0).setCell ⟨g, 1, none⟩ x1).setCell ⟨g, 2, none⟩ x2).setCell ⟨g, 3, none⟩ x3).setCell ⟨g, 4, none⟩ x4) ∧ (((((W.setCell ⟨g, 0, none⟩ x0).setCell ⟨g, 1, none⟩ x1).setCell ⟨g, 2, none⟩ x2).setCell ⟨g, 3, none⟩ x3).setCell ⟨g, 4, none⟩ x4).heap[g]? = some (.cells #[x0, x1, x2, x3, x4] 24 (0, 0)) ∧ Kd.R kStep 40 (((((W.setCell ⟨g, 0, none⟩ x0).setCell ⟨g, 1, none⟩ x1).setCell ⟨g, 2, none⟩ x2).setCell ⟨g, 3, none⟩ x3).setCell ⟨g, 4, none⟩ x4) n (fun _ => True) v xs := by
 have k0 := zar (cs' := #[x0, a1, a2, a3, a4]) hk 0 x0 rfl
 have b0 := hb.setCell (p := ⟨g, 0, none⟩) hg x0
 have r0 := Kd.R_set hr hk (by decide) 0 x0
 have k1 := zar (cs' := #[x0, x1, a2, a3, a4]) k0 1 x1 rfl
 have b1 := b0.setCell (p := ⟨g, 1, none⟩) hg x1
 have r1 := Kd.R_set r0 k0 (by decide) 1 x1
 have k2 := zar (cs' := #[x0, x1, x2, a3, a4]) k1 2 x2 rfl
 have b2 := b1.setCell (p := ⟨g, 2, none⟩) hg x2
 have r2 := Kd.R_set r1 k1 (by decide) 2 x2
 have k3 := zar (cs' := #[x0, x1, x2, x3, a4]) k2 3 x3 rfl
 have b3 := b2.setCell (p := ⟨g, 3, none⟩) hg x3
 have r3 := Kd.R_set r2 k2 (by decide) 3 x3
 have k4 := zar (cs' := #[x0, x1, x2, x3, x4]) k3 4 x4 rfl
 have b4 := b3.setCell (p := ⟨g, 4, none⟩) hg x4
 have r4 := Kd.R_set r3 k3 (by decide) 4 x4
 exact ⟨b4, k4, r4⟩
set_option maxHeartbeats 8000000 in
set_option maxRecDepth 100000 in
theorem getQ_told (w : World) (A : Option Addr) (c : Nat) (l : List Int) (hr : Kd.C (Kd.int .u8) w A l.length l) (hc : l.length ≤ c) (hb : zaJ l) (hl : l.length < 4611686018427387904) {x : SQuery} {m : Nat} {b : Bool} (hq : gotQ (getQ l) = (x, m, b)) :
  Calls Try.prog 12 #[.slice A l.length c] w (qPost3 x m b w) := by
 obtain ⟨s1, hs1⟩ : ∃ s1, zay (some l) (rN 4) = s1 := ⟨_, rfl⟩
 obtain ⟨many, hmany⟩ : ∃ n, wasO 0 (some l) (rN 4) = n := ⟨_, rfl⟩
 have hm4 : many ≤ 4 := hmany ▸ wasO_rN_le _ _
 have HS1 := Aside0.mk hs1
 have HMANY := Aside0.mk hmany
 have HQ := Aside0.mk hq
 have HRQ := Aside0.mk (fun (fs : List SStep) (se : Option (List Int)) (h : s1.bind (rSs many) = se.map fun r => (fs, r)) => rQ_of (l := l) (fs := fs) (se := se) (by rw [hs1, hmany]; exact h))
 have HR := Aside0.mk hr
 have HC := Aside0.mk hc
 have HBY := Aside0.mk hb
 have HZ0 := Aside0.mk (zat w (.cells #[.slice none 0 0, .int .i64 0, .int .i64 0, .int .i64 0, .int .i64 0] 24))
 have HK0 := Aside0.mk (za7 w (.cells #[.slice none 0 0, .int .i64 0, .int .i64 0, .int .i64 0, .int .i64 0] 24) (.cells #[.slice A l.length c, .bool false] 58))
 have HQ0 := Aside0.mk (blk_new3 w (.cells #[.slice none 0 0, .int .i64 0, .int .i64 0, .int .i64 0, .int .i64 0] 24) (.cells #[.slice A l.length c, .bool false] 58) (.cells #[.slice none 0 0, .int .i64 0, .int .i64 0, .int .i64 0, .int .i64 0] 24))
 have HB0 := Aside0.mk (zab (zab (zab (Below.refl w.heap.size w) (.cells #[.slice none 0 0, .int .i64 0, .int .i64 0, .int .i64 0, .int .i64 0] 24)) (.cells #[.slice A l.length c, .bool false] 58)) (.cells #[.slice none 0 0, .int .i64 0, .int .i64 0, .int .i64 0, .int .i64 0] 24))
 have HZ1 := Aside0.mk (zag (zag HZ0.out (.cells #[.slice A l.length c, .bool false] 58)) (.cells #[.slice none 0 0, .int .i64 0, .int .i64 0, .int .i64 0, .int .i64 0] 24))
 have HK1 := Aside0.mk (zag HK0.out (.cells #[.slice none 0 0, .int .i64 0, .int .i64 0, .int .i64 0, .int .i64 0] 24))
 clear hs1 hmany hq hr hc hb HZ0 HK0
 go_enter Try.func12, Try.ntmps12
 go_upto_region 3 with fail
 generalize ((w.alloc (.cells #[.slice none 0 0, .int .i64 0, .int .i64 0, .int .i64 0, .int .i64 0] 24)).alloc (.cells #[.slice A l.length c, .bool false] 58)).alloc (.cells #[.slice none 0 0, .int .i64 0, .int .i64 0, .int .i64 0, .int .i64 0] 24) = W0 at *
 have hst0 : GetQSt w (w.heap.size + 1) (w.heap.size + 1 + 1) (some l) (.slice none 0 0) [] (.int .i64 0) (.int .i64 0) (.int .i64 0) (.int .i64 0) W0 := ⟨⟨⟨A, c, l, false, HK1.out, HC.out, HR.out, HBY.out, hl, rfl⟩, HB0.out, Nat.le_succ _⟩, HQ0.out, HZ1.out, Kd.R_nil _ _ _ _ _⟩
 have HST0 := Aside0.mk hst0
 obtain ⟨B, hB⟩ : ∃ B, w.heap.size + 1 = B := ⟨_, rfl⟩
 obtain ⟨Q, hQ⟩ : ∃ Q, w.heap.size + 1 + 1 = Q := ⟨_, rfl⟩
 have hQB : Q ≠ B := by omega
 have hZB : w.heap.size ≠ B := by omega
 have hQZ : Q ≠ w.heap.size := by omega
 have hwB : w.heap.size ≤ B := by omega
 have hwQ : w.heap.size ≤ Q := by omega
 simp only [hQ] at HST0 ⊢
 simp only [hB] at HST0 ⊢
 clear hst0 hB hQ HZ1 HK1 HQ0 HB0
 go_wp2_with fail
 go_at_call 25
 refine (za5 w B (some l) 4 _ HST0.out.rd (by decide)).mono ?_
 rintro e w1 ⟨rfl, hrd, ho⟩
 rw [HS1.out] at hrd
 rw [HMANY.out]
 have HST1 := Aside0.mk (HST0.out.only ho hrd hQB hZB)
 clear hrd ho HST0
 go_wp2_with fail
 go_loopw [13] (fun v13 w' => ∃ (k : Nat) (s : Option (List Int)) (v : Value) (fs : List SStep), v13 = .int .i64 k ∧ k ≤ many ∧ fs.length = k ∧ (∀ x ∈ fs, okSt x) ∧ s1.bind (rSs many) = (s.bind (rSs (many - k))).map (fun p => (fs ++ p.1, p.2)) ∧ GetQSt w B Q s v fs (.int .i64 0) (.int .i64 0) (.int .i64 0) (.int .i64 0) w') (fun i _ => many - (intOf i).toNat)
 case atStart => exact ⟨0, s1, _, [], rfl, Nat.zero_le _, rfl, (fun _ h => by cases h), by simp, HST1.out⟩
 case round =>
  obtain ⟨k, s, v, fs, rfl, hk, hfl, hfo, hinv, hst⟩ := hrel
  have HST := Aside0.mk hst
  have HFO := Aside0.mk hfo
  have HINV := Aside0.mk hinv
  have HFL := Aside0.mk hfl
  obtain ⟨A0, c0, rfl⟩ := Kd.R_slice hst.row
  obtain ⟨y1, y2, y3, y4⟩ := know hst.q
  clear hfo hinv hst
  by_cases hlt : k < many
  ·have hmk : many - k = (many - (k + 1)) + 1 := by omega
   have HMK := Aside0.mk hmk
   have hqd : ∀ m i, (wr.drewN m).cell? ⟨Q, i, none⟩ = #[.slice A0 fs.length c0, .int .i64 0, .int .i64 0, .int .i64 0, .int .i64 0][i]? := fun m i => zac (zai HST.out.q m) i
   have hf4 : fs.length ≤ 4 := by omega
   have hk1 : k + 1 ≤ many := hlt
   clear hmk hfl
   go_wp2_with fail
   go_region_law (first
    | (go_simp; go_at_call 26; refine (step_told w B s _ (HST.out.rd.grow (zaM (Below.refl _ _)))).mono ?_; rintro e w5 ⟨v1, v6, x, rfl, hr1, hr6, hi1, hi6, hx, hrd, ho⟩; have HX := Aside0.mk (rSs_step fs (many - (k + 1)) hx); have HROW := Aside0.mk (rd_rowS (HST.out.rd.grow (zaM (Below.refl _ _))) (Kd.R_drew HST.out.row) ho); have HQ5 := Aside0.mk (ho.blk (zal HST.out.q) hQB); have HZ5 := Aside0.mk (ho.blk (zal HST.out.z) hZB); obtain ⟨n1, n2, n3, n4⟩ := know HQ5.out; have HRD := Aside0.mk hrd; have HS1' := Aside0.mk (Kd.R_newR hr1 (Kd.R_drew HST.out.row)); have HS6' := Aside0.mk (Kd.R_newR hr6 (Kd.R_drew HST.out.row)); have hsz6 := (HST.out.rd.grow (zaM (Below.refl wr.heap.size wr))).below.size; have HOKX : Aside0 (okSt x) := ⟨⟨i64B_iff.2 hi1, i64B_iff.2 hi6⟩⟩; clear hr1 hr6 hi1 hi6 hx hrd ho)
    | (refine Kd.R_append_step (o := ⟨some 20, _, _, _, _, _⟩) kStep (w0 := w) (W := w5) w.heap.size ?hw (.tmp 16) (.tmp 19) 22 40 (.agg #[.string ⟨#[]⟩, .slice none 0 0, .int .i64 0, .int .i64 0, .bool false, .string ⟨#[]⟩, .slice none 0 0]) 104 rfl Try.underlying22 infoStep rfl ?h0 ?h1 (.slice A0 fs.length c0) fs x [.string x.f0, v1, .int .i64 x.f2, .int .i64 x.f3, .bool x.f4, .string x.f5, v6] (fun _ => True) (fun k_ => True ∧ some k_ ≠ (Value.slice A0 fs.length c0).ownBlock) ?hs ?hx ?aP (fun _ h => h) (fun _ _ => trivial) ?aO ?aB ?aS ?aL ?_; (case hw => rfl); (case h0 => decide); (case h1 => decide); (case hs => rfl); (case hx => rfl); (case aP => exact kStep_mkM _ _ _ x (Kd.R_lower HS1'.out hsz6) (Kd.R_lower HS6'.out hsz6)); (case aO => exact HROW.out); (case aB => exact HRD.out.below); (case aS => exact HRD.out.below.size); (case aL => omega); intro v7 w7 ho7 hb7 hg7 hat7; obtain ⟨A7, c7, hv7⟩ := Kd.R_slice ho7; rw [List.length_append, List.length_singleton] at hv7; subst hv7; have HO7 := Aside0.mk ho7; have HB7 := Aside0.mk hb7; have HRD7 := Aside0.mk (HRD.out.grown hg7 (HRD.out.neR HROW.out) hb7); have HQ7 := Aside0.mk (zba HQ5.out hg7 (Kd.R_ne HROW.out HQ5.out (by decide))); have HZ7 := Aside0.mk (zba HZ5.out hg7 (Kd.R_ne HROW.out HZ5.out (by decide))); obtain ⟨m1, m2, m3, m4⟩ := know HQ7.out; clear ho7 hb7 hg7 hat7))
   all_goals
    have hst7 : GetQSt w B Q (zay s rS) (.slice A7 (fs.length + 1) c7) (fs ++ [x]) (.int .i64 0) (.int .i64 0) (.int .i64 0) (.int .i64 0) (w7.setCell ⟨Q, 0, none⟩ (.slice A7 (fs.length + 1) c7)) := ⟨HRD7.out.set_far (Ne.symm hQB) hwQ _, zar HQ7.out 0 (Value.slice A7 (fs.length + 1) c7) rfl, zaG HZ7.out (p := ⟨Q, 0, none⟩) (Ne.symm hQZ) (.slice A7 (fs.length + 1) c7), Kd.R_set HO7.out HQ7.out (by decide) 0 (.slice A7 (fs.length + 1) c7)⟩
    have HST7 := Aside0.mk hst7
    clear hst7
    go_wp2_with fail
    go_roundw
    case rel => exact ⟨k + 1, _, _, fs ++ [x], by go_num, hk1, by rw [List.length_append, HFL.out]; rfl, fun y hy => by rcases List.mem_append.1 hy with h | h; exact HFO.out y h; rw [List.mem_singleton.1 h]; exact HOKX.out, by rw [HINV.out, HMK.out]; exact HX.out, HST7.out⟩
    case measure => simp [intOf]; omega
  ·obtain rfl : k = many := by omega
   have hlast : s1.bind (rSs k) = s.map fun r => (fs, r) := by
    rw [HINV.out, Nat.sub_self]
    cases s with
    | none => rfl
    | some r => simp [rSs]
   have hrq := HRQ.out fs s hlast
   obtain ⟨t1, ht1⟩ : ∃ t, zay s (rN 1125899906842624) = t := ⟨_, rfl⟩
   obtain ⟨t2, ht2⟩ : ∃ t, zay t1 (rN 4) = t := ⟨_, rfl⟩
   obtain ⟨t3, ht3⟩ : ∃ t, zay t2 (rN 4) = t := ⟨_, rfl⟩
   obtain ⟨t4, ht4⟩ : ∃ t, zay t3 (rN 6) = t := ⟨_, rfl⟩
   obtain ⟨n1, hn1⟩ : ∃ t, wasO 0 s (rN 1125899906842624) = t := ⟨_, rfl⟩
   obtain ⟨n2, hn2⟩ : ∃ t, wasO 0 t1 (rN 4) = t := ⟨_, rfl⟩
   obtain ⟨n3, hn3⟩ : ∃ t, wasO 0 t2 (rN 4) = t := ⟨_, rfl⟩
   obtain ⟨n4, hn4⟩ : ∃ t, wasO 0 t3 (rN 6) = t := ⟨_, rfl⟩
   rw [ht1, ht2, ht3, ht4, hn1, hn2, hn3, hn4] at hrq
   have HRQ2 := Aside0.mk hrq
   have hf4 : fs.length ≤ 4 := by omega
   have HT1 := Aside0.mk ht1
   have HN1 := Aside0.mk hn1
   have HT2 := Aside0.mk ht2
   have HN2 := Aside0.mk hn2
   have HT3 := Aside0.mk ht3
   have HN3 := Aside0.mk hn3
   have HT4 := Aside0.mk ht4
   have HN4 := Aside0.mk hn4
   clear hfl hlt hrq hlast ht1 hn1 ht2 hn2 ht3 hn3 ht4 hn4 y1 y2 y3 y4
   go_wp2_with fail
   go_at_call 25
   refine (za5 w B s 1125899906842624 _ HST.out.rd (Nat.le_refl _)).mono ?_
   rintro e u1 ⟨rfl, hrd, ho⟩
   rw [HT1.out] at hrd
   rw [HN1.out]
   have HSU1 := Aside0.mk (HST.out.only ho hrd hQB hZB)
   clear hrd ho
   go_wp2_with fail
   go_at_call 25
   refine (za5 w B t1 4 _ HSU1.out.rd (by decide)).mono ?_
   rintro e u2 ⟨rfl, hrd, ho⟩
   rw [HT2.out] at hrd
   rw [HN2.out]
   have HSU2 := Aside0.mk (HSU1.out.only ho hrd hQB hZB)
   clear hrd ho
   go_wp2_with fail
   go_at_call 25
   refine (za5 w B t2 4 _ HSU2.out.rd (by decide)).mono ?_
   rintro e u3 ⟨rfl, hrd, ho⟩
   rw [HT3.out] at hrd
   rw [HN3.out]
   have HSU3 := Aside0.mk (HSU2.out.only ho hrd hQB hZB)
   clear hrd ho
   go_wp2_with fail
   go_at_call 25
   refine (za5 w B t3 6 _ HSU3.out.rd (by decide)).mono ?_
   rintro e u4 ⟨rfl, hrd, ho⟩
   rw [HT4.out] at hrd
   rw [HN4.out]
   have HSU4 := Aside0.mk (HSU3.out.only ho hrd hQB hZB)
   clear hrd ho
   have hq4 := HSU4.out.q
   have hqa := zar hq4 1 (Value.int .i64 (n1 : Int)) rfl
   have hqb := zar hqa 2 (Value.int .i64 (n2 : Int)) rfl
   have hqc := zar hqb 3 (Value.int .i64 (n3 : Int)) rfl
   have hqd := zar hqc 4 (Value.int .i64 (n4 : Int)) rfl
   have hrr := (((HSU4.out.rd.set_far (j := 1) (Ne.symm hQB) hwQ (.int .i64 (n1 : Int))).set_far (j := 2) (Ne.symm hQB) hwQ (.int .i64 (n2 : Int))).set_far (j := 3) (Ne.symm hQB) hwQ (.int .i64 (n3 : Int))).set_far (j := 4) (Ne.symm hQB) hwQ (.int .i64 (n4 : Int))
   have hzz := zaG (zaG (zaG (zaG HSU4.out.z (p := ⟨Q, 1, none⟩) (Ne.symm hQZ) (.int .i64 (n1 : Int))) (p := ⟨Q, 2, none⟩) (Ne.symm hQZ) (.int .i64 (n2 : Int))) (p := ⟨Q, 3, none⟩) (Ne.symm hQZ) (.int .i64 (n3 : Int))) (p := ⟨Q, 4, none⟩) (Ne.symm hQZ) (.int .i64 (n4 : Int))
   have hw1 := Kd.R_set HSU4.out.row hq4 (by decide) 1 (.int .i64 (n1 : Int))
   have hw2 := Kd.R_set hw1 hqa (by decide) 2 (.int .i64 (n2 : Int))
   have hw3 := Kd.R_set hw2 hqb (by decide) 3 (.int .i64 (n3 : Int))
   have hw4 := Kd.R_set hw3 hqc (by decide) 4 (.int .i64 (n4 : Int))
   obtain ⟨y1, y2, y3, y4⟩ := know hq4
   clear hqa hqb hqc hw1 hw2 hw3 hq4
   go_upto_region 9 with fail
   generalize World.setCell (World.setCell (World.setCell (World.setCell _ _ _) _ _) _ _) _ _ = Wq at hqd hrr hzz hw4 ⊢
   have HQD := Aside0.mk hqd
   have HRR := Aside0.mk hrr
   have HZZ := Aside0.mk hzz
   have HW4 := Aside0.mk hw4
   obtain ⟨x1, x2, x3, x4⟩ := know hqd
   obtain ⟨⟨Ar, cr, lr, bad, g1, g2, _, _, g5, g6⟩, g7, _⟩ := hrr
   obtain ⟨k1, k2, k3, k4⟩ := know g1
   have HG1 := Aside0.mk g1
   have hzk := hzz
   obtain ⟨p1, p2, p3, p4⟩ := know hzk
   clear hqd hzz hw4 hzk g1 g2 g7 y1 y2 y3 y4
   cases bad with
   | true =>
    rw [if_pos rfl] at g6
    have hnone := HRQ2.out
    rw [g6] at hnone
    have hgb := getQ_bad hnone
    rw [HQ.out] at hgb
    simp only [Prod.mk.injEq] at hgb
    obtain ⟨rfl, rfl, rfl⟩ := hgb
    clear hnone g6
    go_wp2_with fail
    have hfin := put5 HRR.out.below HZZ.out (Kd.R_nil _ _ _ _ _) (Nat.le_refl _) (.slice none 0 0) (.int .i64 0) (.int .i64 0) (.int .i64 0) (.int .i64 0)
    generalize World.setCell (World.setCell (World.setCell (World.setCell (World.setCell _ _ _) _ _) _ _) _ _) _ _ = Wf at hfin ⊢
    obtain ⟨hbf, hkf, hrf⟩ := hfin
    obtain ⟨f1, f2, f3, f4⟩ := know hkf
    clear hkf
    refine bodyPost_ret (v := .tuple #[.agg #[.slice none 0 0, .int .i64 0, .int .i64 0, .int .i64 0, .int .i64 0], .int .i64 0, .bool false]) (by simp [results, Try.results12, go_sem, f1]) rfl ?_
    exact ⟨_, rfl, Kd.R_nil _ _ _ _ _, (fun _ h => by cases h), hbf⟩
   | false =>
    rw [if_neg (by decide)] at g6
    have hsome := HRQ2.out
    rw [g6] at hsome
    have HSOME := Aside0.mk hsome
    have hok : okQ ⟨fs, (n1 : Int), (n2 : Int), (n3 : Int), (n4 : Int)⟩ := HFO.out
    have HOK := Aside0.mk hok
    obtain ⟨bm, hbm⟩ : ∃ b, mayQ ⟨fs, (n1 : Int), (n2 : Int), (n3 : Int), (n4 : Int)⟩ = b := ⟨_, rfl⟩
    have HBM := Aside0.mk hbm
    obtain ⟨A5, c5, e5, hc5, hr5⟩ := Kd.R_reads HW4.out
    obtain ⟨rfl, rfl⟩ : A0 = A5 ∧ c0 = c5 := by cases e5; exact ⟨rfl, rfl⟩
    have HR5 := Aside0.mk hr5
    have HC5 := Aside0.mk hc5
    clear hsome hok hbm hc5 hr5 e5 g6
    go_wp2_with fail
    go_at_call 21
    refine (mayQ_told ⟨fs, (n1 : Int), (n2 : Int), (n3 : Int), (n4 : Int)⟩ A0 c0 _ HR5.out HC5.out HOK.out (by show fs.length < 4611686018427387904; omega) HBM.out).mono ?_
    rintro e u9 ⟨rfl, hb9⟩
    have HQ9 := Aside0.mk (zak HQD.out hb9)
    have HZ9 := Aside0.mk (zak HZZ.out hb9)
    have HW9 := Aside0.mk (Kd.R_below HW4.out hb9)
    have HK9 := Aside0.mk (zak HG1.out hb9)
    have HB9 := Aside0.mk (zah HRR.out.below hb9)
    obtain ⟨r1, r2, r3, r4⟩ := know HQ9.out
    obtain ⟨v1, v2, v3, v4⟩ := know HZ9.out
    obtain ⟨w1, w2, w3, w4⟩ := know HK9.out
    clear x1 x2 x3 x4 k1 k2 k3 k4 p1 p2 p3 p4 hb9
    cases bm with
    | false =>
     have hgb := getQ_not HSOME.out HBM.out
     rw [HQ.out] at hgb
     simp only [Prod.mk.injEq] at hgb
     obtain ⟨rfl, rfl, rfl⟩ := hgb
     go_wp2_with fail
     have hfin := put5 HB9.out HZ9.out (Kd.R_nil _ _ _ _ _) (Nat.le_refl _) (.slice none 0 0) (.int .i64 0) (.int .i64 0) (.int .i64 0) (.int .i64 0)
     generalize World.setCell (World.setCell (World.setCell (World.setCell (World.setCell _ _ _) _ _) _ _) _ _) _ _ = Wf at hfin ⊢
     obtain ⟨hbf, hkf, hrf⟩ := hfin
     obtain ⟨f1, f2, f3, f4⟩ := know hkf
     clear hkf
     refine bodyPost_ret (v := .tuple #[.agg #[.slice none 0 0, .int .i64 0, .int .i64 0, .int .i64 0, .int .i64 0], .int .i64 0, .bool false]) (by simp [results, Try.results12, go_sem, f1]) rfl ?_
     exact ⟨_, rfl, Kd.R_nil _ _ _ _ _, (fun _ h => by cases h), hbf⟩
    | true =>
     have hgb := getQ_yes HSOME.out HBM.out
     rw [HQ.out] at hgb
     simp only [Prod.mk.injEq] at hgb
     obtain ⟨rfl, rfl, rfl⟩ := hgb
     have htk := rQ_take HBY.out HSOME.out
     have hll : lr.length ≤ l.length := by rw [htk.1, List.length_append]; omega
     have hwl : IntKind.i64.wrap ((l.length : Int) - (lr.length : Int)) = ((l.length - lr.length : Nat) : Int) := by rw [IntWalk.i64_in _ (by omega)]; omega
     obtain ⟨nn, hnn⟩ : ∃ nn, l.length - lr.length = nn := ⟨_, rfl⟩
     have HNN := Aside0.mk hnn
     rw [hnn] at hwl
     have hfin := put5 (zaM HB9.out) (zal HZ9.out) (Kd.R_drew HW9.out) (Nat.le_refl _) (.slice A0 fs.length c0) (.int .i64 (n1 : Int)) (.int .i64 (n2 : Int)) (.int .i64 (n3 : Int)) (.int .i64 (n4 : Int))
     have HFIN := Aside0.mk hfin
     clear hfin htk hll hnn
     go_upto_region 11 with fail
     go_cut [3, 4] (fun v3 v4 wx => v3 = .int .i64 (nn : Int) ∧ v4 = .bool true ∧ Below w.heap.size w wx ∧ wx.heap[w.heap.size]? = some (.cells #[.slice A0 fs.length c0, .int .i64 (n1 : Int), .int .i64 (n2 : Int), .int .i64 (n3 : Int), .int .i64 (n4 : Int)] 24 (0, 0)) ∧ Kd.R kStep 40 wx w.heap.size (fun _ => True) (.slice A0 fs.length c0) fs)
     case first =>
      go_region_law (fail)
      all_goals
       go_wp2_with fail
       go_meet
       exact ⟨rfl, rfl, HFIN.out⟩
     case rest =>
      obtain ⟨rfl, rfl, hbf, hkf, hrf⟩ := hcut
      obtain ⟨f1, f2, f3, f4⟩ := know hkf
      have HBF := Aside0.mk hbf
      have HRF := Aside0.mk hrf
      clear hkf hbf hrf HFIN
      go_wp2
      refine bodyPost_ret (v := .tuple #[.agg #[.slice A0 fs.length c0, .int .i64 (n1 : Int), .int .i64 (n2 : Int), .int .i64 (n3 : Int), .int .i64 (n4 : Int)], .int .i64 (nn : Int), .bool true]) (by simp [results, Try.results12, go_sem, f1]) rfl ?_
      exact ⟨.slice A0 fs.length c0, by rw [HNN.out], HRF.out, HOK.out, HBF.out⟩
def slices_EqualFunc_api_Step.rel (p : SStep → SStep → Bool) (l0 l1 : List SStep) (w : World) (k : Nat) (w' : World) : Prop := k ≤ l0.length ∧ (∀ i, i < k → p (l0.getD i zStep) (l1.getD i zStep) = true) ∧ Below w.heap.size w w'
set_option maxHeartbeats 1000000 in
theorem slices_EqualFunc_api_Step.told (g : Nat) (caps : Array Value) (p : SStep → SStep → Bool) (A0 : Option Addr) (cp0 : Nat) (l0 : List SStep) (A1 : Option Addr) (cp1 : Nat) (l1 : List SStep) (w : World) (eg : ∀ args w, (callFunc g args).run Try.prog w = .ok (.enter g args) w) (hp : Tells2 Try.prog kStep g caps p w) (hr0 : Kd.C kStep w A0 l0.length l0) (hc0 : l0.length ≤ cp0) (hr1 : Kd.C kStep w A1 l1.length l1) (hc1 : l1.length ≤ cp1) :
  Calls Try.prog 27 #[.slice A0 l0.length cp0, .slice A1 l1.length cp1, .func (.func g) #[] caps] w (zaS (eqf p zStep l0 l1) w) := by
 have HR0 := Aside0.mk hr0
 have HC0 := Aside0.mk hc0
 have HR1 := Aside0.mk hr1
 have HC1 := Aside0.mk hc1
 have HP := Aside0.mk hp
 have hm := hr0.2.1
 clear hr0 hc0 hr1 hc1 hp
 by_cases hlen : l0.length = l1.length
 ·have HLEN := Aside0.mk hlen
  go_enter Try.func27, Try.ntmps27
  go_wp2
  go_loopw [7, 8, 9, 17] (fun _ _ _ v17 w' => ∃ k : Nat, v17 = .int .i64 k ∧ slices_EqualFunc_api_Step.rel p l0 l1 w k w') (fun _ _ _ i _ => l0.length - (intOf i).toNat)
  case atStart => exact ⟨0, rfl, Nat.zero_le _, fun i hi => by omega, Below.refl _ _⟩
  case round =>
   obtain ⟨k, rfl, HK⟩ := hrel
   have HK := Aside0.mk HK
   clear hlen
   by_cases hlt : k < l0.length
   ·have hlt2 : k < l1.length := by have := HLEN.out; omega
    obtain ⟨ad, cs, e, hl, hK, hcell⟩ := Kd.C_get (Kd.C_below HR0.out HK.out.2.2) zStep (k : Int) (by omega) (by omega)
    cases e
    obtain ⟨ad2, ds, e, hl2, hK2, hcell2⟩ := Kd.C_get (Kd.C_below HR1.out HK.out.2.2) zStep (k : Int) (by omega) (by omega)
    cases e
    simp only [Int.toNat_natCast] at hK hcell hK2 hcell2
    obtain ⟨x, HX⟩ : ∃ x, Aside0 (l0.getD k zStep = x) := ⟨_, ⟨rfl⟩⟩
    obtain ⟨y, HY⟩ : ∃ y, Aside0 (l1.getD k zStep = y) := ⟨_, ⟨rfl⟩⟩
    rw [HX.out] at hK
    rw [HY.out] at hK2
    have hK0 := hK
    have hK20 := hK2
    obtain ⟨A1p, c1p, A6p, c6p, rfl, _⟩ := kStep_open hK0
    have hp0 := hcell 0 _ rfl
    (try simp only [show kStep.sz = 7 from rfl, Nat.mul_one, Nat.add_zero] at hp0)
    have hp0z := fun (o : Obj) => zav o hp0
    have hp1 := hcell 1 _ rfl
    (try simp only [show kStep.sz = 7 from rfl, Nat.mul_one, Nat.add_zero] at hp1)
    rw [zax _ _ 1 (by omega)] at hp1
    have hp1z := fun (o : Obj) => zav o hp1
    have hp2 := hcell 2 _ rfl
    (try simp only [show kStep.sz = 7 from rfl, Nat.mul_one, Nat.add_zero] at hp2)
    rw [zax _ _ 2 (by omega)] at hp2
    have hp2z := fun (o : Obj) => zav o hp2
    have hp3 := hcell 3 _ rfl
    (try simp only [show kStep.sz = 7 from rfl, Nat.mul_one, Nat.add_zero] at hp3)
    rw [zax _ _ 3 (by omega)] at hp3
    have hp3z := fun (o : Obj) => zav o hp3
    have hp4 := hcell 4 _ rfl
    (try simp only [show kStep.sz = 7 from rfl, Nat.mul_one, Nat.add_zero] at hp4)
    rw [zax _ _ 4 (by omega)] at hp4
    have hp4z := fun (o : Obj) => zav o hp4
    have hp5 := hcell 5 _ rfl
    (try simp only [show kStep.sz = 7 from rfl, Nat.mul_one, Nat.add_zero] at hp5)
    rw [zax _ _ 5 (by omega)] at hp5
    have hp5z := fun (o : Obj) => zav o hp5
    have hp6 := hcell 6 _ rfl
    (try simp only [show kStep.sz = 7 from rfl, Nat.mul_one, Nat.add_zero] at hp6)
    rw [zax _ _ 6 (by omega)] at hp6
    have hp6z := fun (o : Obj) => zav o hp6
    obtain ⟨A1q, c1q, A6q, c6q, rfl, _⟩ := kStep_open hK20
    have hq0 := hcell2 0 _ rfl
    (try simp only [show kStep.sz = 7 from rfl, Nat.mul_one, Nat.add_zero] at hq0)
    have hq0z := fun (o : Obj) => zav o hq0
    have hq1 := hcell2 1 _ rfl
    (try simp only [show kStep.sz = 7 from rfl, Nat.mul_one, Nat.add_zero] at hq1)
    rw [zax _ _ 1 (by omega)] at hq1
    have hq1z := fun (o : Obj) => zav o hq1
    have hq2 := hcell2 2 _ rfl
    (try simp only [show kStep.sz = 7 from rfl, Nat.mul_one, Nat.add_zero] at hq2)
    rw [zax _ _ 2 (by omega)] at hq2
    have hq2z := fun (o : Obj) => zav o hq2
    have hq3 := hcell2 3 _ rfl
    (try simp only [show kStep.sz = 7 from rfl, Nat.mul_one, Nat.add_zero] at hq3)
    rw [zax _ _ 3 (by omega)] at hq3
    have hq3z := fun (o : Obj) => zav o hq3
    have hq4 := hcell2 4 _ rfl
    (try simp only [show kStep.sz = 7 from rfl, Nat.mul_one, Nat.add_zero] at hq4)
    rw [zax _ _ 4 (by omega)] at hq4
    have hq4z := fun (o : Obj) => zav o hq4
    have hq5 := hcell2 5 _ rfl
    (try simp only [show kStep.sz = 7 from rfl, Nat.mul_one, Nat.add_zero] at hq5)
    rw [zax _ _ 5 (by omega)] at hq5
    have hq5z := fun (o : Obj) => zav o hq5
    have hq6 := hcell2 6 _ rfl
    (try simp only [show kStep.sz = 7 from rfl, Nat.mul_one, Nat.add_zero] at hq6)
    rw [zax _ _ 6 (by omega)] at hq6
    have hq6z := fun (o : Obj) => zav o hq6
    have hcall := Aside0.mk (fun (W : World) (hW : Below wr.heap.size wr W) => HP.out x y _ _ W (zah HK.out.2.2 hW) (kStep.K_below hW hK) (kStep.K_below hW hK2))
    clear hcell hK hl hcell2 hK2 hl2 hK0 hK20
    cases hp : p x y with
    | true =>
     rw [hp] at hcall
     have HQ := Aside0.mk hp; clear hp
     go_wp2_with (go_at_fn g; refine (hcall.out _ (zab (zab (Below.refl _ _) _) _)).mono ?_; rintro e w1 ⟨rfl, hb1⟩)
     have hb2 := zah HK.out.2.2 (zah (zab (zab (Below.refl _ _) _) _) hb1)
     go_roundw
     case rel => exact ⟨k + 1, by go_num, by omega, all_next HK.out.2.1 (by rw [HX.out, HY.out]; exact HQ.out), hb2⟩
     case measure => simp [intOf]; omega
    | false =>
     rw [hp] at hcall
     have HQ := Aside0.mk hp; clear hp
     go_wp2_with (go_at_fn g; refine (hcall.out _ (zab (zab (Below.refl _ _) _) _)).mono ?_; rintro e w1 ⟨rfl, hb1⟩)
     go_ret
     exact ⟨by rw [eqf_hit k hlt (by rw [HX.out, HY.out]; exact HQ.out)]; rfl, zah HK.out.2.2 (zah (zab (zab (Below.refl _ _) _) _) hb1)⟩
   ·have hlt2 : ¬ k < l1.length := by have := HLEN.out; omega
    go_wp2
    go_ret
    exact ⟨by rw [eqf_all HLEN.out (fun i hi => HK.out.2.1 i (by omega))]; rfl, HK.out.2.2⟩
 ·have HE := Aside0.mk (eqf_len (p := p) (z := zStep) hlen)
  go_enter Try.func27, Try.ntmps27
  go_wp2
  go_ret
  exact ⟨by rw [HE.out]; rfl, Below.refl _ _⟩
theorem alike_told (w : World) : Tells2 Try.prog kStep 28 #[] eqSt w := by
 intro x y cs ds W _ hx hy
 obtain ⟨A1, c1, A6, c6, rfl, hl1, hi1, hl6, hi6⟩ := kStep_open hx
 obtain ⟨B1, d1, B6, d6, rfl, hm1, hj1, hm6, hj6⟩ := kStep_open hy
 refine (query_alike.calls (max x.f1.length x.f6.length + 1) x.f0 A1 c1 x.f1 x.f2 x.f3 x.f4 x.f5 A6 c6 x.f6 y.f0 B1 d1 y.f1 y.f2 y.f3 y.f4 y.f5 B6 d6 y.f6 (eqSt x y) W hi1 hl1 hi6 hl6 hj1 hm1 hj6 hm6 ?_).mono fun e w' ⟨h1, h2⟩ => ⟨h1, by first | exact h2 | exact h2.below⟩
 exact alike_is x y (by omega) (by omega) hi1.2.1 hi6.2.1
set_option maxHeartbeats 1000000 in
set_option maxRecDepth 100000 in
theorem sameQ_told (p q : SQuery) (A0 : Option Addr) (c0 : Nat) (A1 : Option Addr) (c1 : Nat) (w : World) (hr0 : Kd.C kStep w A0 p.f0.length p.f0) (hc0 : p.f0.length ≤ c0) (hr1 : Kd.C kStep w A1 q.f0.length q.f0) (hc1 : q.f0.length ≤ c1) {b : Bool} (hb : eqQ p q = b) :
  Calls Try.prog 13 #[.agg #[.slice A0 p.f0.length c0, .int .i64 p.f1, .int .i64 p.f2, .int .i64 p.f3, .int .i64 p.f4], .agg #[.slice A1 q.f0.length c1, .int .i64 q.f1, .int .i64 q.f2, .int .i64 q.f3, .int .i64 q.f4]] w (zaS b w) := by
 have HB0 := Aside0.mk (zab (zab (Below.refl w.heap.size w) (.cells #[.slice A0 p.f0.length c0, .int .i64 p.f1, .int .i64 p.f2, .int .i64 p.f3, .int .i64 p.f4] 24)) (.cells #[.slice A1 q.f0.length c1, .int .i64 q.f1, .int .i64 q.f2, .int .i64 q.f3, .int .i64 q.f4] 24))
 have HCE := Aside0.mk (slices_EqualFunc_api_Step.told 28 #[] eqSt A0 c0 p.f0 A1 c1 q.f0 _ (enters_of Try.func28 (by kernel_rfl) rfl) (alike_told _) (Kd.C_below hr0 HB0.out) hc0 (Kd.C_below hr1 HB0.out) hc1)
 unfold eqQ at hb
 obtain ⟨e, he⟩ : ∃ e, eqf eqSt zStep p.f0 q.f0 = e := ⟨_, rfl⟩
 rw [he] at hb HCE
 clear hr0 hr1 he
 cases h2 : (p.f2 == q.f2) <;> cases h3 : (p.f3 == q.f3) <;> cases h4 : (p.f4 == q.f4) <;> cases h1 : (p.f1 == q.f1)
 all_goals
  rw [h2, h3, h4, h1] at hb
  simp only [Bool.false_and, Bool.true_and] at hb
  subst hb
 all_goals first
  | (go_enter Try.func13, Try.ntmps13; go_wp2_with (go_at_call 27; refine HCE.out.mono ?_; rintro e w1 ⟨rfl, hb1⟩); go_ret; first | exact ⟨rfl, HB0.out⟩ | exact ⟨rfl, zah HB0.out hb1⟩)
set_option maxHeartbeats 400000 in
theorem slices_IndexFunc_api_Schema.toldw (g : Nat) (caps : Array Value) (p : SSchema → Bool) (wf : SSchema → Prop) (A0 : Option Addr) (cp : Nat) (l0 : List SSchema) (w : World) (eg : ∀ args w, (callFunc g args).run Try.prog w = .ok (.enter g args) w) (hp : TellsW Try.prog kSchema g caps p wf w) (hwf : ∀ x ∈ l0, wf x) (hr0 : Kd.C kSchema w A0 l0.length l0) (hc0 : l0.length ≤ cp) :
  Calls Try.prog 53 #[.slice A0 l0.length cp, .func (.func g) #[] caps] w (idxPost p l0 w) := by
 have HR0 := Aside0.mk hr0
 have HC0 := Aside0.mk hc0
 have HP := Aside0.mk hp
 have HWF := Aside0.mk hwf
 have hm := hr0.2.1
 clear hr0 hc0 hp hwf
 go_enter Try.func53, Try.ntmps53
 go_wp2
 go_loopw [4, 5, 8] (fun v4 v5 v8 w' => ∃ k : Nat, v8 = .int .i64 k ∧ idxRel p l0 zSchema w k w') (fun _ _ i _ => l0.length - (intOf i).toNat)
 case atStart => exact ⟨0, rfl, Nat.zero_le _, fun i hi => by omega, Below.refl _ _⟩
 case round =>
  obtain ⟨k, rfl, HK⟩ := hrel
  have HK := Aside0.mk HK
  by_cases hlt : k < l0.length
  ·obtain ⟨ad, cs, e, hl, hK, hcell⟩ := Kd.C_get (Kd.C_below HR0.out HK.out.2.2) zSchema (k : Int) (by omega) (by omega)
   cases e
   simp only [Int.toNat_natCast] at hK hcell
   obtain ⟨c0, c1, c2, rfl⟩ := cells3 cs hl
   have hx0 : wr.cell? (ad.add (k * 3)) = some c0 := hcell 0 _ rfl
   have hx1 : wr.cell? ⟨(ad.add (k * 3)).block, (ad.add (k * 3)).off + 1, none⟩ = some c1 := by rw [← zax _ _ 1 (by omega)]; exact hcell 1 _ rfl
   have hx2 : wr.cell? ⟨(ad.add (k * 3)).block, (ad.add (k * 3)).off + 2, none⟩ = some c2 := by rw [← zax _ _ 2 (by omega)]; exact hcell 2 _ rfl
   have hcall := HP.out (l0.getD k zSchema) _ wr (HWF.out _ (getD_in _ hlt)) HK.out.2.2 hK
   clear hcell hK hl
   cases hp : p (l0.getD k zSchema) with
   | true =>
    rw [hp] at hcall
    have HQ := Aside0.mk hp; clear hp
    go_wp2_with (go_at_fn g; refine hcall.mono ?_; rintro e w1 ⟨rfl, hb1⟩)
    go_ret
    exact ⟨by rw [idx_skip p zSchema l0 k HK.out.2.1 hlt HQ.out]; rfl, zah HK.out.2.2 hb1⟩
   | false =>
    rw [hp] at hcall
    have HQ := Aside0.mk hp; clear hp
    go_wp2_with (go_at_fn g; refine hcall.mono ?_; rintro e w1 ⟨rfl, hb1⟩)
    go_roundw
    case rel => exact ⟨k + 1, by go_num, by omega, fun i hi => by rcases Nat.lt_succ_iff_lt_or_eq.1 hi with h | rfl; exact HK.out.2.1 i h; exact HQ.out, zah HK.out.2.2 hb1⟩
    case measure => simp [intOf]; omega
  ·go_wp2
   go_ret
   exact ⟨by rw [idx_none p zSchema l0 (fun i hi => HK.out.2.1 i (by omega))]; rfl, HK.out.2.2⟩
theorem slices_IndexFunc_api_Schema.told (g : Nat) (caps : Array Value) (p : SSchema → Bool) (A0 : Option Addr) (cp : Nat) (l0 : List SSchema) (w : World) (eg : ∀ args w, (callFunc g args).run Try.prog w = .ok (.enter g args) w) (hp : Tells Try.prog kSchema g caps p w) (hr0 : Kd.C kSchema w A0 l0.length l0) (hc0 : l0.length ≤ cp) :
  Calls Try.prog 53 #[.slice A0 l0.length cp, .func (.func g) #[] caps] w (idxPost p l0 w) :=
 slices_IndexFunc_api_Schema.toldw g caps p (fun _ => True) A0 cp l0 w eg (fun x cs W _ => hp x cs W) (fun _ _ => trivial) hr0 hc0
theorem at1_told (nm : ByteArray) (B : Nat) (w : World) (hB : B < w.heap.size) (hc : w.cell? ⟨B, 0, none⟩ = some (.string nm)) :
  Tells Try.prog kSchema 54 #[.pointer (some ⟨B, 0, none⟩)] (fun x : SSchema => x.f0.toList == nm.toList) w := by
 intro x cs W hW hK
 obtain ⟨A2, c2, rfl, _, _⟩ := kSchema_open hK
 have hc2 : W.cell? ⟨B, 0, none⟩ = some (.string nm) := (hW.cell (p := ⟨B, 0, none⟩) hB).trans hc
 have hB2 : B < W.heap.size := Nat.lt_of_lt_of_le hB hW.size
 clear hc hW hK hB
 show Calls _ _ #[.agg #[.string x.f0, .int .i64 x.f1, .slice A2 x.f2.length c2], .pointer (some ⟨B, 0, none⟩)] W (zaS (x.f0.toList == nm.toList) W)
 go_enter Try.func54, Try.ntmps54
 go_wp2
 go_ret
 exact ⟨rfl, (Below.refl _ _).alloc (Nat.le_refl _) _⟩
def registry_at.f (l0 : List SSchema) (a1 : ByteArray) : Option Int := some (idx (fun x : SSchema => x.f0.toList == a1.toList) l0)
set_option maxHeartbeats 1000000 in
theorem registry_at.calls (A0 : Option Addr) (c0 : Nat) (l0 : List SSchema) (a1 : ByteArray) (r : Int) (w : World) (hr0 : Kd.C kSchema w A0 l0.length l0) (hc0 : l0.length ≤ c0) (h : registry_at.f l0 a1 = some r) :
  Calls Try.prog 34 #[.slice A0 l0.length c0, .string a1] w fun e w' => e = .returned (.int .i64 r) ∧ Below w.heap.size w w' := by
 obtain rfl := Option.some.inj h
 clear h
 have hb0 : Below w.heap.size w (w.alloc (.cells #[.string a1] 9)) := (Below.refl _ _).alloc (Nat.le_refl _) _
 have HC1 := Aside0.mk (slices_IndexFunc_api_Schema.told 54 #[.pointer (some ⟨w.heap.size, 0, none⟩)] (fun x : SSchema => x.f0.toList == a1.toList) A0 c0 l0 (w.alloc (.cells #[.string a1] 9)) (enters_of Try.func54 (by kernel_rfl) rfl) (at1_told a1 w.heap.size _ (by simp) ((zac (zat _ _) 0).trans rfl)) (Kd.C_below hr0 hb0) hc0)
 clear hr0 hc0
 go_enter Try.func34, Try.ntmps34
 go_wp2_with (go_at_call 53; refine HC1.out.mono ?_; rintro e w1 ⟨rfl, hb1⟩)
 go_ret
 exact ⟨rfl, zah hb0 hb1⟩
def registry_May.l0 : Nat → List (SSchema) → List (SSchema) → Int → Int → Option (Bool)
 | 0, _, _, _, _ => none
 | k + 1, x0, x5, x6, x7 => if x7 < x6 then (if 0 ≤ x7 then (if x7 < (x5.length : Int) then ((schema_May.f ((zaq x5 x7).f0) ((zaq x5 x7).f1) ((zaq x5 x7).f2)).bind fun t133 => (if t133 = true then ((registry_at.f x0 ((zaq x5 x7).f0)).bind fun t134 => (if t134 = x7 then (registry_May.l0 k x0 x5 x6 (wrap64 (x7 + 1))) else (some false))) else (some false))) else (none)) else (none)) else (some (decide ((x0.length : Int) ≤ 8)))
def registry_May.f (k : Nat) (l0 : List (SSchema)) : Option (Bool) := registry_May.l0 k l0 l0 (l0.length : Int) 0
set_option maxHeartbeats 8000000 in
set_option maxRecDepth 100000 in
theorem registry_May.calls (k : Nat) (A0 : Option Addr) (c0 : Nat) (l0 : List (SSchema)) (r : Bool) (w : World) (hr0 : Kd.C kSchema w A0 l0.length l0) (hc0 : l0.length ≤ c0) (h : registry_May.f k l0 = some r) :
  Calls Try.prog 29 #[.slice A0 l0.length c0] w fun e w' => e = .returned (.bool r) ∧ Below w.heap.size w w' := by
 have hu43 := Try.underlying43
 have HR0 := Aside0.mk hr0
 have HC0 := Aside0.mk hc0
 clear hr0 hc0
 have HB := Aside0.mk (Below.refl w.heap.size w)
 have H : (registry_May.l0 k l0 l0 (l0.length : Int) 0) = some r := h
 clear h
 have H' := Aside0.mk H
 clear H
 go_enter Try.func29, Try.ntmps29
 go_wp2
 go_loopg [7] k (fun kq v7 w' => ∃ (x7_1 : Int), v7 = .int .i64 x7_1 ∧ Aside0 (registry_May.l0 kq l0 l0 (l0.length : Int) x7_1 = some r) ∧ Aside0 (kq ≤ k) ∧ Aside0 (Below w.heap.size w w'))
 case atStart => exact ⟨(0), (by first | rfl | (simp; done) | (simp [*]; done)), H', ⟨Nat.le_refl _⟩, ⟨by repeat (first | (with_reducible first | exact HB.out | apply zab | apply zad | apply zae) | exact HB.out)⟩⟩
 case round =>
  clear H'
  obtain ⟨x7_1, rfl, HA, HK1, HB⟩ := hrel
  cases gk with
  | zero => exact absurd HA.out (by simp [registry_May.l0])
  | succ k1 =>
   have H := HA.out
   clear HA
   simp only [registry_May.l0] at H
   by_cases c2 : x7_1 < (l0.length : Int)
   ·rw [if_pos c2] at H
    have c2b0 : decide (x7_1 < (l0.length : Int)) = true := decide_eq_true c2
    clear c2
    by_cases c3 : 0 ≤ x7_1
    ·rw [if_pos c3] at H
     have c3b0 : decide (0 ≤ x7_1) = true := decide_eq_true c3
     clear c3
     by_cases c4 : x7_1 < (l0.length : Int)
     ·rw [if_pos c4] at H
      have c4b0 : decide (x7_1 < (l0.length : Int)) = true := decide_eq_true c4
      clear c4
      replace H := Option.bind_eq_some_iff.mp H
      obtain ⟨t133, A50, H⟩ := H
      replace H : (if t133 = true then ((registry_at.f l0 ((zaq l0 x7_1).f0)).bind fun t134 => (if t134 = x7_1 then (registry_May.l0 k1 l0 l0 (l0.length : Int) (wrap64 (x7_1 + 1))) else (some false))) else (some false)) = some r := H
      have A5 := Aside0.mk A50
      clear A50
      by_cases c6 : t133 = true
      ·subst c6
       have H1 : ((registry_at.f l0 ((zaq l0 x7_1).f0)).bind fun t134 => (if t134 = x7_1 then (registry_May.l0 k1 l0 l0 (l0.length : Int) (wrap64 (x7_1 + 1))) else (some false))) = some r := by rw [if_pos rfl] at H; exact H
       clear H
       have H := H1
       clear H1
       replace H := Option.bind_eq_some_iff.mp H
       obtain ⟨t134, A70, H⟩ := H
       replace H : (if t134 = x7_1 then (registry_May.l0 k1 l0 l0 (l0.length : Int) (wrap64 (x7_1 + 1))) else (some false)) = some r := H
       have A7 := Aside0.mk A70
       clear A70
       by_cases c8 : t134 = x7_1
       ·rw [if_pos c8] at H
        have c8b0 : (t134 == x7_1) = true := beq_iff_eq.mpr c8
        have c8b1 : (t134 != x7_1) = false := bne_eq_false_iff_eq.mpr c8
        clear c8
        have H' := Aside0.mk H
        clear H
        have p131 : 0 ≤ (x7_1 : Int) := of_decide_eq_true (by first | (with_reducible assumption) | assumption)
        have q131 : x7_1 < (l0.length : Int) := of_decide_eq_true (by first | (with_reducible assumption) | assumption)
        obtain ⟨ad131, A131_2, c131_2, e131, hx131_0, hx131_1, hx131_2, hl131_2, hi131_2⟩ := at_TSchema HR0.out x7_1 p131 q131
        cases e131
        replace hx131_0 := (HB.out.cell (World.block_lt_of_cell? w _ hx131_0)).trans hx131_0
        replace hx131_1 := (HB.out.cell (World.block_lt_of_cell? w _ hx131_1)).trans hx131_1
        replace hx131_2 := (HB.out.cell (World.block_lt_of_cell? w _ hx131_2)).trans hx131_2
        have HR131_2 := Aside0.mk hi131_2
        have HC131_2 := Aside0.mk hl131_2
        clear hi131_2 hl131_2
        replace p131 := eq_true p131
        replace q131 := eq_true q131
        go_wp2_with (first | ((with_reducible refine zaw (N := 4) rfl ?_); refine zas ?hg (N := 4) ?hd (cs := #[.string (⟨#[]⟩ : ByteArray), .int .i64 0, .slice none 0 0]) (t := 43) ?hr ?_; (case hd => rfl); (case hg => rfl); (case hr => first | (go_simp; done) | (go_simp; rfl)); intro gb132 hg w9 hbox hb; have n0_ := Aside0.mk (zah (by repeat (first | (with_reducible first | exact HB.out | apply zab | apply zad | apply zae) | exact HB.out)) hb); have n1_ := Aside0.mk (hbox); have n2_ := Aside0.mk ((by rw [hg]; exact (zao (by repeat (first | (with_reducible first | exact HB.out | apply zab | apply zad | apply zae) | exact HB.out))) : w.heap.size ≤ gb132)); have n3_ := Aside0.mk ((by rw [hg]; exact (zao (by repeat (first | (with_reducible first | exact HB.out | apply zab | apply zad | apply zae) | exact HB.out))) : w.heap.size ≤ gb132)); clear HB; have HB := n0_; have BK132 := n1_; have GW132 := n2_; have GE132 := n3_; clear n0_ n1_ n2_ n3_; clear hb hbox hg; have hcz10_0 : w9.cell? ⟨gb132, 0, none⟩ = some (.string (⟨#[]⟩ : ByteArray)) := (zac BK132.out 0).trans rfl; have hcz10_1 : w9.cell? ⟨gb132, 1, none⟩ = some (.int .i64 0) := (zac BK132.out 1).trans rfl; have hcz10_2 : w9.cell? ⟨gb132, 2, none⟩ = some (.slice none 0 0) := (zac BK132.out 2).trans rfl; have hfz10_0 := zaa BK132.out 0; have hfz10_1 := zaa BK132.out 1; have hfz10_2 := zaa BK132.out 2) | ((with_reducible refine zap (f := 33) rfl ?_); refine zau (some 13) rfl rfl Try.func33 (by kernel_rfl) rfl #[.agg #[.string ((zaq l0 x7_1).f0), .int .i64 ((zaq l0 x7_1).f1), .slice A131_2 ((zaq l0 x7_1).f2).length c131_2]] rfl (by (try simp only [List.map_toArray, List.map_cons, List.map_nil]); first | done | rfl | (simp only [List.length_drop, List.length_take]; rfl)) ?_; (with_reducible refine (schema_May.calls ((zaq l0 x7_1).f0) ((zaq l0 x7_1).f1) _ _ ((zaq l0 x7_1).f2) true _ ?side1 ?side2 A5.out).mono ?_); (case side1 => exact Kd.C_below HR131_2.out (by repeat (first | (with_reducible first | exact HB.out | apply zab | apply zad | apply zae | refine zaf ?_ GE132.out) | exact HB.out))); (case side2 => exact HC131_2.out); rintro e w11 ⟨rfl, hb⟩; refine ⟨_, rfl, ?_⟩; have n0_ := Aside0.mk (zak (g := gb132) (o := .cells #[.string ((zaq l0 x7_1).f0), .int .i64 ((zaq l0 x7_1).f1), .slice A131_2 ((zaq l0 x7_1).f2).length c131_2] 43 (0, 0)) (by (with_reducible repeat (first | refine zai ?_ _ | refine zal ?_ | refine zag ?_ _)); refine zar (cs := #[.string ((zaq l0 x7_1).f0), .int .i64 ((zaq l0 x7_1).f1), .slice none 0 0]) ?_ 2 _ rfl; (with_reducible repeat (first | refine zai ?_ _ | refine zal ?_ | refine zag ?_ _)); refine zar (cs := #[.string ((zaq l0 x7_1).f0), .int .i64 0, .slice none 0 0]) ?_ 1 _ rfl; (with_reducible repeat (first | refine zai ?_ _ | refine zal ?_ | refine zag ?_ _)); refine zar (cs := #[.string (⟨#[]⟩ : ByteArray), .int .i64 0, .slice none 0 0]) ?_ 0 _ rfl; (with_reducible repeat (first | refine zai ?_ _ | refine zal ?_ | refine zag ?_ _)); exact BK132.out) hb); have n1_ := Aside0.mk (zah (by repeat (first | (with_reducible first | exact HB.out | apply zab | apply zad | apply zae | refine zaf ?_ GE132.out) | exact HB.out)) hb); clear BK132; clear HB; have BK132 := n0_; have HB := n1_; clear n0_ n1_; (try clear hb); (try clear hb2); (try clear hk); (try clear hi); have hcz12_0 : w11.cell? ⟨gb132, 0, none⟩ = some (.string ((zaq l0 x7_1).f0)) := (zac BK132.out 0).trans rfl; have hcz12_1 : w11.cell? ⟨gb132, 1, none⟩ = some (.int .i64 ((zaq l0 x7_1).f1)) := (zac BK132.out 1).trans rfl; have hcz12_2 : w11.cell? ⟨gb132, 2, none⟩ = some (.slice A131_2 ((zaq l0 x7_1).f2).length c131_2) := (zac BK132.out 2).trans rfl; have hfz12_0 := zaa BK132.out 0; have hfz12_1 := zaa BK132.out 1; have hfz12_2 := zaa BK132.out 2) | (go_at_call 34; (with_reducible refine (registry_at.calls _ _ l0 ((zaq l0 x7_1).f0) t134 _ ?side1 ?side2 A7.out).mono ?_); (case side1 => repeat (first | exact (Kd.C_below HR0.out HB.out) | (with_reducible refine Kd.C_alloc ?_ _) | (with_reducible refine Kd.C_drewN ?_ _) | (with_reducible refine Kd.C_drew ?_))); (case side2 => exact HC0.out); rintro e w13 ⟨rfl, hb⟩; have n0_ := Aside0.mk (zak (g := gb132) (o := .cells #[.string ((zaq l0 x7_1).f0), .int .i64 ((zaq l0 x7_1).f1), .slice A131_2 ((zaq l0 x7_1).f2).length c131_2] 43 (0, 0)) (by (with_reducible repeat (first | refine zai ?_ _ | refine zal ?_ | refine zag ?_ _)); exact BK132.out) hb); have n1_ := Aside0.mk (zah (by repeat (first | (with_reducible first | exact HB.out | apply zab | apply zad | apply zae | refine zaf ?_ GE132.out) | exact HB.out)) hb); clear BK132; clear HB; have BK132 := n0_; have HB := n1_; clear n0_ n1_; (try clear hb); (try clear hb2); (try clear hk); (try clear hi)))
        go_roundg k1
        case measure => have := HK1.out; omega
        case rel => exact ⟨(wrap64 (x7_1 + 1)), (by first | rfl | (simp; done) | (simp [*]; done)), H', ⟨by have := HK1.out; omega⟩, ⟨by repeat (first | (with_reducible first | exact HB.out | apply zab | apply zad | apply zae | refine zaf ?_ GE132.out) | exact HB.out)⟩⟩
       ·rw [if_neg c8] at H
        have c8b0 : (t134 == x7_1) = false := beq_eq_false_iff_ne.mpr c8
        have c8b1 : (t134 != x7_1) = true := bne_iff_ne.mpr c8
        obtain rfl := Option.some.inj H
        have p131 : 0 ≤ (x7_1 : Int) := of_decide_eq_true (by first | (with_reducible assumption) | assumption)
        have q131 : x7_1 < (l0.length : Int) := of_decide_eq_true (by first | (with_reducible assumption) | assumption)
        obtain ⟨ad131, A131_2, c131_2, e131, hx131_0, hx131_1, hx131_2, hl131_2, hi131_2⟩ := at_TSchema HR0.out x7_1 p131 q131
        cases e131
        replace hx131_0 := (HB.out.cell (World.block_lt_of_cell? w _ hx131_0)).trans hx131_0
        replace hx131_1 := (HB.out.cell (World.block_lt_of_cell? w _ hx131_1)).trans hx131_1
        replace hx131_2 := (HB.out.cell (World.block_lt_of_cell? w _ hx131_2)).trans hx131_2
        have HR131_2 := Aside0.mk hi131_2
        have HC131_2 := Aside0.mk hl131_2
        clear hi131_2 hl131_2
        replace p131 := eq_true p131
        replace q131 := eq_true q131
        go_wp2_with (first | ((with_reducible refine zaw (N := 4) rfl ?_); refine zas ?hg (N := 4) ?hd (cs := #[.string (⟨#[]⟩ : ByteArray), .int .i64 0, .slice none 0 0]) (t := 43) ?hr ?_; (case hd => rfl); (case hg => rfl); (case hr => first | (go_simp; done) | (go_simp; rfl)); intro gb132 hg w14 hbox hb; have n0_ := Aside0.mk (zah (by repeat (first | (with_reducible first | exact HB.out | apply zab | apply zad | apply zae) | exact HB.out)) hb); have n1_ := Aside0.mk (hbox); have n2_ := Aside0.mk ((by rw [hg]; exact (zao (by repeat (first | (with_reducible first | exact HB.out | apply zab | apply zad | apply zae) | exact HB.out))) : w.heap.size ≤ gb132)); have n3_ := Aside0.mk ((by rw [hg]; exact (zao (by repeat (first | (with_reducible first | exact HB.out | apply zab | apply zad | apply zae) | exact HB.out))) : w.heap.size ≤ gb132)); clear HB; have HB := n0_; have BK132 := n1_; have GW132 := n2_; have GE132 := n3_; clear n0_ n1_ n2_ n3_; clear hb hbox hg; have hcz15_0 : w14.cell? ⟨gb132, 0, none⟩ = some (.string (⟨#[]⟩ : ByteArray)) := (zac BK132.out 0).trans rfl; have hcz15_1 : w14.cell? ⟨gb132, 1, none⟩ = some (.int .i64 0) := (zac BK132.out 1).trans rfl; have hcz15_2 : w14.cell? ⟨gb132, 2, none⟩ = some (.slice none 0 0) := (zac BK132.out 2).trans rfl; have hfz15_0 := zaa BK132.out 0; have hfz15_1 := zaa BK132.out 1; have hfz15_2 := zaa BK132.out 2) | ((with_reducible refine zap (f := 33) rfl ?_); refine zau (some 13) rfl rfl Try.func33 (by kernel_rfl) rfl #[.agg #[.string ((zaq l0 x7_1).f0), .int .i64 ((zaq l0 x7_1).f1), .slice A131_2 ((zaq l0 x7_1).f2).length c131_2]] rfl (by (try simp only [List.map_toArray, List.map_cons, List.map_nil]); first | done | rfl | (simp only [List.length_drop, List.length_take]; rfl)) ?_; (with_reducible refine (schema_May.calls ((zaq l0 x7_1).f0) ((zaq l0 x7_1).f1) _ _ ((zaq l0 x7_1).f2) true _ ?side1 ?side2 A5.out).mono ?_); (case side1 => exact Kd.C_below HR131_2.out (by repeat (first | (with_reducible first | exact HB.out | apply zab | apply zad | apply zae | refine zaf ?_ GE132.out) | exact HB.out))); (case side2 => exact HC131_2.out); rintro e w16 ⟨rfl, hb⟩; refine ⟨_, rfl, ?_⟩; have n0_ := Aside0.mk (zak (g := gb132) (o := .cells #[.string ((zaq l0 x7_1).f0), .int .i64 ((zaq l0 x7_1).f1), .slice A131_2 ((zaq l0 x7_1).f2).length c131_2] 43 (0, 0)) (by (with_reducible repeat (first | refine zai ?_ _ | refine zal ?_ | refine zag ?_ _)); refine zar (cs := #[.string ((zaq l0 x7_1).f0), .int .i64 ((zaq l0 x7_1).f1), .slice none 0 0]) ?_ 2 _ rfl; (with_reducible repeat (first | refine zai ?_ _ | refine zal ?_ | refine zag ?_ _)); refine zar (cs := #[.string ((zaq l0 x7_1).f0), .int .i64 0, .slice none 0 0]) ?_ 1 _ rfl; (with_reducible repeat (first | refine zai ?_ _ | refine zal ?_ | refine zag ?_ _)); refine zar (cs := #[.string (⟨#[]⟩ : ByteArray), .int .i64 0, .slice none 0 0]) ?_ 0 _ rfl; (with_reducible repeat (first | refine zai ?_ _ | refine zal ?_ | refine zag ?_ _)); exact BK132.out) hb); have n1_ := Aside0.mk (zah (by repeat (first | (with_reducible first | exact HB.out | apply zab | apply zad | apply zae | refine zaf ?_ GE132.out) | exact HB.out)) hb); clear BK132; clear HB; have BK132 := n0_; have HB := n1_; clear n0_ n1_; (try clear hb); (try clear hb2); (try clear hk); (try clear hi); have hcz17_0 : w16.cell? ⟨gb132, 0, none⟩ = some (.string ((zaq l0 x7_1).f0)) := (zac BK132.out 0).trans rfl; have hcz17_1 : w16.cell? ⟨gb132, 1, none⟩ = some (.int .i64 ((zaq l0 x7_1).f1)) := (zac BK132.out 1).trans rfl; have hcz17_2 : w16.cell? ⟨gb132, 2, none⟩ = some (.slice A131_2 ((zaq l0 x7_1).f2).length c131_2) := (zac BK132.out 2).trans rfl; have hfz17_0 := zaa BK132.out 0; have hfz17_1 := zaa BK132.out 1; have hfz17_2 := zaa BK132.out 2) | (go_at_call 34; (with_reducible refine (registry_at.calls _ _ l0 ((zaq l0 x7_1).f0) t134 _ ?side1 ?side2 A7.out).mono ?_); (case side1 => repeat (first | exact (Kd.C_below HR0.out HB.out) | (with_reducible refine Kd.C_alloc ?_ _) | (with_reducible refine Kd.C_drewN ?_ _) | (with_reducible refine Kd.C_drew ?_))); (case side2 => exact HC0.out); rintro e w18 ⟨rfl, hb⟩; have n0_ := Aside0.mk (zak (g := gb132) (o := .cells #[.string ((zaq l0 x7_1).f0), .int .i64 ((zaq l0 x7_1).f1), .slice A131_2 ((zaq l0 x7_1).f2).length c131_2] 43 (0, 0)) (by (with_reducible repeat (first | refine zai ?_ _ | refine zal ?_ | refine zag ?_ _)); exact BK132.out) hb); have n1_ := Aside0.mk (zah (by repeat (first | (with_reducible first | exact HB.out | apply zab | apply zad | apply zae | refine zaf ?_ GE132.out) | exact HB.out)) hb); clear BK132; clear HB; have BK132 := n0_; have HB := n1_; clear n0_ n1_; (try clear hb); (try clear hb2); (try clear hk); (try clear hi)))
        go_ret
        exact ⟨by first | rfl | (simp [zan, zam] <;> rfl) | (simp [*, zan, zam] <;> rfl), by repeat (first | (with_reducible first | exact HB.out | apply zab | apply zad | apply zae | refine zaf ?_ GE132.out) | exact HB.out)⟩
      ·replace c6 := Bool.eq_false_iff.mpr c6
       subst c6
       have H1 : (some false) = some r := by rw [if_neg (show ¬ (false = true) by decide)] at H; exact H
       clear H
       have H := H1
       clear H1
       obtain rfl := Option.some.inj H
       have p131 : 0 ≤ (x7_1 : Int) := of_decide_eq_true (by first | (with_reducible assumption) | assumption)
       have q131 : x7_1 < (l0.length : Int) := of_decide_eq_true (by first | (with_reducible assumption) | assumption)
       obtain ⟨ad131, A131_2, c131_2, e131, hx131_0, hx131_1, hx131_2, hl131_2, hi131_2⟩ := at_TSchema HR0.out x7_1 p131 q131
       cases e131
       replace hx131_0 := (HB.out.cell (World.block_lt_of_cell? w _ hx131_0)).trans hx131_0
       replace hx131_1 := (HB.out.cell (World.block_lt_of_cell? w _ hx131_1)).trans hx131_1
       replace hx131_2 := (HB.out.cell (World.block_lt_of_cell? w _ hx131_2)).trans hx131_2
       have HR131_2 := Aside0.mk hi131_2
       have HC131_2 := Aside0.mk hl131_2
       clear hi131_2 hl131_2
       replace p131 := eq_true p131
       replace q131 := eq_true q131
       go_wp2_with (first | ((with_reducible refine zaw (N := 4) rfl ?_); refine zas ?hg (N := 4) ?hd (cs := #[.string (⟨#[]⟩ : ByteArray), .int .i64 0, .slice none 0 0]) (t := 43) ?hr ?_; (case hd => rfl); (case hg => rfl); (case hr => first | (go_simp; done) | (go_simp; rfl)); intro gb132 hg w19 hbox hb; have n0_ := Aside0.mk (zah (by repeat (first | (with_reducible first | exact HB.out | apply zab | apply zad | apply zae) | exact HB.out)) hb); have n1_ := Aside0.mk (hbox); have n2_ := Aside0.mk ((by rw [hg]; exact (zao (by repeat (first | (with_reducible first | exact HB.out | apply zab | apply zad | apply zae) | exact HB.out))) : w.heap.size ≤ gb132)); have n3_ := Aside0.mk ((by rw [hg]; exact (zao (by repeat (first | (with_reducible first | exact HB.out | apply zab | apply zad | apply zae) | exact HB.out))) : w.heap.size ≤ gb132)); clear HB; have HB := n0_; have BK132 := n1_; have GW132 := n2_; have GE132 := n3_; clear n0_ n1_ n2_ n3_; clear hb hbox hg; have hcz20_0 : w19.cell? ⟨gb132, 0, none⟩ = some (.string (⟨#[]⟩ : ByteArray)) := (zac BK132.out 0).trans rfl; have hcz20_1 : w19.cell? ⟨gb132, 1, none⟩ = some (.int .i64 0) := (zac BK132.out 1).trans rfl; have hcz20_2 : w19.cell? ⟨gb132, 2, none⟩ = some (.slice none 0 0) := (zac BK132.out 2).trans rfl; have hfz20_0 := zaa BK132.out 0; have hfz20_1 := zaa BK132.out 1; have hfz20_2 := zaa BK132.out 2) | ((with_reducible refine zap (f := 33) rfl ?_); refine zau (some 13) rfl rfl Try.func33 (by kernel_rfl) rfl #[.agg #[.string ((zaq l0 x7_1).f0), .int .i64 ((zaq l0 x7_1).f1), .slice A131_2 ((zaq l0 x7_1).f2).length c131_2]] rfl (by (try simp only [List.map_toArray, List.map_cons, List.map_nil]); first | done | rfl | (simp only [List.length_drop, List.length_take]; rfl)) ?_; (with_reducible refine (schema_May.calls ((zaq l0 x7_1).f0) ((zaq l0 x7_1).f1) _ _ ((zaq l0 x7_1).f2) false _ ?side1 ?side2 A5.out).mono ?_); (case side1 => exact Kd.C_below HR131_2.out (by repeat (first | (with_reducible first | exact HB.out | apply zab | apply zad | apply zae | refine zaf ?_ GE132.out) | exact HB.out))); (case side2 => exact HC131_2.out); rintro e w21 ⟨rfl, hb⟩; refine ⟨_, rfl, ?_⟩; have n0_ := Aside0.mk (zak (g := gb132) (o := .cells #[.string ((zaq l0 x7_1).f0), .int .i64 ((zaq l0 x7_1).f1), .slice A131_2 ((zaq l0 x7_1).f2).length c131_2] 43 (0, 0)) (by (with_reducible repeat (first | refine zai ?_ _ | refine zal ?_ | refine zag ?_ _)); refine zar (cs := #[.string ((zaq l0 x7_1).f0), .int .i64 ((zaq l0 x7_1).f1), .slice none 0 0]) ?_ 2 _ rfl; (with_reducible repeat (first | refine zai ?_ _ | refine zal ?_ | refine zag ?_ _)); refine zar (cs := #[.string ((zaq l0 x7_1).f0), .int .i64 0, .slice none 0 0]) ?_ 1 _ rfl; (with_reducible repeat (first | refine zai ?_ _ | refine zal ?_ | refine zag ?_ _)); refine zar (cs := #[.string (⟨#[]⟩ : ByteArray), .int .i64 0, .slice none 0 0]) ?_ 0 _ rfl; (with_reducible repeat (first | refine zai ?_ _ | refine zal ?_ | refine zag ?_ _)); exact BK132.out) hb); have n1_ := Aside0.mk (zah (by repeat (first | (with_reducible first | exact HB.out | apply zab | apply zad | apply zae | refine zaf ?_ GE132.out) | exact HB.out)) hb); clear BK132; clear HB; have BK132 := n0_; have HB := n1_; clear n0_ n1_; (try clear hb); (try clear hb2); (try clear hk); (try clear hi)))
       go_ret
       exact ⟨by first | rfl | (simp [zan, zam] <;> rfl) | (simp [*, zan, zam] <;> rfl), by repeat (first | (with_reducible first | exact HB.out | apply zab | apply zad | apply zae | refine zaf ?_ GE132.out) | exact HB.out)⟩
     ·rw [if_neg c4] at H
      exact absurd H (by simp)
    ·rw [if_neg c3] at H
     exact absurd H (by simp)
   ·rw [if_neg c2] at H
    have c2b0 : decide (x7_1 < (l0.length : Int)) = false := decide_eq_false c2
    clear c2
    obtain rfl := Option.some.inj H
    go_wp2
    go_ret
    exact ⟨by first | rfl | (simp [zan, zam] <;> rfl) | (simp [*, zan, zam] <;> rfl), by repeat (first | (with_reducible first | exact HB.out | apply zab | apply zad | apply zae) | exact HB.out)⟩
def slices_Clone_api_Field.f (l0 : List (SField)) : Option (List (SField)) := if l0.length < 5864062014805 then some l0 else none
set_option maxHeartbeats 400000 in
theorem slices_Clone_api_Field.calls (A0 : Option Addr) (c0 : Nat) (l0 : List (SField)) (r : List (SField)) (w : World) (hr0 : Kd.C kField w A0 l0.length l0) (hc0 : l0.length ≤ c0) (h : slices_Clone_api_Field.f l0 = some r) :
  Calls Try.prog 56 #[.slice A0 l0.length c0] w fun e w' => ∃ v0_ : Value, e = .returned v0_ ∧ Kd.R kField 67 w' w.heap.size (fun _ => True) v0_ r ∧ Below w.heap.size w w' := by
 unfold slices_Clone_api_Field.f at h
 by_cases hm : l0.length < 5864062014805
 ·rw [if_pos hm] at h
  obtain rfl := Option.some.inj h
  clear h
  show Calls _ _ _ _ (rowPost kField 67 l0 w)
  have hu := Try.underlying41
  cases A0 with
  | none =>
   obtain rfl := C_none hr0
   have hq := fun (W : World) (c : Nat) => Go.Lib.run_eql_slice_nil (P := Try.prog) W 41 67 none 0 c 0 0 hu
   go_enter Try.func56, Try.ntmps56
   go_wp2
   go_ret
   exact ⟨_, rfl, Kd.R_nil _ _ _ _ _, Below.refl _ _⟩
  | some ad =>
   have HR := Aside0.mk hr0
   clear hr0
   have hq := fun (W : World) (m c : Nat) => Go.Lib.run_eql_slice_nil (P := Try.prog) W 41 67 (some ad) m c 0 0 hu
   go_enter Try.func56, Try.ntmps56
   go_wp2_with ((with_reducible refine zaz (b := .append) (xs := #[.tmp 5, .tmp 6]) rfl ?_); at_builtin; refine Kd.R_append_rows kField (Rr := Kd.K kField (w.alloc (.cells #[] 67))) (w0 := w) w.heap.size rfl (.tmp 5) (.tmp 6) 41 67 (.agg #[(.string ⟨#[]⟩), (.int .i64 0)]) 24 rfl Try.underlying41 infoField rfl (by decide) (by omega) (.slice (some ⟨w.heap.size, 0, none⟩) 0 0) [] l0 (some ad) l0.length c0 (fun _ => True) (fun _ => False) rfl rfl ?aO ?aR ?aK (fun _ h => h.elim) (fun _ _ => trivial) ?aB ?aS ?aL ?_; (case aO => exact Kd.R_empty _ _ _ _ (Nat.le_refl _)); (case aR => exact Kd.C_below HR.out ((Below.refl _ _).alloc (Nat.le_refl _) _)); (case aB => exact (Below.refl _ _).alloc (Nat.le_refl _) _); (case aK => exact (fun x cs h => by obtain rfl := kField_open h; exact kField_mkM _ _ _ x)); (case aS => simp); (case aL => simp; omega); intro v1 w2 ho hb hg hat)
   have HO := Aside0.mk ho
   clear ho hg hat
   go_wp2
   go_ret
   exact ⟨_, rfl, HO.out, hb⟩
 ·rw [if_neg hm] at h
  exact absurd h (by simp)
def registry_own.f (a0_0 : ByteArray) (a0_1 : Int) (l0_2 : List (SField)) : Option (ByteArray × Int × (List (SField))) := (slices_Clone_api_Field.f l0_2).bind fun t137 => (some (a0_0, a0_1, t137))
end Go.Proofs.Ytooemobolfoefaa.P



namespace Go.Proofs.Ytooemobolfoefaa.P
open Go.RowKit Go.Proofs.YtooemobolfoefaaW.PrintWords Go.Proofs.YtooemobolfoefaaW.PrintLast Go.Proofs.YtooemobolfoefaaW.PrintMore
attribute [local go_sem] zaX zaV zbf zbe zaO zaN zaW zaU   -- for this text's walks alone
set_option linter.unusedVariables false
set_option linter.unusedSimpArgs false
set_option maxHeartbeats 8000000 in
set_option maxRecDepth 100000 in
theorem registry_own.calls (a0_0 : ByteArray) (a0_1 : Int) (A0_2 : Option Addr) (c0_2 : Nat) (l0_2 : List (SField)) (r1 : ByteArray) (r2 : Int) (r3 : List (SField)) (w : World) (hr0_2 : Kd.C kField w A0_2 l0_2.length l0_2) (hc0_2 : l0_2.length ≤ c0_2) (h : registry_own.f a0_0 a0_1 l0_2 = some (r1, r2, r3)) :
  Calls Try.prog 37 #[.agg #[.string a0_0, .int .i64 a0_1, .slice A0_2 l0_2.length c0_2]] w fun e w' => ∃ v2_ : Value, e = .returned (.agg #[.string r1, .int .i64 r2, v2_]) ∧ Kd.R kField 67 w' w.heap.size (fun _ => True) v2_ r3 ∧ Below w.heap.size w w' := by
 have hu43 := Try.underlying43
 have HR0_2 := Aside0.mk hr0_2
 have HC0_2 := Aside0.mk hc0_2
 clear hr0_2 hc0_2
 have HB := Aside0.mk (Below.refl w.heap.size w)
 have H : ((slices_Clone_api_Field.f l0_2).bind fun t137 => (some (a0_0, a0_1, t137))) = some (r1, r2, r3) := h
 clear h
 replace H := Option.bind_eq_some_iff.mp H
 obtain ⟨t137, A20, H⟩ := H
 replace H : (some (a0_0, a0_1, t137)) = some (r1, r2, r3) := H
 have A2 := Aside0.mk A20
 clear A20
 simp only [Option.some.injEq, Prod.mk.injEq] at H
 obtain ⟨rfl, rfl, rfl⟩ := H
 go_enter Try.func37, Try.ntmps37
 go_wp2_with (first | ((with_reducible refine zaw (N := 1) rfl ?_); refine zas ?hg (N := 1) ?hd (cs := #[.string a0_0, .int .i64 a0_1, .slice A0_2 l0_2.length c0_2]) (t := 43) ?hr ?_; (case hd => rfl); (case hg => rfl); (case hr => first | (go_simp; done) | (go_simp; rfl)); intro gb135 hg w3 hbox hb; have n0_ := Aside0.mk (zah (by repeat (first | (with_reducible first | exact HB.out | apply zab | apply zad | apply zae) | exact HB.out)) hb); have n1_ := Aside0.mk (hbox); have n2_ := Aside0.mk ((by rw [hg]; exact (zao (by repeat (first | (with_reducible first | exact HB.out | apply zab | apply zad | apply zae) | exact HB.out))) : w.heap.size ≤ gb135)); have n3_ := Aside0.mk ((by rw [hg]; exact (zao (by repeat (first | (with_reducible first | exact HB.out | apply zab | apply zad | apply zae) | exact HB.out))) : w.heap.size ≤ gb135)); clear HB; have HB := n0_; have BK135 := n1_; have GW135 := n2_; have GE135 := n3_; clear n0_ n1_ n2_ n3_; clear hb hbox hg) | ((with_reducible refine zaw (N := 2) rfl ?_); refine zas ?hg (N := 2) ?hd (cs := #[.string (⟨#[]⟩ : ByteArray), .int .i64 0, .slice none 0 0]) (t := 43) ?hr ?_; (case hd => rfl); (case hg => rfl); (case hr => first | (go_simp; done) | (go_simp; rfl)); intro gb136 hg w4 hbox hb; have n0_ := Aside0.mk (zak (g := gb135) (o := .cells #[.string a0_0, .int .i64 a0_1, .slice A0_2 l0_2.length c0_2] 43 (0, 0)) (by (with_reducible repeat (first | refine zai ?_ _ | refine zal ?_ | refine zag ?_ _)); exact BK135.out) hb); have n1_ := Aside0.mk (zah (by repeat (first | (with_reducible first | exact HB.out | apply zab | apply zad | apply zae | refine zaf ?_ GE135.out) | exact HB.out)) hb); have n2_ := Aside0.mk (hbox); have n3_ := Aside0.mk ((by rw [hg]; exact (zao (by repeat (first | (with_reducible first | exact HB.out | apply zab | apply zad | apply zae | refine zaf ?_ GE135.out) | exact HB.out))) : w.heap.size ≤ gb136)); have n4_ := Aside0.mk ((by rw [hg]; exact (zao (by repeat (first | (with_reducible first | exact HB.out | apply zab | apply zad | apply zae | refine zaf ?_ GE135.out) | exact HB.out))) : w.heap.size ≤ gb136)); have n5_ := Aside0.mk ((by rw [hg]; exact Nat.ne_of_lt (zaA (g := gb135) (o := .cells #[.string a0_0, .int .i64 a0_1, .slice A0_2 l0_2.length c0_2] 43 (0, 0)) (by (with_reducible repeat (first | refine zai ?_ _ | refine zal ?_ | refine zag ?_ _)); exact BK135.out)) : gb135 ≠ gb136)); have n6_ := Aside0.mk ((by rw [hg]; exact Nat.ne_of_gt (zaA (g := gb135) (o := .cells #[.string a0_0, .int .i64 a0_1, .slice A0_2 l0_2.length c0_2] 43 (0, 0)) (by (with_reducible repeat (first | refine zai ?_ _ | refine zal ?_ | refine zag ?_ _)); exact BK135.out)) : gb136 ≠ gb135)); clear BK135; clear HB; have BK135 := n0_; have HB := n1_; have BK136 := n2_; have GW136 := n3_; have GE136 := n4_; have NB135_136 := n5_; have NB136_135 := n6_; clear n0_ n1_ n2_ n3_ n4_ n5_ n6_; clear hb hbox hg; have hnb5 := NB135_136.out; have hnc5 := NB136_135.out; have hcz6_0 : w4.cell? ⟨gb135, 0, none⟩ = some (.string a0_0) := (zac BK135.out 0).trans rfl; have hcz6_1 : w4.cell? ⟨gb135, 1, none⟩ = some (.int .i64 a0_1) := (zac BK135.out 1).trans rfl; have hcz6_2 : w4.cell? ⟨gb135, 2, none⟩ = some (.slice A0_2 l0_2.length c0_2) := (zac BK135.out 2).trans rfl; have hfz6_0 := zaa BK135.out 0; have hfz6_1 := zaa BK135.out 1; have hfz6_2 := zaa BK135.out 2) | ((with_reducible refine zap (f := 56) rfl ?_); refine zau (some 5) rfl rfl Try.func56 (by kernel_rfl) rfl #[.slice A0_2 l0_2.length c0_2] rfl (by (try simp only [List.map_toArray, List.map_cons, List.map_nil]); first | done | rfl | (simp only [List.length_drop, List.length_take]; rfl)) ?_; (with_reducible refine (slices_Clone_api_Field.calls _ _ l0_2 t137 _ ?side1 ?side2 A2.out).mono ?_); (case side1 => repeat (first | exact (Kd.C_below HR0_2.out HB.out) | (with_reducible refine Kd.C_alloc ?_ _) | (with_reducible refine Kd.C_drewN ?_ _) | (with_reducible refine Kd.C_drew ?_))); (case side2 => exact HC0_2.out); rintro e w7 ⟨v138, rfl, ho0, hb⟩; refine ⟨_, rfl, ?_⟩; have n0_ := Aside0.mk (Kd.R_lower ho0 (zao (by repeat (first | (with_reducible first | exact HB.out | apply zab | apply zad | apply zae | refine zaf ?_ GE135.out | refine zaf ?_ GE136.out) | exact HB.out)))); have n1_ := Aside0.mk (zak (g := gb135) (o := .cells #[.string a0_0, .int .i64 a0_1, .slice A0_2 l0_2.length c0_2] 43 (0, 0)) (by (with_reducible repeat (first | refine zai ?_ _ | refine zal ?_ | refine zag ?_ _)); exact BK135.out) hb); have n2_ := Aside0.mk (zak (g := gb136) (o := .cells #[.string (⟨#[]⟩ : ByteArray), .int .i64 0, .slice none 0 0] 43 (0, 0)) (by (with_reducible repeat (first | refine zai ?_ _ | refine zal ?_ | refine zag ?_ _)); exact BK136.out) hb); have n3_ := Aside0.mk (zah (by repeat (first | (with_reducible first | exact HB.out | apply zab | apply zad | apply zae | refine zaf ?_ GE135.out | refine zaf ?_ GE136.out) | exact HB.out)) hb); clear BK135; clear BK136; clear HB; have HO139 := n0_; have BK135 := n1_; have BK136 := n2_; have HB := n3_; clear n0_ n1_ n2_ n3_; (try clear hb); (try clear hb2); (try clear hk); (try clear hi); (try clear ho0); obtain ⟨Ao8, co8, eo8⟩ := Kd.R_slice HO139.out; subst eo8; have hcz9_0 : w7.cell? ⟨gb135, 0, none⟩ = some (.string a0_0) := (zac BK135.out 0).trans rfl; have hcz9_1 : w7.cell? ⟨gb135, 1, none⟩ = some (.int .i64 a0_1) := (zac BK135.out 1).trans rfl; have hcz9_2 : w7.cell? ⟨gb135, 2, none⟩ = some (.slice A0_2 l0_2.length c0_2) := (zac BK135.out 2).trans rfl; have hfz9_0 := zaa BK135.out 0; have hfz9_1 := zaa BK135.out 1; have hfz9_2 := zaa BK135.out 2; have hcz10_0 : w7.cell? ⟨gb136, 0, none⟩ = some (.string (⟨#[]⟩ : ByteArray)) := (zac BK136.out 0).trans rfl; have hcz10_1 : w7.cell? ⟨gb136, 1, none⟩ = some (.int .i64 0) := (zac BK136.out 1).trans rfl; have hcz10_2 : w7.cell? ⟨gb136, 2, none⟩ = some (.slice none 0 0) := (zac BK136.out 2).trans rfl; have hfz10_0 := zaa BK136.out 0; have hfz10_1 := zaa BK136.out 1; have hfz10_2 := zaa BK136.out 2))
 refine bodyPost_ret (results_cell_row rfl _ _ gb136 43 #[.string a0_0, .int .i64 a0_1, .slice Ao8 t137.length co8] (0, 0) _ rfl (by (with_reducible repeat (first | refine zai ?_ _ | refine zal ?_ | refine zag ?_ _)); refine zar (cs := #[.string a0_0, .int .i64 a0_1, .slice none 0 0]) ?_ 2 _ rfl; (with_reducible repeat (first | refine zai ?_ _ | refine zal ?_ | refine zag ?_ _)); refine zar (cs := #[.string a0_0, .int .i64 0, .slice none 0 0]) ?_ 1 _ rfl; (with_reducible repeat (first | refine zai ?_ _ | refine zal ?_ | refine zag ?_ _)); refine zar (cs := #[.string (⟨#[]⟩ : ByteArray), .int .i64 0, .slice none 0 0]) ?_ 0 _ rfl; (with_reducible repeat (first | refine zai ?_ _ | refine zal ?_ | refine zag ?_ _)); refine zaG ?_ NB136_135.out _; (with_reducible repeat (first | refine zai ?_ _ | refine zal ?_ | refine zag ?_ _)); exact BK136.out) Try.underlying43 rfl (by kernel_rfl)) rfl ?_
 exact ⟨_, by first | rfl | (simp [zan, zam] <;> rfl) | (simp [*, zan, zam] <;> rfl), by (with_reducible repeat (first | apply Kd.R_alloc | apply Kd.R_drewN | apply Kd.R_drew)); exact Kd.R_mono (Kd.R_far (p := ⟨gb136, 2, none⟩) (Kd.R_far (p := ⟨gb136, 1, none⟩) (Kd.R_far (p := ⟨gb136, 0, none⟩) (Kd.R_far (p := ⟨gb135, 2, none⟩) (Kd.R_types (Kd.R_types HO139.out BK135.out (by decide)) BK136.out (by decide)) (fun _ hk => hk.1.2) (.slice Ao8 t137.length co8)) (fun _ hk => hk.2) (.string a0_0)) (fun _ hk => hk.2) (.int .i64 a0_1)) (fun _ hk => hk.2) (.slice Ao8 t137.length co8)) (fun _ hk => trivial), by repeat (first | (with_reducible first | exact HB.out | apply zab | apply zad | apply zae | refine zaf ?_ GE135.out | refine zaf ?_ GE136.out) | exact HB.out)⟩
def registry_Find.f (l0 : List (SSchema)) (a1 : ByteArray) : Option (ByteArray × Int × (List (SField)) × Bool) := (registry_at.f l0 a1).bind fun t141 => (if t141 < 0 then (some ((⟨#[]⟩ : ByteArray), 0, ([] : List (SField)), false)) else (if 0 ≤ t141 then (if t141 < (l0.length : Int) then ((registry_own.f ((zaq l0 t141).f0) ((zaq l0 t141).f1) ((zaq l0 t141).f2)).bind fun bt143 => (some (bt143.1, bt143.2.1, bt143.2.2, true))) else (none)) else (none)))
set_option maxHeartbeats 8000000 in
set_option maxRecDepth 100000 in
theorem registry_Find.calls (A0 : Option Addr) (c0 : Nat) (l0 : List (SSchema)) (a1 : ByteArray) (r1 : ByteArray) (r2 : Int) (r3 : List (SField)) (r4 : Bool) (w : World) (hr0 : Kd.C kSchema w A0 l0.length l0) (hc0 : l0.length ≤ c0) (h : registry_Find.f l0 a1 = some (r1, r2, r3, r4)) :
  Calls Try.prog 31 #[.slice A0 l0.length c0, .string a1] w fun e w' => ∃ v2_ : Value, e = .returned (.tuple #[.agg #[.string r1, .int .i64 r2, v2_], .bool r4]) ∧ Kd.R kField 67 w' w.heap.size (fun _ => True) v2_ r3 ∧ Below w.heap.size w w' := by
 have hu43 := Try.underlying43
 have HR0 := Aside0.mk hr0
 have HC0 := Aside0.mk hc0
 clear hr0 hc0
 have HB := Aside0.mk (Below.refl w.heap.size w)
 have H : ((registry_at.f l0 a1).bind fun t141 => (if t141 < 0 then (some ((⟨#[]⟩ : ByteArray), 0, ([] : List (SField)), false)) else (if 0 ≤ t141 then (if t141 < (l0.length : Int) then ((registry_own.f ((zaq l0 t141).f0) ((zaq l0 t141).f1) ((zaq l0 t141).f2)).bind fun bt143 => (some (bt143.1, bt143.2.1, bt143.2.2, true))) else (none)) else (none)))) = some (r1, r2, r3, r4) := h
 clear h
 replace H := Option.bind_eq_some_iff.mp H
 obtain ⟨t141, A30, H⟩ := H
 replace H : (if t141 < 0 then (some ((⟨#[]⟩ : ByteArray), 0, ([] : List (SField)), false)) else (if 0 ≤ t141 then (if t141 < (l0.length : Int) then ((registry_own.f ((zaq l0 t141).f0) ((zaq l0 t141).f1) ((zaq l0 t141).f2)).bind fun bt143 => (some (bt143.1, bt143.2.1, bt143.2.2, true))) else (none)) else (none))) = some (r1, r2, r3, r4) := H
 have A3 := Aside0.mk A30
 clear A30
 by_cases c4 : t141 < 0
 ·rw [if_pos c4] at H
  have c4b0 : decide (t141 < 0) = true := decide_eq_true c4
  clear c4
  simp only [Option.some.injEq, Prod.mk.injEq] at H
  obtain ⟨rfl, rfl, rfl, rfl⟩ := H
  go_enter Try.func31, Try.ntmps31
  go_wp2_with (first | ((with_reducible refine zaw (N := 4) rfl ?_); refine zas ?hg (N := 4) ?hd (cs := #[.string (⟨#[]⟩ : ByteArray), .int .i64 0, .slice none 0 0]) (t := 43) ?hr ?_; (case hd => rfl); (case hg => rfl); (case hr => first | (go_simp; done) | (go_simp; rfl)); intro gb140 hg w5 hbox hb; have n0_ := Aside0.mk (zah (by repeat (first | (with_reducible first | exact HB.out | apply zab | apply zad | apply zae) | exact HB.out)) hb); have n1_ := Aside0.mk (hbox); have n2_ := Aside0.mk ((by rw [hg]; exact (zao (by repeat (first | (with_reducible first | exact HB.out | apply zab | apply zad | apply zae) | exact HB.out))) : w.heap.size ≤ gb140)); have n3_ := Aside0.mk ((by rw [hg]; exact (zao (by repeat (first | (with_reducible first | exact HB.out | apply zab | apply zad | apply zae) | exact HB.out))) : w.heap.size ≤ gb140)); clear HB; have HB := n0_; have BK140 := n1_; have GW140 := n2_; have GE140 := n3_; clear n0_ n1_ n2_ n3_; clear hb hbox hg) | ((with_reducible refine zap (f := 34) rfl ?_); refine zau (some 9) rfl rfl Try.func34 (by kernel_rfl) rfl #[.slice A0 l0.length c0, .string a1] rfl (by (try simp only [List.map_toArray, List.map_cons, List.map_nil]); first | done | rfl | (simp only [List.length_drop, List.length_take]; rfl)) ?_; (with_reducible refine (registry_at.calls _ _ l0 a1 t141 _ ?side1 ?side2 A3.out).mono ?_); (case side1 => repeat (first | exact (Kd.C_below HR0.out HB.out) | (with_reducible refine Kd.C_alloc ?_ _) | (with_reducible refine Kd.C_drewN ?_ _) | (with_reducible refine Kd.C_drew ?_))); (case side2 => exact HC0.out); rintro e w6 ⟨rfl, hb⟩; refine ⟨_, rfl, ?_⟩; have n0_ := Aside0.mk (zak (g := gb140) (o := .cells #[.string (⟨#[]⟩ : ByteArray), .int .i64 0, .slice none 0 0] 43 (0, 0)) (by (with_reducible repeat (first | refine zai ?_ _ | refine zal ?_ | refine zag ?_ _)); exact BK140.out) hb); have n1_ := Aside0.mk (zah (by repeat (first | (with_reducible first | exact HB.out | apply zab | apply zad | apply zae | refine zaf ?_ GE140.out) | exact HB.out)) hb); clear BK140; clear HB; have BK140 := n0_; have HB := n1_; clear n0_ n1_; (try clear hb); (try clear hb2); (try clear hk); (try clear hi); have hcz7_0 : w6.cell? ⟨gb140, 0, none⟩ = some (.string (⟨#[]⟩ : ByteArray)) := (zac BK140.out 0).trans rfl; have hcz7_1 : w6.cell? ⟨gb140, 1, none⟩ = some (.int .i64 0) := (zac BK140.out 1).trans rfl; have hcz7_2 : w6.cell? ⟨gb140, 2, none⟩ = some (.slice none 0 0) := (zac BK140.out 2).trans rfl; have hfz7_0 := zaa BK140.out 0; have hfz7_1 := zaa BK140.out 1; have hfz7_2 := zaa BK140.out 2))
  refine bodyPost_ret (results_ct rfl _ _ gb140 43 #[.string (⟨#[]⟩ : ByteArray), .int .i64 0, .slice none 0 0] (0, 0) _ rfl (by (with_reducible repeat (first | refine zai ?_ _ | refine zal ?_ | refine zag ?_ _)); refine zar (cs := #[.string (⟨#[]⟩ : ByteArray), .int .i64 0, .slice none 0 0]) ?_ 2 _ rfl; (with_reducible repeat (first | refine zai ?_ _ | refine zal ?_ | refine zag ?_ _)); refine zar (cs := #[.string (⟨#[]⟩ : ByteArray), .int .i64 0, .slice none 0 0]) ?_ 1 _ rfl; (with_reducible repeat (first | refine zai ?_ _ | refine zal ?_ | refine zag ?_ _)); refine zar (cs := #[.string (⟨#[]⟩ : ByteArray), .int .i64 0, .slice none 0 0]) ?_ 0 _ rfl; (with_reducible repeat (first | refine zai ?_ _ | refine zal ?_ | refine zag ?_ _)); exact BK140.out) Try.underlying43 rfl (by kernel_rfl)) rfl ?_
  exact ⟨_, by first | rfl | (simp [zan, zam] <;> rfl) | (simp [*, zan, zam] <;> rfl), by first | exact Kd.R_nil _ _ _ _ _ | exact Kd.N_nil _ _ _ _ _ | exact Kd.V_nil _ _ _ _ _ | exact Kd.Q_nil _ _ _ _ _ | exact Kd.S_nil _ _ _ _ _, by repeat (first | (with_reducible first | exact HB.out | apply zab | apply zad | apply zae | refine zaf ?_ GE140.out) | exact HB.out)⟩
 ·rw [if_neg c4] at H
  have c4b0 : decide (t141 < 0) = false := decide_eq_false c4
  clear c4
  by_cases c8 : 0 ≤ t141
  ·rw [if_pos c8] at H
   have c8b0 : decide (0 ≤ t141) = true := decide_eq_true c8
   clear c8
   by_cases c9 : t141 < (l0.length : Int)
   ·rw [if_pos c9] at H
    have c9b0 : decide (t141 < (l0.length : Int)) = true := decide_eq_true c9
    clear c9
    replace H := Option.bind_eq_some_iff.mp H
    obtain ⟨⟨t143, t144, t145⟩, A100, H⟩ := H
    replace H : (some (t143, t144, t145, true)) = some (r1, r2, r3, r4) := H
    have A10 := Aside0.mk A100
    clear A100
    simp only [Option.some.injEq, Prod.mk.injEq] at H
    obtain ⟨rfl, rfl, rfl, rfl⟩ := H
    go_enter Try.func31, Try.ntmps31
    go_wp2_with (first | ((with_reducible refine zaw (N := 4) rfl ?_); refine zas ?hg (N := 4) ?hd (cs := #[.string (⟨#[]⟩ : ByteArray), .int .i64 0, .slice none 0 0]) (t := 43) ?hr ?_; (case hd => rfl); (case hg => rfl); (case hr => first | (go_simp; done) | (go_simp; rfl)); intro gb140 hg w11 hbox hb; have n0_ := Aside0.mk (zah (by repeat (first | (with_reducible first | exact HB.out | apply zab | apply zad | apply zae) | exact HB.out)) hb); have n1_ := Aside0.mk (hbox); have n2_ := Aside0.mk ((by rw [hg]; exact (zao (by repeat (first | (with_reducible first | exact HB.out | apply zab | apply zad | apply zae) | exact HB.out))) : w.heap.size ≤ gb140)); have n3_ := Aside0.mk ((by rw [hg]; exact (zao (by repeat (first | (with_reducible first | exact HB.out | apply zab | apply zad | apply zae) | exact HB.out))) : w.heap.size ≤ gb140)); clear HB; have HB := n0_; have BK140 := n1_; have GW140 := n2_; have GE140 := n3_; clear n0_ n1_ n2_ n3_; clear hb hbox hg) | ((with_reducible refine zap (f := 34) rfl ?_); refine zau (some 9) rfl rfl Try.func34 (by kernel_rfl) rfl #[.slice A0 l0.length c0, .string a1] rfl (by (try simp only [List.map_toArray, List.map_cons, List.map_nil]); first | done | rfl | (simp only [List.length_drop, List.length_take]; rfl)) ?_; (with_reducible refine (registry_at.calls _ _ l0 a1 t141 _ ?side1 ?side2 A3.out).mono ?_); (case side1 => repeat (first | exact (Kd.C_below HR0.out HB.out) | (with_reducible refine Kd.C_alloc ?_ _) | (with_reducible refine Kd.C_drewN ?_ _) | (with_reducible refine Kd.C_drew ?_))); (case side2 => exact HC0.out); rintro e w12 ⟨rfl, hb⟩; refine ⟨_, rfl, ?_⟩; have n0_ := Aside0.mk (zak (g := gb140) (o := .cells #[.string (⟨#[]⟩ : ByteArray), .int .i64 0, .slice none 0 0] 43 (0, 0)) (by (with_reducible repeat (first | refine zai ?_ _ | refine zal ?_ | refine zag ?_ _)); exact BK140.out) hb); have n1_ := Aside0.mk (zah (by repeat (first | (with_reducible first | exact HB.out | apply zab | apply zad | apply zae | refine zaf ?_ GE140.out) | exact HB.out)) hb); clear BK140; clear HB; have BK140 := n0_; have HB := n1_; clear n0_ n1_; (try clear hb); (try clear hb2); (try clear hk); (try clear hi); have p142 : 0 ≤ (t141 : Int) := of_decide_eq_true (by first | (with_reducible assumption) | assumption); have q142 : t141 < (l0.length : Int) := of_decide_eq_true (by first | (with_reducible assumption) | assumption); obtain ⟨ad142, A142_2, c142_2, e142, hx142_0, hx142_1, hx142_2, hl142_2, hi142_2⟩ := at_TSchema HR0.out t141 p142 q142; cases e142; replace hx142_0 := (HB.out.cell (World.block_lt_of_cell? w _ hx142_0)).trans hx142_0; replace hx142_1 := (HB.out.cell (World.block_lt_of_cell? w _ hx142_1)).trans hx142_1; replace hx142_2 := (HB.out.cell (World.block_lt_of_cell? w _ hx142_2)).trans hx142_2; have HR142_2 := Aside0.mk hi142_2; have HC142_2 := Aside0.mk hl142_2; clear hi142_2 hl142_2; replace p142 := eq_true p142; replace q142 := eq_true q142) | ((with_reducible refine zap (f := 37) rfl ?_); refine zau (some 17) rfl rfl Try.func37 (by kernel_rfl) rfl #[.agg #[.string ((zaq l0 t141).f0), .int .i64 ((zaq l0 t141).f1), .slice A142_2 ((zaq l0 t141).f2).length c142_2]] rfl (by (try simp only [List.map_toArray, List.map_cons, List.map_nil]); first | done | rfl | (simp only [List.length_drop, List.length_take]; rfl)) ?_; (with_reducible refine (registry_own.calls ((zaq l0 t141).f0) ((zaq l0 t141).f1) _ _ ((zaq l0 t141).f2) t143 t144 t145 _ ?side1 ?side2 A10.out).mono ?_); (case side1 => repeat (first | exact (Kd.C_below HR142_2.out HB.out) | (with_reducible refine Kd.C_alloc ?_ _) | (with_reducible refine Kd.C_drewN ?_ _) | (with_reducible refine Kd.C_drew ?_))); (case side2 => exact HC142_2.out); rintro e w13 ⟨v146, rfl, ho0, hb⟩; refine ⟨_, rfl, ?_⟩; have n0_ := Aside0.mk (Kd.R_lower ho0 (zao (by repeat (first | (with_reducible first | exact HB.out | apply zab | apply zad | apply zae | refine zaf ?_ GE140.out) | exact HB.out)))); have n1_ := Aside0.mk (zak (g := gb140) (o := .cells #[.string (⟨#[]⟩ : ByteArray), .int .i64 0, .slice none 0 0] 43 (0, 0)) (by (with_reducible repeat (first | refine zai ?_ _ | refine zal ?_ | refine zag ?_ _)); exact BK140.out) hb); have n2_ := Aside0.mk (zah (by repeat (first | (with_reducible first | exact HB.out | apply zab | apply zad | apply zae | refine zaf ?_ GE140.out) | exact HB.out)) hb); clear BK140; clear HB; have HO147 := n0_; have BK140 := n1_; have HB := n2_; clear n0_ n1_ n2_; (try clear hb); (try clear hb2); (try clear hk); (try clear hi); (try clear ho0); have hcz14_0 : w13.cell? ⟨gb140, 0, none⟩ = some (.string (⟨#[]⟩ : ByteArray)) := (zac BK140.out 0).trans rfl; have hcz14_1 : w13.cell? ⟨gb140, 1, none⟩ = some (.int .i64 0) := (zac BK140.out 1).trans rfl; have hcz14_2 : w13.cell? ⟨gb140, 2, none⟩ = some (.slice none 0 0) := (zac BK140.out 2).trans rfl; have hfz14_0 := zaa BK140.out 0; have hfz14_1 := zaa BK140.out 1; have hfz14_2 := zaa BK140.out 2; obtain ⟨Ao15, co15, eo15⟩ := Kd.R_slice HO147.out; subst eo15))
    refine bodyPost_ret (results_ct rfl _ _ gb140 43 #[.string t143, .int .i64 t144, .slice Ao15 t145.length co15] (0, 0) _ rfl (by (with_reducible repeat (first | refine zai ?_ _ | refine zal ?_ | refine zag ?_ _)); refine zar (cs := #[.string t143, .int .i64 t144, .slice none 0 0]) ?_ 2 _ rfl; (with_reducible repeat (first | refine zai ?_ _ | refine zal ?_ | refine zag ?_ _)); refine zar (cs := #[.string t143, .int .i64 0, .slice none 0 0]) ?_ 1 _ rfl; (with_reducible repeat (first | refine zai ?_ _ | refine zal ?_ | refine zag ?_ _)); refine zar (cs := #[.string (⟨#[]⟩ : ByteArray), .int .i64 0, .slice none 0 0]) ?_ 0 _ rfl; (with_reducible repeat (first | refine zai ?_ _ | refine zal ?_ | refine zag ?_ _)); exact BK140.out) Try.underlying43 rfl (by kernel_rfl)) rfl ?_
    exact ⟨_, by first | rfl | (simp [zan, zam] <;> rfl) | (simp [*, zan, zam] <;> rfl), by (with_reducible repeat (first | apply Kd.R_alloc | apply Kd.R_drewN | apply Kd.R_drew)); exact Kd.R_mono (Kd.R_far (p := ⟨gb140, 2, none⟩) (Kd.R_far (p := ⟨gb140, 1, none⟩) (Kd.R_far (p := ⟨gb140, 0, none⟩) (Kd.R_types HO147.out BK140.out (by decide)) (fun _ hk => hk.2) (.string t143)) (fun _ hk => hk.2) (.int .i64 t144)) (fun _ hk => hk.2) (.slice Ao15 t145.length co15)) (fun _ hk => trivial), by repeat (first | (with_reducible first | exact HB.out | apply zab | apply zad | apply zae | refine zaf ?_ GE140.out) | exact HB.out)⟩
   ·rw [if_neg c9] at H
    exact absurd H (by simp)
  ·rw [if_neg c8] at H
   exact absurd H (by simp)
set_option maxHeartbeats 1000000 in
set_option maxRecDepth 100000 in
theorem of_told (x : SValue) (w : World) : Calls Try.prog 75 #[.agg #[.int .i64 x.f0, .int .i64 x.f1, .string x.f2]] w (valPost (thV x) w) := by
 unfold thV
 by_cases h0 : x.f0 = 0
 ·rw [if_pos h0]
  have h0b : (x.f0 == 0) = true := beq_iff_eq.2 h0
  go_enter Try.func75, Try.ntmps75
  go_wp2
  go_ret
  exact ⟨rfl, zab (Below.refl _ _) _⟩
 ·rw [if_neg h0]
  have h0b : (x.f0 == 0) = false := beq_eq_false_iff_ne.2 h0
  by_cases h1 : x.f0 = 1
  ·rw [if_pos h1]
   have h1b : (x.f0 == 1) = true := beq_iff_eq.2 h1
   go_enter Try.func75, Try.ntmps75
   go_wp2
   go_ret
   exact ⟨rfl, zab (Below.refl _ _) _⟩
  ·rw [if_neg h1]
   have h1b : (x.f0 == 1) = false := beq_eq_false_iff_ne.2 h1
   go_enter Try.func75, Try.ntmps75
   go_wp2
   go_ret
   exact ⟨rfl, zab (Below.refl _ _) _⟩
set_option maxHeartbeats 1000000 in
set_option maxRecDepth 100000 in
theorem part_push (w0 : World) (B : Nat) (Av : Option Addr) (cv : Nat) (vs : List SValue) (k : Bool) (xs : List SValue) (x : SOp) (w : World) (h : pileRel w0 B (.slice Av vs.length cv) k xs w) (hB : B < w0.heap.size) (hl : xs.length ≤ 1000) (hok : okVs xs) (hv : Kd.C kValue w Av vs.length vs) (hvk : okVs vs) (hx : okV x.f2) (hc : x.f0 = 0) : Calls Try.prog 71 #[.pointer (some ⟨B, 0, none⟩), .agg #[.int .i64 x.f0, .int .i64 x.f1, .int .i64 x.f2.f0, .int .i64 x.f2.f1, .string x.f2.f2]] w (zbp w0 B (.slice Av vs.length cv) k (.ok (xs ++ [x.f2]))) := by
 have HH := Aside0.mk h
 have hc0 : (x.f0 == 0) = true := beq_iff_eq.2 hc
 clear h hok hv hvk hx hc
 go_enter Try.func71, Try.ntmps71
 go_wp2_with fail
 go_at_call 75
 refine (of_told x.f2 _).mono ?_
 rintro e w1 ⟨rfl, hb1⟩
 have HP1 := Aside0.mk (HH.out.below (zah (zab (Below.refl _ _) _) hb1))
 clear hb1
 go_wp2_with fail
 go_at_call 74
 refine (lay_told w0 B _ k xs x.f2 _ HP1.out hB hl).mono ?_
 rintro e w2 ⟨rfl, hp2⟩
 have HP2 := Aside0.mk hp2
 clear hp2
 go_wp2_with fail
 go_ret
 exact ⟨rfl, HP2.out⟩
set_option maxHeartbeats 1000000 in
set_option maxRecDepth 100000 in
theorem part_none (w0 : World) (B : Nat) (Av : Option Addr) (cv : Nat) (vs : List SValue) (k : Bool) (xs : List SValue) (x : SOp) (w : World) (h : pileRel w0 B (.slice Av vs.length cv) k xs w) (hB : B < w0.heap.size) (hl : xs.length ≤ 1000) (hok : okVs xs) (hv : Kd.C kValue w Av vs.length vs) (hvk : okVs vs) (hx : okV x.f2) (hc : x.f0 = 1) (h0 : 0 ≤ x.f1) (hi : ¬ x.f1.toNat < vs.length) : Calls Try.prog 71 #[.pointer (some ⟨B, 0, none⟩), .agg #[.int .i64 x.f0, .int .i64 x.f1, .int .i64 x.f2.f0, .int .i64 x.f2.f1, .string x.f2.f2]] w (zbp w0 B (.slice Av vs.length cv) k (.error 3)) := by
 have HH := Aside0.mk h
 have hc0 : (x.f0 == 0) = false := beq_eq_false_iff_ne.2 (by omega)
 have hc1 : (x.f0 == 1) = true := beq_iff_eq.2 hc
 have hge : (vs.length : Int) ≤ x.f1 := by omega
 have hged : decide ((vs.length : Int) ≤ x.f1) = true := decide_eq_true hge
 obtain ⟨v, hb, ho, hs⟩ := h
 obtain ⟨A, c, rfl⟩ := Kd.R_slice ho
 unfold zbd at hb
 obtain ⟨k1, k2, k3, k4⟩ := know hb
 obtain ⟨q1, q2, q3, q4⟩ := know (zat w (.cells #[.int .i64 x.f0, .int .i64 x.f1, .int .i64 x.f2.f0, .int .i64 x.f2.f1, .string x.f2.f2] 75))
 have HK := Aside0.mk (zag hb (.cells #[.int .i64 x.f0, .int .i64 x.f1, .int .i64 x.f2.f0, .int .i64 x.f2.f1, .string x.f2.f2] 75))
 have hcp : ∀ m, ((w.alloc (.cells #[.int .i64 x.f0, .int .i64 x.f1, .int .i64 x.f2.f0, .int .i64 x.f2.f1, .string x.f2.f2] 75)).drewN m).cell? ⟨B, 1, none⟩ = some (.slice Av vs.length cv) := fun m => zac (zai HK.out m) 1
 have hcq : ∀ m, ((w.alloc (.cells #[.int .i64 x.f0, .int .i64 x.f1, .int .i64 x.f2.f0, .int .i64 x.f2.f1, .string x.f2.f2] 75)).drewN m).cell? ⟨w.heap.size, 1, none⟩ = some (.int .i64 x.f1) := fun m => zac (zai (zat w (.cells #[.int .i64 x.f0, .int .i64 x.f1, .int .i64 x.f2.f0, .int .i64 x.f2.f1, .string x.f2.f2] 75)) m) 1
 clear hok hv hvk hx hc ho hs hb
 go_enter Try.func71, Try.ntmps71
 go_wp2_with fail
 go_quiet (fail)
 go_wp2_with fail
 go_ret
 exact ⟨rfl, _, HH.out.below (zad (zab (Below.refl _ _) _) _)⟩
set_option maxHeartbeats 1000000 in
set_option maxRecDepth 100000 in
theorem part_load (w0 : World) (B : Nat) (Av : Option Addr) (cv : Nat) (vs : List SValue) (k : Bool) (xs : List SValue) (x : SOp) (w : World) (h : pileRel w0 B (.slice Av vs.length cv) k xs w) (hB : B < w0.heap.size) (hl : xs.length ≤ 1000) (hok : okVs xs) (hv : Kd.C kValue w Av vs.length vs) (hvk : okVs vs) (hx : okV x.f2) (hc : x.f0 = 1) (h0 : 0 ≤ x.f1) (hi : x.f1.toNat < vs.length) : Calls Try.prog 71 #[.pointer (some ⟨B, 0, none⟩), .agg #[.int .i64 x.f0, .int .i64 x.f1, .int .i64 x.f2.f0, .int .i64 x.f2.f1, .string x.f2.f2]] w (zbp w0 B (.slice Av vs.length cv) k (.ok (xs ++ [vs.getD x.f1.toNat zaL]))) := by
 have HH := Aside0.mk h
 have hc0 : (x.f0 == 0) = false := beq_eq_false_iff_ne.2 (by omega)
 have hc1 : (x.f0 == 1) = true := beq_iff_eq.2 hc
 have hge : ¬ (vs.length : Int) ≤ x.f1 := by omega
 have hged : decide ((vs.length : Int) ≤ x.f1) = false := decide_eq_false hge
 have hlt : x.f1 < (vs.length : Int) := by omega
 obtain ⟨v, hb, ho, hs⟩ := h
 obtain ⟨A, c, rfl⟩ := Kd.R_slice ho
 unfold zbd at hb
 obtain ⟨k1, k2, k3, k4⟩ := know hb
 obtain ⟨q1, q2, q3, q4⟩ := know (zat w (.cells #[.int .i64 x.f0, .int .i64 x.f1, .int .i64 x.f2.f0, .int .i64 x.f2.f1, .string x.f2.f2] 75))
 have HK := Aside0.mk (zag hb (.cells #[.int .i64 x.f0, .int .i64 x.f1, .int .i64 x.f2.f0, .int .i64 x.f2.f1, .string x.f2.f2] 75))
 have hcp : ∀ m, ((w.alloc (.cells #[.int .i64 x.f0, .int .i64 x.f1, .int .i64 x.f2.f0, .int .i64 x.f2.f1, .string x.f2.f2] 75)).drewN m).cell? ⟨B, 1, none⟩ = some (.slice Av vs.length cv) := fun m => zac (zai HK.out m) 1
 have hcq : ∀ m, ((w.alloc (.cells #[.int .i64 x.f0, .int .i64 x.f1, .int .i64 x.f2.f0, .int .i64 x.f2.f1, .string x.f2.f2] 75)).drewN m).cell? ⟨w.heap.size, 1, none⟩ = some (.int .i64 x.f1) := fun m => zac (zai (zat w (.cells #[.int .i64 x.f0, .int .i64 x.f1, .int .i64 x.f2.f0, .int .i64 x.f2.f1, .string x.f2.f2] 75)) m) 1
 obtain ⟨ad, e, z0, z1, z2⟩ := at_TValue hv x.f1 h0 hlt
 subst e
 rw [show rd_TValue vs x.f1 = vs.getD x.f1.toNat zaL from rfl] at z0 z1 z2
 obtain ⟨y, hy⟩ : ∃ y, vs.getD x.f1.toNat zaL = y := ⟨_, rfl⟩
 rw [hy] at z0 z1 z2 ⊢
 clear hok hv hvk hx hc ho hs hb hy
 go_enter Try.func71, Try.ntmps71
 go_wp2_with fail
 go_quiet (fail)
 go_wp2_with fail
 have HPQ := Aside0.mk (HH.out.below (zad (zab (Below.refl _ _) (.cells #[.int .i64 x.f0, .int .i64 x.f1, .int .i64 x.f2.f0, .int .i64 x.f2.f1, .string x.f2.f2] 75)) nq))
 have f1 := hcp nq
 have f2 := hcq nq
 have f3 : ((w.alloc (.cells #[.int .i64 x.f0, .int .i64 x.f1, .int .i64 x.f2.f0, .int .i64 x.f2.f1, .string x.f2.f2] 75)).drewN nq).cell? (ad.add (x.f1.toNat * 3)) = some (Value.int IntKind.i64 y.f0) := zaB (zad (zab (Below.refl _ _) (.cells #[.int .i64 x.f0, .int .i64 x.f1, .int .i64 x.f2.f0, .int .i64 x.f2.f1, .string x.f2.f2] 75)) nq) z0
 have f4 := zaB (zad (zab (Below.refl _ _) (.cells #[.int .i64 x.f0, .int .i64 x.f1, .int .i64 x.f2.f0, .int .i64 x.f2.f1, .string x.f2.f2] 75)) nq) z1
 have f5 := zaB (zad (zab (Below.refl _ _) (.cells #[.int .i64 x.f0, .int .i64 x.f1, .int .i64 x.f2.f0, .int .i64 x.f2.f1, .string x.f2.f2] 75)) nq) z2
 have HSZ := Aside0.mk (show w.heap.size < ((w.alloc (.cells #[.int .i64 x.f0, .int .i64 x.f1, .int .i64 x.f2.f0, .int .i64 x.f2.f1, .string x.f2.f2] 75)).drewN nq).heap.size by simp)
 obtain ⟨W1, hW1⟩ : ∃ W1, (w.alloc (.cells #[.int .i64 x.f0, .int .i64 x.f1, .int .i64 x.f2.f0, .int .i64 x.f2.f1, .string x.f2.f2] 75)).drewN nq = W1 := ⟨_, rfl⟩
 rw [hW1] at f1 f2 f3 f4 f5 HPQ ⊢
 clear q1 q2 q3 q4 k1 k2 k3 k4 HK hcp hcq z0 z1 z2 hW1 HSZ HH
 go_region_law (first
  | (go_simp; go_at_call 75; refine (of_told y _).mono ?_; rintro e w1 ⟨rfl, hb1⟩)
  | (go_simp; go_at_call 74; refine (lay_told w0 B _ k xs y _ (HPQ.out.below (zah (zaM (Below.refl _ _)) hb1)) hB hl).mono ?_; rintro e w2 ⟨rfl, hp2⟩))
 all_goals
  go_wp2_with fail
  go_ret
  exact ⟨rfl, hp2⟩
set_option maxHeartbeats 1000000 in
set_option maxRecDepth 100000 in
theorem part_not (w0 : World) (B : Nat) (Av : Option Addr) (cv : Nat) (vs : List SValue) (k : Bool) (xs : List SValue) (x : SOp) (w : World) (h : pileRel w0 B (.slice Av vs.length cv) k xs w) (hB : B < w0.heap.size) (hl : xs.length ≤ 1000) (hok : okVs xs) (hv : Kd.C kValue w Av vs.length vs) (hvk : okVs vs) (hx : okV x.f2) (hc : x.f0 = 9) {r : Except Int (List SValue)} (hr : stepV vs k x xs = r) : Calls Try.prog 71 #[.pointer (some ⟨B, 0, none⟩), .agg #[.int .i64 x.f0, .int .i64 x.f1, .int .i64 x.f2.f0, .int .i64 x.f2.f1, .string x.f2.f2]] w (zbp w0 B (.slice Av vs.length cv) k r) := by
 have HH := Aside0.mk h
 have hc0 : (x.f0 == 0) = false := beq_eq_false_iff_ne.2 (by omega)
 have hc1 : (x.f0 == 1) = false := beq_eq_false_iff_ne.2 (by omega)
 have hc9 : (x.f0 == 9) = true := beq_iff_eq.2 hc
 unfold stepV at hr
 rw [if_neg (by omega), if_neg (by omega), if_pos hc] at hr
 have HR := Aside0.mk hr
 clear h hv hvk hx hc hr
 go_enter Try.func71, Try.ntmps71
 go_wp2_with fail
 go_at_call 76
 refine (not_told w0 B _ k xs _ (HH.out.below (zab (Below.refl _ _) _)) hB hl hok HR.out).mono ?_
 intro e w1 hp
 unfold zbp at hp ⊢
 cases r with
 | ok q =>
  obtain ⟨rfl, hp1⟩ := hp
  go_wp2_with fail
  go_ret
  exact ⟨rfl, hp1⟩
 | error n =>
  obtain ⟨rfl, hp1⟩ := hp
  go_wp2_with fail
  go_ret
  exact ⟨rfl, hp1⟩
set_option maxHeartbeats 1000000 in
set_option maxRecDepth 100000 in
theorem part_few (w0 : World) (B : Nat) (Av : Option Addr) (cv : Nat) (vs : List SValue) (k : Bool) (xs : List SValue) (x : SOp) (w : World) (h : pileRel w0 B (.slice Av vs.length cv) k xs w) (hB : B < w0.heap.size) (hl : xs.length ≤ 1000) (hok : okVs xs) (hv : Kd.C kValue w Av vs.length vs) (hvk : okVs vs) (hx : okV x.f2) (hc0 : ¬ x.f0 = 0) (hc1 : ¬ x.f0 = 1) (hc9 : ¬ x.f0 = 9) (hn : xs.length < 2) : Calls Try.prog 71 #[.pointer (some ⟨B, 0, none⟩), .agg #[.int .i64 x.f0, .int .i64 x.f1, .int .i64 x.f2.f0, .int .i64 x.f2.f1, .string x.f2.f2]] w (zbp w0 B (.slice Av vs.length cv) k (.error 2)) := by
 have HH := Aside0.mk h
 have hd0 : (x.f0 == 0) = false := beq_eq_false_iff_ne.2 hc0
 have hd1 : (x.f0 == 1) = false := beq_eq_false_iff_ne.2 hc1
 have hd9 : (x.f0 == 9) = false := beq_eq_false_iff_ne.2 hc9
 clear h hv hvk hx hc0 hc1 hc9
 go_enter Try.func71, Try.ntmps71
 go_wp2_with fail
 go_at_call 77
 refine (take_no w0 B 2 _ k xs _ (HH.out.below (zab (Below.refl _ _) _)) hn (by decide)).mono ?_
 rintro e w1 ⟨rfl, rfl⟩
 go_wp2_with fail
 go_ret
 exact ⟨rfl, _, HH.out.below (zab (Below.refl _ _) _)⟩
theorem at_two {w : World} {ad : Addr} {xs : List SValue} {m : Nat} (h : Kd.C kThing w (some ad) 2 (xs.drop m)) (hm : xs.length = m + 2) : w.cell? ad = some (thV (xs.getD m zaL)) ∧ w.cell? ⟨ad.block, ad.off + 1, none⟩ = some (thV (xs.getD (m + 1) zaL)) := by
 have h0 := at_thing h 0 (by decide)
 have h1 := at_thing h 1 (by decide)
 rw [za4] at h0
 rw [zax _ _ 1 (by omega)] at h1
 have e0 : (xs.drop m).getD 0 zaL = xs.getD m zaL := by simp [List.getD]
 have e1 : (xs.drop m).getD 1 zaL = xs.getD (m + 1) zaL := by simp [List.getD]
 rw [e0] at h0
 rw [e1] at h1
 exact ⟨h0, h1⟩
set_option maxHeartbeats 20000000 in
set_option maxRecDepth 100000 in
theorem part_two (w0 : World) (B : Nat) (Av : Option Addr) (cv : Nat) (vs : List SValue) (k : Bool) (xs : List SValue) (x : SOp) (w : World) (h : pileRel w0 B (.slice Av vs.length cv) k xs w) (hB : B < w0.heap.size) (hl : xs.length ≤ 1000) (hok : okVs xs) (hv : Kd.C kValue w Av vs.length vs) (hvk : okVs vs) (hx : okV x.f2) (hc0 : ¬ x.f0 = 0) (hc1 : ¬ x.f0 = 1) (hc9 : ¬ x.f0 = 9) (hn : 2 ≤ xs.length) {y : SValue} (hr : twoV x.f0 (xs.getD (xs.length - 2) zaL) (xs.getD (xs.length - 1) zaL) = .ok y) : Calls Try.prog 71 #[.pointer (some ⟨B, 0, none⟩), .agg #[.int .i64 x.f0, .int .i64 x.f1, .int .i64 x.f2.f0, .int .i64 x.f2.f1, .string x.f2.f2]] w (zbp w0 B (.slice Av vs.length cv) k (.ok (xs.take (xs.length - 2) ++ [y]))) := by
 have HH := Aside0.mk h
 have hd0 : (x.f0 == 0) = false := beq_eq_false_iff_ne.2 hc0
 have hd1 : (x.f0 == 1) = false := beq_eq_false_iff_ne.2 hc1
 have hd9 : (x.f0 == 9) = false := beq_eq_false_iff_ne.2 hc9
 obtain ⟨m, hm⟩ : ∃ m, xs.length = m + 2 := ⟨xs.length - 2, by omega⟩
 rw [show xs.length - 2 = m from by omega, show xs.length - 1 = m + 1 from by omega] at hr
 have ha := okVs_at hok (i := m) (by omega)
 have hb := okVs_at hok (i := m + 1) (by omega)
 obtain ⟨a, hea⟩ : ∃ a, xs.getD m zaL = a := ⟨_, rfl⟩
 obtain ⟨b, heb⟩ : ∃ b, xs.getD (m + 1) zaL = b := ⟨_, rfl⟩
 rw [hea] at hr ha
 rw [heb] at hr hb
 have HA := Aside0.mk ha
 have HB := Aside0.mk hb
 have HEA := Aside0.mk hea
 have HEB := Aside0.mk heb
 have HRR := Aside0.mk hr
 have HX := Aside0.mk (zat w (.cells #[.int .i64 x.f0, .int .i64 x.f1, .int .i64 x.f2.f0, .int .i64 x.f2.f1, .string x.f2.f2] 75))
 clear h hv hvk hx hc0 hc1 hc9 ha hb hea heb hok hr
 go_enter Try.func71, Try.ntmps71
 go_wp2_with fail
 go_at_call 77
 refine (take_told w0 B 2 _ k xs _ (HH.out.below (zab (Below.refl _ _) (.cells #[.int .i64 x.f0, .int .i64 x.f1, .int .i64 x.f2.f0, .int .i64 x.f2.f1, .string x.f2.f2] 75))) hB (by decide) (by decide) hl (by omega)).mono ?_
 rintro e w1 ⟨A, c, ⟨rfl, hc, hC⟩, hp, hsp⟩
 rw [show xs.length - 2 = m from by omega] at hC
 have hne : ¬ w.heap.size = B := by have := HH.out.size; omega
 have HX1 := Aside0.mk (hsp.blk HX.out hne)
 obtain ⟨q1, q2, q3, q4⟩ := know HX1.out
 obtain ⟨d0, d1⟩ := at_two hC hm
 rw [HEA.out] at d0
 rw [HEB.out] at d1
 have d0' : w1.cell? (A.add 0) = some (thV a) := by rw [za4]; exact d0
 have HP := Aside0.mk hp
 obtain ⟨ta, va, hta⟩ := thV_iface a
 obtain ⟨tb, vb, htb⟩ := thV_iface b
 rw [hta] at d0 d0'
 rw [htb] at d1
 have HTW := Aside0.mk (fun W => two_told x.f0 a b W HA.out HB.out HRR.out)
 rw [hta, htb] at HTW
 clear hC hsp hp hne hta htb hc
 go_wp2_with fail
 have hq0 : w1.drew.cell? ⟨w.heap.size, 0, none⟩ = some (.int .i64 x.f0) := zac (zal HX1.out) 0
 have hdd0 : w1.drew.cell? A = some (.iface ta va) := d0
 have hdd1 : w1.drew.cell? ⟨A.block, A.off + 1, none⟩ = some (.iface tb vb) := d1
 have hdd2 : w1.drew.cell? (A.add 0) = some (.iface ta va) := d0'
 go_region_held3 (fun w' => w'.cell? ⟨w.heap.size, 0, none⟩ = some (.int .i64 x.f0) ∧ w'.cell? A = some (.iface ta va) ∧ w'.cell? ⟨A.block, A.off + 1, none⟩ = some (.iface tb vb) ∧ w'.cell? (A.add 0) = some (.iface ta va))
  (first | go_keep | (go_split_ands; refine ⟨?_, ?_, ?_, ?_⟩ <;> (first | assumption | (apply zaB; (first | exact hb2); assumption))))
  (first
   | (go_at_call 78; refine (HTW.out _).mono ?_; rintro e w2 ⟨rfl, hb2⟩))
 all_goals
  have HP2 := Aside0.mk (HP.out.below (zah (zaM (Below.refl _ _)) hb2))
  rw [show xs.length - 2 = m from by omega] at HP2
  obtain ⟨v2, hk2, ho2, hs2⟩ := HP2.out
  obtain ⟨A2, c2, rfl⟩ := Kd.R_slice ho2
  unfold zbd at hk2
  obtain ⟨j1, j2, j3, j4⟩ := know hk2
  clear hk2 ho2 hs2 hb2 q1 q2 q3 q4 d0 d1 d0'
  have HLY := Aside0.mk (fun W h => lay_told w0 B (.slice Av vs.length cv) k (xs.take m) y W h hB (by rw [List.length_take]; omega))
  cases k
  all_goals
   go_wp2_with fail
   go_at_call 74
   refine (HLY.out _ HP2.out).mono ?_
   rintro e w3 ⟨rfl, hp3⟩
   go_wp2_with fail
   go_ret
   exact ⟨rfl, by rw [show xs.length - 2 = m from by omega]; exact hp3⟩
set_option maxHeartbeats 1000000 in
set_option maxRecDepth 100000 in
theorem part_err (w0 : World) (B : Nat) (Av : Option Addr) (cv : Nat) (vs : List SValue) (k : Bool) (xs : List SValue) (x : SOp) (w : World) (h : pileRel w0 B (.slice Av vs.length cv) k xs w) (hB : B < w0.heap.size) (hl : xs.length ≤ 1000) (hok : okVs xs) (hv : Kd.C kValue w Av vs.length vs) (hvk : okVs vs) (hx : okV x.f2) (hc0 : ¬ x.f0 = 0) (hc1 : ¬ x.f0 = 1) (hc9 : ¬ x.f0 = 9) (hn : 2 ≤ xs.length) {n : Int} (hr : twoV x.f0 (xs.getD (xs.length - 2) zaL) (xs.getD (xs.length - 1) zaL) = .error n) (hk : ¬ (k = true ∧ n = 6)) (hn0 : n ≠ 0) : Calls Try.prog 71 #[.pointer (some ⟨B, 0, none⟩), .agg #[.int .i64 x.f0, .int .i64 x.f1, .int .i64 x.f2.f0, .int .i64 x.f2.f1, .string x.f2.f2]] w (zbp w0 B (.slice Av vs.length cv) k (.error n)) := by
 have HH := Aside0.mk h
 have hd0 : (x.f0 == 0) = false := beq_eq_false_iff_ne.2 hc0
 have hd1 : (x.f0 == 1) = false := beq_eq_false_iff_ne.2 hc1
 have hd9 : (x.f0 == 9) = false := beq_eq_false_iff_ne.2 hc9
 obtain ⟨m, hm⟩ : ∃ m, xs.length = m + 2 := ⟨xs.length - 2, by omega⟩
 rw [show xs.length - 2 = m from by omega, show xs.length - 1 = m + 1 from by omega] at hr
 have ha := okVs_at hok (i := m) (by omega)
 have hb := okVs_at hok (i := m + 1) (by omega)
 obtain ⟨a, hea⟩ : ∃ a, xs.getD m zaL = a := ⟨_, rfl⟩
 obtain ⟨b, heb⟩ : ∃ b, xs.getD (m + 1) zaL = b := ⟨_, rfl⟩
 rw [hea] at hr ha
 rw [heb] at hr hb
 have HA := Aside0.mk ha
 have HB := Aside0.mk hb
 have HEA := Aside0.mk hea
 have HEB := Aside0.mk heb
 have HRR := Aside0.mk hr
 have HX := Aside0.mk (zat w (.cells #[.int .i64 x.f0, .int .i64 x.f1, .int .i64 x.f2.f0, .int .i64 x.f2.f1, .string x.f2.f2] 75))
 clear h hv hvk hx hc0 hc1 hc9 ha hb hea heb hok hr
 go_enter Try.func71, Try.ntmps71
 go_wp2_with fail
 go_at_call 77
 refine (take_told w0 B 2 _ k xs _ (HH.out.below (zab (Below.refl _ _) (.cells #[.int .i64 x.f0, .int .i64 x.f1, .int .i64 x.f2.f0, .int .i64 x.f2.f1, .string x.f2.f2] 75))) hB (by decide) (by decide) hl (by omega)).mono ?_
 rintro e w1 ⟨A, c, ⟨rfl, hc, hC⟩, hp, hsp⟩
 rw [show xs.length - 2 = m from by omega] at hC
 have hne : ¬ w.heap.size = B := by have := HH.out.size; omega
 have HX1 := Aside0.mk (hsp.blk HX.out hne)
 obtain ⟨q1, q2, q3, q4⟩ := know HX1.out
 obtain ⟨d0, d1⟩ := at_two hC hm
 rw [HEA.out] at d0
 rw [HEB.out] at d1
 have d0' : w1.cell? (A.add 0) = some (thV a) := by rw [za4]; exact d0
 have HP := Aside0.mk hp
 obtain ⟨ta, va, hta⟩ := thV_iface a
 obtain ⟨tb, vb, htb⟩ := thV_iface b
 rw [hta] at d0 d0'
 rw [htb] at d1
 have HTW := Aside0.mk (fun W => two_told x.f0 a b W HA.out HB.out HRR.out)
 rw [hta, htb] at HTW
 clear hC hsp hp hne hta htb hc
 go_wp2_with fail
 have hq0 : w1.drew.cell? ⟨w.heap.size, 0, none⟩ = some (.int .i64 x.f0) := zac (zal HX1.out) 0
 have hdd0 : w1.drew.cell? A = some (.iface ta va) := d0
 have hdd1 : w1.drew.cell? ⟨A.block, A.off + 1, none⟩ = some (.iface tb vb) := d1
 have hdd2 : w1.drew.cell? (A.add 0) = some (.iface ta va) := d0'
 go_region_held3 (fun w' => w'.cell? ⟨w.heap.size, 0, none⟩ = some (.int .i64 x.f0) ∧ w'.cell? A = some (.iface ta va) ∧ w'.cell? ⟨A.block, A.off + 1, none⟩ = some (.iface tb vb) ∧ w'.cell? (A.add 0) = some (.iface ta va))
  (first | go_keep | (go_split_ands; refine ⟨?_, ?_, ?_, ?_⟩ <;> (first | assumption | (apply zaB; (first | exact hb2); assumption))))
  (first
   | (go_at_call 78; refine (HTW.out _).mono ?_; rintro e w2 ⟨rfl, hb2⟩))
 all_goals
  have HP2 := Aside0.mk (HP.out.below (zah (zaM (Below.refl _ _)) hb2))
  rw [show xs.length - 2 = m from by omega] at HP2
  obtain ⟨v2, hk2, ho2, hs2⟩ := HP2.out
  obtain ⟨A2, c2, rfl⟩ := Kd.R_slice ho2
  unfold zbd at hk2
  obtain ⟨j1, j2, j3, j4⟩ := know hk2
  clear hk2 ho2 hs2 hb2 q1 q2 q3 q4 d0 d1 d0'
  have hn0b : (n == 0) = false := beq_eq_false_iff_ne.2 hn0
  cases k
  ·go_wp2_with fail
   go_ret
   exact ⟨rfl, _, HP2.out⟩
  ·have hn6 : (n == 6) = false := beq_eq_false_iff_ne.2 (fun h => hk ⟨rfl, h⟩)
   go_wp2_with fail
   go_ret
   exact ⟨rfl, _, HP2.out⟩
set_option maxHeartbeats 1000000 in
set_option maxRecDepth 100000 in
theorem part_over (w0 : World) (B : Nat) (Av : Option Addr) (cv : Nat) (vs : List SValue) (k : Bool) (xs : List SValue) (x : SOp) (w : World) (h : pileRel w0 B (.slice Av vs.length cv) k xs w) (hB : B < w0.heap.size) (hl : xs.length ≤ 1000) (hok : okVs xs) (hv : Kd.C kValue w Av vs.length vs) (hvk : okVs vs) (hx : okV x.f2) (hc0 : ¬ x.f0 = 0) (hc1 : ¬ x.f0 = 1) (hc9 : ¬ x.f0 = 9) (hn : 2 ≤ xs.length) (hr : twoV x.f0 (xs.getD (xs.length - 2) zaL) (xs.getD (xs.length - 1) zaL) = .error 6) (hk : k = true) : Calls Try.prog 71 #[.pointer (some ⟨B, 0, none⟩), .agg #[.int .i64 x.f0, .int .i64 x.f1, .int .i64 x.f2.f0, .int .i64 x.f2.f1, .string x.f2.f2]] w (zbp w0 B (.slice Av vs.length cv) k (.ok (xs.take (xs.length - 2) ++ [zeroV]))) := by
 subst hk
 have HH := Aside0.mk h
 have hd0 : (x.f0 == 0) = false := beq_eq_false_iff_ne.2 hc0
 have hd1 : (x.f0 == 1) = false := beq_eq_false_iff_ne.2 hc1
 have hd9 : (x.f0 == 9) = false := beq_eq_false_iff_ne.2 hc9
 obtain ⟨m, hm⟩ : ∃ m, xs.length = m + 2 := ⟨xs.length - 2, by omega⟩
 rw [show xs.length - 2 = m from by omega, show xs.length - 1 = m + 1 from by omega] at hr
 have ha := okVs_at hok (i := m) (by omega)
 have hb := okVs_at hok (i := m + 1) (by omega)
 obtain ⟨a, hea⟩ : ∃ a, xs.getD m zaL = a := ⟨_, rfl⟩
 obtain ⟨b, heb⟩ : ∃ b, xs.getD (m + 1) zaL = b := ⟨_, rfl⟩
 rw [hea] at hr ha
 rw [heb] at hr hb
 have HA := Aside0.mk ha
 have HB := Aside0.mk hb
 have HEA := Aside0.mk hea
 have HEB := Aside0.mk heb
 have HRR := Aside0.mk hr
 have HX := Aside0.mk (zat w (.cells #[.int .i64 x.f0, .int .i64 x.f1, .int .i64 x.f2.f0, .int .i64 x.f2.f1, .string x.f2.f2] 75))
 clear h hv hvk hx hc0 hc1 hc9 ha hb hea heb hok hr
 go_enter Try.func71, Try.ntmps71
 go_wp2_with fail
 go_at_call 77
 refine (take_told w0 B 2 _ true xs _ (HH.out.below (zab (Below.refl _ _) (.cells #[.int .i64 x.f0, .int .i64 x.f1, .int .i64 x.f2.f0, .int .i64 x.f2.f1, .string x.f2.f2] 75))) hB (by decide) (by decide) hl (by omega)).mono ?_
 rintro e w1 ⟨A, c, ⟨rfl, hc, hC⟩, hp, hsp⟩
 rw [show xs.length - 2 = m from by omega] at hC
 have hne : ¬ w.heap.size = B := by have := HH.out.size; omega
 have HX1 := Aside0.mk (hsp.blk HX.out hne)
 obtain ⟨q1, q2, q3, q4⟩ := know HX1.out
 obtain ⟨d0, d1⟩ := at_two hC hm
 rw [HEA.out] at d0
 rw [HEB.out] at d1
 have d0' : w1.cell? (A.add 0) = some (thV a) := by rw [za4]; exact d0
 have HP := Aside0.mk hp
 obtain ⟨ta, va, hta⟩ := thV_iface a
 obtain ⟨tb, vb, htb⟩ := thV_iface b
 rw [hta] at d0 d0'
 rw [htb] at d1
 have HTW := Aside0.mk (fun W => two_told x.f0 a b W HA.out HB.out HRR.out)
 rw [hta, htb] at HTW
 clear hC hsp hp hne hta htb hc
 go_wp2_with fail
 have hq0 : w1.drew.cell? ⟨w.heap.size, 0, none⟩ = some (.int .i64 x.f0) := zac (zal HX1.out) 0
 have hdd0 : w1.drew.cell? A = some (.iface ta va) := d0
 have hdd1 : w1.drew.cell? ⟨A.block, A.off + 1, none⟩ = some (.iface tb vb) := d1
 have hdd2 : w1.drew.cell? (A.add 0) = some (.iface ta va) := d0'
 go_region_held3 (fun w' => w'.cell? ⟨w.heap.size, 0, none⟩ = some (.int .i64 x.f0) ∧ w'.cell? A = some (.iface ta va) ∧ w'.cell? ⟨A.block, A.off + 1, none⟩ = some (.iface tb vb) ∧ w'.cell? (A.add 0) = some (.iface ta va))
  (first | go_keep | (go_split_ands; refine ⟨?_, ?_, ?_, ?_⟩ <;> (first | assumption | (apply zaB; (first | exact hb2); assumption))))
  (first
   | (go_at_call 78; refine (HTW.out _).mono ?_; rintro e w2 ⟨rfl, hb2⟩))
 all_goals
  have HP2 := Aside0.mk (HP.out.below (zah (zaM (Below.refl _ _)) hb2))
  rw [show xs.length - 2 = m from by omega] at HP2
  obtain ⟨v2, hk2, ho2, hs2⟩ := HP2.out
  obtain ⟨A2, c2, rfl⟩ := Kd.R_slice ho2
  unfold zbd at hk2
  obtain ⟨j1, j2, j3, j4⟩ := know hk2
  clear hk2 ho2 hs2 hb2 q1 q2 q3 q4 d0 d1 d0'
  have HLY := Aside0.mk (fun W h => lay_told w0 B (.slice Av vs.length cv) true (xs.take m) zeroV W h hB (by rw [List.length_take]; omega))
  rw [show thV zeroV = .iface 131 (.int .i64 0) from rfl] at HLY
  go_wp2_with fail
  go_at_call 74
  refine (HLY.out _ HP2.out).mono ?_
  rintro e w3 ⟨rfl, hp3⟩
  go_wp2_with fail
  go_ret
  exact ⟨rfl, by rw [show xs.length - 2 = m from by omega]; exact hp3⟩
theorem twoV_err {code : Int} {a b : SValue} {n : Int} (h : twoV code a b = .error n) : n ≠ 0 := by
 unfold twoV at h
 repeat' split at h
 all_goals first
  | (obtain rfl := Except.error.inj h; decide)
  | cases h
theorem stepV_err {v : List SValue} {k : Bool} {x : SOp} {p : List SValue} {n : Int} (h : stepV v k x p = .error n) : n ≠ 0 := by
 unfold stepV at h
 repeat' split at h
 all_goals first
  | (obtain rfl := Except.error.inj h; first | decide | (rename_i ht _; exact twoV_err ht) | (rename_i ht; exact twoV_err ht))
  | cases h
theorem part_told (w0 : World) (B : Nat) (Av : Option Addr) (cv : Nat) (vs : List SValue) (k : Bool) (xs : List SValue) (x : SOp) (w : World) (h : pileRel w0 B (.slice Av vs.length cv) k xs w) (hB : B < w0.heap.size) (hl : xs.length ≤ 1000) (hok : okVs xs) (hv : Kd.C kValue w Av vs.length vs) (hvk : okVs vs) (hx : okV x.f2) (h0 : 0 ≤ x.f1) {r : Except Int (List SValue)} (hr : stepV vs k x xs = r) : Calls Try.prog 71 #[.pointer (some ⟨B, 0, none⟩), .agg #[.int .i64 x.f0, .int .i64 x.f1, .int .i64 x.f2.f0, .int .i64 x.f2.f1, .string x.f2.f2]] w (zbp w0 B (.slice Av vs.length cv) k r) := by
 have hr0 := hr
 unfold stepV at hr
 by_cases c0 : x.f0 = 0
 ·rw [if_pos c0] at hr; subst hr; exact part_push w0 B Av cv vs k xs x w h hB hl hok hv hvk hx c0
 rw [if_neg c0] at hr
 by_cases c1 : x.f0 = 1
 ·rw [if_pos c1] at hr
  by_cases hi : x.f1.toNat < vs.length
  ·rw [if_pos hi] at hr; subst hr; exact part_load w0 B Av cv vs k xs x w h hB hl hok hv hvk hx c1 h0 hi
  ·rw [if_neg hi] at hr; subst hr; exact part_none w0 B Av cv vs k xs x w h hB hl hok hv hvk hx c1 h0 hi
 rw [if_neg c1] at hr
 by_cases c9 : x.f0 = 9
 ·exact part_not w0 B Av cv vs k xs x w h hB hl hok hv hvk hx c9 hr0
 rw [if_neg c9] at hr
 by_cases hn : xs.length < 2
 ·rw [if_pos hn] at hr; subst hr; exact part_few w0 B Av cv vs k xs x w h hB hl hok hv hvk hx c0 c1 c9 hn
 rw [if_neg hn] at hr
 cases ht : twoV x.f0 (xs.getD (xs.length - 2) zaL) (xs.getD (xs.length - 1) zaL) with
 | ok y => rw [ht] at hr; subst hr; exact part_two w0 B Av cv vs k xs x w h hB hl hok hv hvk hx c0 c1 c9 (by omega) ht
 | error n =>
  rw [ht] at hr
  by_cases hk : k = true ∧ n = 6
  ·replace hr : (if k = true ∧ n = 6 then .ok (xs.take (xs.length - 2) ++ [zeroV]) else .error n : Except Int (List SValue)) = r := hr
   rw [if_pos hk] at hr
   subst hr
   obtain ⟨hk1, rfl⟩ := hk
   exact part_over w0 B Av cv vs k xs x w h hB hl hok hv hvk hx c0 c1 c9 (by omega) ht hk1
  ·replace hr : (if k = true ∧ n = 6 then .ok (xs.take (xs.length - 2) ++ [zeroV]) else .error n : Except Int (List SValue)) = r := hr
   rw [if_neg hk] at hr
   subst hr
   exact part_err w0 B Av cv vs k xs x w h hB hl hok hv hvk hx c0 c1 c9 (by omega) ht hk (twoV_err ht)
def throughRel (vs : List SValue) (k : Bool) (l : List SOp) (V : Value) (w0 : World) (B i : Nat) (w' : World) : Prop := ∃ p, i ≤ l.length ∧ okVs p ∧ p.length ≤ i ∧ runV vs k l [] = runV vs k (l.drop i) p ∧ pileRel w0 B V k p w'
def throughPost (y : SValue) (n : Int) (B : Nat) (w : World) (e : Ending) (w' : World) : Prop := e = .returned (.tuple #[.agg #[.int .i64 y.f0, .int .i64 y.f1, .string y.f2], .int .i64 n]) ∧ Spares (fun i => i = B) w w'
theorem Spares.old {S : Nat → Prop} {w w1 : World} {o : Obj} (h : Spares S (w.alloc o) w1) : Spares S w w1 := (Spares.of_below (zab (Below.refl _ _) o)).trans h
set_option maxHeartbeats 8000000 in
set_option maxRecDepth 100000 in
theorem through_told (w : World) (B : Nat) (Av : Option Addr) (cv : Nat) (vs : List SValue) (k : Bool) (Al : Option Addr) (cl : Nat) (l : List SOp) (hb : w.heap[B]? = some (zbd (.slice none 0 0) (.slice Av vs.length cv) k)) (hvs : ∀ w', Spares (fun i => i = B) w w' → Kd.C kValue w' Av vs.length vs) (hls : ∀ w', Spares (fun i => i = B) w w' → Kd.C kOp w' Al l.length l) (hc : l.length ≤ cl) (hvk : okVs vs) (hm : mayO l = true) (hi64 : ∀ x ∈ l, i64V x.f2) {y : SValue} {n : Int} (hr : endV (runV vs k l []) = (y, n)) :
  Calls Try.prog 62 #[.pointer (some ⟨B, 0, none⟩), .slice Al l.length cl] w (throughPost y n B w) := by
 have hlen := (mayO_iff.1 hm).1
 have HMP := Aside0.mk (mayO_iff.1 hm).2
 have HI := Aside0.mk hi64
 have HVS := Aside0.mk hvs
 have HLS := Aside0.mk hls
 have HVK := Aside0.mk hvk
 have HR := Aside0.mk hr
 have hBw : B < w.heap.size := zaA hb
 obtain ⟨o, ho⟩ : ∃ o : Obj, (.cells #[.int .i64 0, .int .i64 0, .string ⟨#[]⟩] 73) = o := ⟨_, rfl⟩
 have HO := Aside0.mk ho
 have HP0 : Aside0 (pileRel (w.alloc o) B (.slice Av vs.length cv) k [] (w.alloc o)) := ⟨⟨_, zag hb o, Kd.R_nil _ _ _ _ _, Spares.refl _ _⟩⟩
 have HNEW := Aside0.mk (zat w o)
 have HB2 : Aside0 (B < (w.alloc o).heap.size) := ⟨by rw [World.size_alloc]; omega⟩
 have HWB : Aside0 (w.heap.size < (w.alloc o).heap.size ∧ ¬ w.heap.size = B) := ⟨by rw [World.size_alloc]; omega, by omega⟩
 subst ho
 clear hb hvs hls hvk hm hi64 hr
 go_enter Try.func62, Try.ntmps62
 go_wp2
 go_loopw [7, 8, 11] (fun _ _ v11 w' => ∃ i : Nat, v11 = .int .i64 i ∧ throughRel vs k l (.slice Av vs.length cv) (w.alloc (.cells #[.int .i64 0, .int .i64 0, .string ⟨#[]⟩] 73)) B i w') (fun _ _ i _ => l.length - (intOf i).toNat)
 case atStart => exact ⟨0, rfl, [], Nat.zero_le _, okVs_nil, Nat.le_refl _, rfl, HP0.out⟩
 case round =>
  obtain ⟨i, rfl, p, hi, hok, hpl, hrun, hp⟩ := hrel
  have HP := Aside0.mk hp
  have HRUN := Aside0.mk hrun
  have HOK := Aside0.mk hok
  have HLR := Aside0.mk (HLS.out wr (by obtain ⟨_, _, _, hs⟩ := hp; exact hs.old))
  have HVR := Aside0.mk (HVS.out wr (by obtain ⟨_, _, _, hs⟩ := hp; exact hs.old))
  clear hp hrun hok HP0
  by_cases hlt : i < l.length
  ·obtain ⟨ad, e, z0, z1, z2, z3, z4⟩ := at_TOp HLR.out (i : Int) (by omega) (by omega)
   subst e
   simp only [Int.toNat_natCast] at z0 z1 z2 z3 z4
   rw [show zaD l (i : Int) = l.getD i zOp from rfl] at z0 z1 z2 z3 z4
   have hin := getD_in zOp hlt
   have HDR := Aside0.mk (drop_cons zOp l hlt)
   have hmp := HMP.out _ hin
   have hix := HI.out _ hin
   obtain ⟨x, hx⟩ : ∃ x, l.getD i zOp = x := ⟨_, rfl⟩
   rw [hx] at z0 z1 z2 z3 z4 hmp hix
   rw [hx] at HDR
   have hmq := mayP_iff.1 hmp
   have HKX : Aside0 (okV x.f2) := ⟨⟨hmq.2.2.2.2.2.2, hix⟩⟩
   have h0 := hmq.2.2.1
   cases hst : stepV vs k x p with
   | error m =>
    have hfin : endV (runV vs k l []) = (zeroV, m) := by rw [HRUN.out, HDR.out, runV_stop hst]; rfl
    rw [HR.out] at hfin
    simp only [Prod.mk.injEq] at hfin
    obtain ⟨rfl, rfl⟩ := hfin
    have HST := Aside0.mk hst
    have hn0 : (n != 0) = true := by rw [bne_iff_ne]; exact stepV_err hst
    have hn1 : (n == 0) = false := by rw [beq_eq_false_iff_ne]; exact stepV_err hst
    clear hst hmp hmq hix hin hx
    go_wp2_with fail
    go_at_call 71
    refine (part_told (w.alloc (.cells #[.int .i64 0, .int .i64 0, .string ⟨#[]⟩] 73)) B Av cv vs k p x _ (HP.out.below (zab (Below.refl _ _) _)) HB2.out (by omega) HOK.out (Kd.C_below HVR.out (zab (Below.refl _ _) _)) HVK.out HKX.out h0 HST.out).mono ?_
    rintro e w1 ⟨rfl, q, hq⟩
    have HQ := Aside0.mk hq
    obtain ⟨_, _, _, hs⟩ := hq
    have HZ := Aside0.mk (hs.blk HNEW.out HWB.out.2)
    obtain ⟨j1, j2, j3, j4⟩ := know HZ.out
    have HSP := Aside0.mk hs.old
    clear hs
    have hfz := zbt HZ.out (.int .i64 0) (.int .i64 0) (.string ⟨#[]⟩)
    have hz0 := zac hfz 0
    have hz1 := zac hfz 1
    have hz2 := zac hfz 2
    go_wp2_with fail
    exact bodyPost_ret (v := .tuple #[.agg #[.int .i64 0, .int .i64 0, .string ⟨#[]⟩], .int .i64 n]) (by simp [results, Try.results62, go_sem, hz0, hz1, hz2]) rfl ⟨rfl, Spares.set (Spares.set (HSP.out.set 0 (.inr (Nat.le_refl _)) _) 1 (.inr (Nat.le_refl _)) _) 2 (.inr (Nat.le_refl _)) _⟩
   | ok q =>
    have hq2 := stepV_ok HVK.out HKX.out HOK.out hst
    have hql := stepV_len hst
    have HNX : Aside0 (runV vs k l [] = runV vs k (l.drop (i + 1)) q) := ⟨by rw [HRUN.out, HDR.out, runV_cons hst]⟩
    have HQK := Aside0.mk hq2
    have HST := Aside0.mk hst
    clear hst hmp hmq hix hin hx hq2
    go_wp2_with fail
    go_at_call 71
    refine (part_told (w.alloc (.cells #[.int .i64 0, .int .i64 0, .string ⟨#[]⟩] 73)) B Av cv vs k p x _ (HP.out.below (zab (Below.refl _ _) _)) HB2.out (by omega) HOK.out (Kd.C_below HVR.out (zab (Below.refl _ _) _)) HVK.out HKX.out h0 HST.out).mono ?_
    rintro e w1 ⟨rfl, hq⟩
    have HQ := Aside0.mk hq
    clear hq
    go_wp2_with fail
    go_roundw
    case rel => exact ⟨i + 1, by go_num, q, by omega, HQK.out, by omega, HNX.out, HQ.out⟩
    case measure => simp [intOf]; omega
  ·obtain rfl : i = l.length := by omega
   have hrun := HRUN.out
   rw [List.drop_length] at hrun
   have hfin : endV (.ok p) = (y, n) := by rw [← HR.out, hrun]; rfl
   obtain ⟨v, hbk, hro, hsp⟩ := HP.out
   obtain ⟨A, c, rfl, hAc, hrd⟩ := Kd.R_reads hro
   unfold zbd at hbk
   have HZ := Aside0.mk (hsp.blk HNEW.out HWB.out.2)
   obtain ⟨j1, j2, j3, j4⟩ := know HZ.out
   obtain ⟨k1, k2, k3, k4⟩ := know hbk
   have HSP := Aside0.mk hsp.old
   have HOKP := Aside0.mk HOK.out
   clear hbk hro hsp hrun
   match p, hfin, hrd with
   | [], hfin, hrd =>
    simp only [endV, Prod.mk.injEq] at hfin
    obtain ⟨rfl, rfl⟩ := hfin
    have hfz := zbt HZ.out (.int .i64 0) (.int .i64 0) (.string ⟨#[]⟩)
    have hz0 := zac hfz 0
    have hz1 := zac hfz 1
    have hz2 := zac hfz 2
    go_wp2_with fail
    exact bodyPost_ret (v := .tuple #[.agg #[.int .i64 0, .int .i64 0, .string ⟨#[]⟩], .int .i64 2]) (by simp [results, Try.results62, go_sem, hz0, hz1, hz2]) rfl ⟨rfl, Spares.set (Spares.set (HSP.out.set 0 (.inr (Nat.le_refl _)) _) 1 (.inr (Nat.le_refl _)) _) 2 (.inr (Nat.le_refl _)) _⟩
   | [x], hfin, hrd =>
    simp only [endV, Prod.mk.injEq] at hfin
    obtain ⟨rfl, rfl⟩ := hfin
    obtain ⟨ad, e, _⟩ := hrd.2.2 (show 0 < 1 by decide)
    subst e
    have hat := at_thing hrd 0 (show 0 < 1 by decide)
    have hat2 : wr.cell? (ad.add 0) = some (thV x) := hat
    have hat3 : wr.cell? ad = some (thV x) := by rw [za4] at hat2; exact hat2
    obtain ⟨t, v, f, hx1, hx2, hx3, hx4, _⟩ := zaK (HOKP.out x (List.mem_singleton.2 rfl)).1
    have HX4 := Aside0.mk hx4
    rw [hx1] at hat2 hat3
    clear hat hrd hx4 hx1
    go_wp2_with fail
    refine (HX4.out _).mono ?_
    rintro e w1 ⟨rfl, hb1⟩
    have HZ1 := Aside0.mk (zak HZ.out hb1)
    have HSP1 := Aside0.mk (HSP.out.step hb1)
    obtain ⟨i1, i2, i3, i4⟩ := know HZ1.out
    have hfz := zbt HZ1.out (.int .i64 x.f0) (.int .i64 x.f1) (.string x.f2)
    have hz0 := zac hfz 0
    have hz1 := zac hfz 1
    have hz2 := zac hfz 2
    clear hb1
    go_wp2_with fail
    exact bodyPost_ret (v := .tuple #[.agg #[.int .i64 x.f0, .int .i64 x.f1, .string x.f2], .int .i64 0]) (by simp [results, Try.results62, go_sem, hz0, hz1, hz2]) rfl ⟨rfl, Spares.set (Spares.set (HSP1.out.set 0 (.inr (Nat.le_refl _)) _) 1 (.inr (Nat.le_refl _)) _) 2 (.inr (Nat.le_refl _)) _⟩
   | x :: z :: q, hfin, hrd =>
    simp only [endV, Prod.mk.injEq] at hfin
    obtain ⟨rfl, rfl⟩ := hfin
    have hl2 : ((x :: z :: q).length : Int) = (q.length : Int) + 2 := by simp only [List.length_cons]; omega
    have hne : ((x :: z :: q).length : Int) ≠ 1 := by omega
    have hne2 : (((x :: z :: q).length : Int) != 1) = true := bne_iff_ne.2 hne
    have hne3 : (((x :: z :: q).length : Int) == 1) = false := beq_eq_false_iff_ne.2 hne
    clear hrd hl2 hne
    generalize (x :: z :: q).length = len at *
    have hfz := zbt HZ.out (.int .i64 0) (.int .i64 0) (.string ⟨#[]⟩)
    have hz0 := zac hfz 0
    have hz1 := zac hfz 1
    have hz2 := zac hfz 2
    go_wp2_with fail
    exact bodyPost_ret (v := .tuple #[.agg #[.int .i64 0, .int .i64 0, .string ⟨#[]⟩], .int .i64 2]) (by simp [results, Try.results62, go_sem, hz0, hz1, hz2]) rfl ⟨rfl, Spares.set (Spares.set (HSP.out.set 0 (.inr (Nat.le_refl _)) _) 1 (.inr (Nat.le_refl _)) _) 2 (.inr (Nat.le_refl _)) _⟩
def kindPost (y n : Int) (w : World) (e : Ending) (w' : World) : Prop := e = .returned (.tuple #[.int .i64 y, .int .i64 n]) ∧ Below w.heap.size w w'
def kindRel (F : List SField) (w : World) (B i : Nat) (w' : World) : Prop := ∃ v, i ≤ F.length ∧ w'.heap[B]? = some (zbd (.slice none 0 0) v true) ∧ Kd.R kValue 73 w' w.heap.size (fun _ => True) v ((F.take i).map fun f => (⟨f.f1, 0, ⟨#[]⟩⟩ : SValue)) ∧ Below w.heap.size w w'
theorem value_types : ∀ q, q ∈ 73 :: kValue.E → q ≠ 105 := by decide
theorem kindsOf_ok {x : SSchema} (h : mayS x = true) : okVs (kindsOf x) ∧ x.f2.length ≤ 6 := by
 obtain ⟨_, _, _, h6, hF⟩ := mayS_iff8.1 h
 refine ⟨fun v hv => ?_, h6⟩
 unfold kindsOf at hv
 obtain ⟨f, hf, rfl⟩ := List.mem_map.1 hv
 obtain ⟨i, hi, rfl⟩ := List.mem_iff_getElem.1 hf
 have hk := fieldOK_parts (hF i hi)
 rw [show x.f2.getD i za8 = x.f2[i] from by simp [List.getD, hi]] at hk
 have he : (⟨#[]⟩ : ByteArray).toList = [] := by decide +kernel
 have hs : (⟨#[]⟩ : ByteArray).size = 0 := rfl
 obtain ⟨_, hk0, hk4⟩ := hk
 refine ⟨mayV_iff.2 ?_, show -9223372036854775808 ≤ (0 : Int) ∧ (0 : Int) ≤ 9223372036854775807 by decide⟩
 show (x.f2[i].f1 = 0 ∧ (⟨#[]⟩ : ByteArray).toList = []) ∨ (x.f2[i].f1 = 1 ∧ (⟨#[]⟩ : ByteArray).toList = [] ∧ (0 : Int) ≤ 0 ∧ (0 : Int) < 2) ∨ (x.f2[i].f1 = 2 ∧ (0 : Int) = 0 ∧ (⟨#[]⟩ : ByteArray).size ≤ 40) ∨ (x.f2[i].f1 = 3 ∧ (⟨#[]⟩ : ByteArray).toList = [] ∧ (0 : Int) ≤ 0 ∧ (0 : Int) ≤ 1125899906842624)
 rw [he, hs]
 have h4 : x.f2[i].f1 = 0 ∨ x.f2[i].f1 = 1 ∨ x.f2[i].f1 = 2 ∨ x.f2[i].f1 = 3 := by omega
 rcases h4 with h | h | h | h
 ·exact .inl ⟨h, rfl⟩
 ·exact .inr (.inl ⟨h, rfl, by decide, by decide⟩)
 ·exact .inr (.inr (.inl ⟨h, rfl, by decide⟩))
 ·exact .inr (.inr (.inr ⟨h, rfl, by decide, by decide⟩))
set_option maxHeartbeats 1000000 in
set_option maxRecDepth 100000 in
theorem kind_no1 (x : SSchema) (A : Option Addr) (c : Nat) (l : List SOp) (Al : Option Addr) (cl : Nat) (w : World) (hr : Kd.C kField w A x.f2.length x.f2) (hc : x.f2.length ≤ c) (hl : Kd.C kOp w Al l.length l) (hlc : l.length ≤ cl) (hwl : ∀ x ∈ l, i64V x.f2) (h1 : mayS x = false) : Calls Try.prog 47 #[.agg #[.string x.f0, .int .i64 x.f1, .slice A x.f2.length c], .slice Al l.length cl] w (kindPost 0 1 w) := by
 have HR := Aside0.mk hr
 have HC := Aside0.mk hc
 have HL := Aside0.mk hl
 have HLC := Aside0.mk hlc
 have HWL := Aside0.mk hwl
 have HM1 := Aside0.mk (show schema_May.f x.f0 x.f1 x.f2 = some (mayS x) from rfl)
 rw [h1] at HM1
 clear hr hc hl hlc hwl h1
 go_enter Try.func47, Try.ntmps47
 go_wp2_with fail
 go_at_call 33
 refine (schema_May.calls x.f0 x.f1 A c x.f2 _ _ (Kd.C_below HR.out (zab (Below.refl _ _) _)) HC.out HM1.out).mono ?_
 rintro e w1_ ⟨rfl, hb1_⟩
 have HB1_ := Aside0.mk (zah (zab (Below.refl _ _) _) hb1_)
 have HKs1_ := Aside0.mk (zak (zat _ _) hb1_)
 obtain ⟨ks1a_, ks1b_, ks1c_, ks1d_⟩ := know HKs1_.out
 clear hb1_
 go_wp2_with fail
 go_ret2
 exact ⟨rfl, HB1_.out⟩
set_option maxHeartbeats 1000000 in
set_option maxRecDepth 100000 in
theorem kind_no2 (x : SSchema) (A : Option Addr) (c : Nat) (l : List SOp) (Al : Option Addr) (cl : Nat) (w : World) (hr : Kd.C kField w A x.f2.length x.f2) (hc : x.f2.length ≤ c) (hl : Kd.C kOp w Al l.length l) (hlc : l.length ≤ cl) (hwl : ∀ x ∈ l, i64V x.f2) (h1 : mayS x = true) (h2 : mayO l = false) : Calls Try.prog 47 #[.agg #[.string x.f0, .int .i64 x.f1, .slice A x.f2.length c], .slice Al l.length cl] w (kindPost 0 1 w) := by
 have HR := Aside0.mk hr
 have HC := Aside0.mk hc
 have HL := Aside0.mk hl
 have HLC := Aside0.mk hlc
 have HWL := Aside0.mk hwl
 have HM1 := Aside0.mk (show schema_May.f x.f0 x.f1 x.f2 = some (mayS x) from rfl)
 rw [h1] at HM1
 have HM2 := Aside0.mk h2
 clear hr hc hl hlc hwl h1 h2
 go_enter Try.func47, Try.ntmps47
 go_wp2_with fail
 go_at_call 33
 refine (schema_May.calls x.f0 x.f1 A c x.f2 _ _ (Kd.C_below HR.out (zab (Below.refl _ _) _)) HC.out HM1.out).mono ?_
 rintro e w1_ ⟨rfl, hb1_⟩
 have HB1_ := Aside0.mk (zah (zab (Below.refl _ _) _) hb1_)
 have HKs1_ := Aside0.mk (zak (zat _ _) hb1_)
 obtain ⟨ks1a_, ks1b_, ks1c_, ks1d_⟩ := know HKs1_.out
 clear hb1_
 go_wp2_with fail
 go_at_call 58
 refine (mayO_told l Al cl _ (Kd.C_below HL.out (HB1_.out)) HLC.out HWL.out HM2.out).mono ?_
 rintro e w2_ ⟨rfl, hb2_⟩
 have HB2_ := Aside0.mk (zah (HB1_.out) hb2_)
 have HKs2_ := Aside0.mk (zak (HKs1_.out) hb2_)
 obtain ⟨ks2a_, ks2b_, ks2c_, ks2d_⟩ := know HKs2_.out
 clear ks1a_ ks1b_ ks1c_ ks1d_
 clear hb2_
 go_wp2_with fail
 go_ret2
 exact ⟨rfl, HB2_.out⟩
set_option maxHeartbeats 8000000 in
set_option maxRecDepth 100000 in
theorem kind_go (x : SSchema) (A : Option Addr) (c : Nat) (l : List SOp) (Al : Option Addr) (cl : Nat) (w : World) (hr : Kd.C kField w A x.f2.length x.f2) (hc : x.f2.length ≤ c) (hl : Kd.C kOp w Al l.length l) (hlc : l.length ≤ cl) (hwl : ∀ x ∈ l, i64V x.f2) (h1 : mayS x = true) (h2 : mayO l = true) {y : SValue} {n : Int} (hq : endV (runV (kindsOf x) true l []) = (y, n)) : Calls Try.prog 47 #[.agg #[.string x.f0, .int .i64 x.f1, .slice A x.f2.length c], .slice Al l.length cl] w (kindPost y.f0 n w) := by
 have HR := Aside0.mk hr
 have HC := Aside0.mk hc
 have HL := Aside0.mk hl
 have HLC := Aside0.mk hlc
 have HWL := Aside0.mk hwl
 have HM1 := Aside0.mk (show schema_May.f x.f0 x.f1 x.f2 = some (mayS x) from rfl)
 rw [h1] at HM1
 have HM2 := Aside0.mk h2
 have HOK := Aside0.mk (kindsOf_ok h1).1
 have hl6 := (kindsOf_ok h1).2
 have HEV := Aside0.mk hq
 clear hr hc hl hlc hwl h1 h2 hq
 go_enter Try.func47, Try.ntmps47
 go_wp2_with fail
 go_at_call 33
 refine (schema_May.calls x.f0 x.f1 A c x.f2 _ _ (Kd.C_below HR.out (zab (Below.refl _ _) _)) HC.out HM1.out).mono ?_
 rintro e w1_ ⟨rfl, hb1_⟩
 have HB1_ := Aside0.mk (zah (zab (Below.refl _ _) _) hb1_)
 have HKs1_ := Aside0.mk (zak (zat _ _) hb1_)
 obtain ⟨ks1a_, ks1b_, ks1c_, ks1d_⟩ := know HKs1_.out
 clear hb1_
 go_wp2_with fail
 go_at_call 58
 refine (mayO_told l Al cl _ (Kd.C_below HL.out (HB1_.out)) HLC.out HWL.out HM2.out).mono ?_
 rintro e w2_ ⟨rfl, hb2_⟩
 have HB2_ := Aside0.mk (zah (HB1_.out) hb2_)
 have HKs2_ := Aside0.mk (zak (HKs1_.out) hb2_)
 obtain ⟨ks2a_, ks2b_, ks2c_, ks2d_⟩ := know HKs2_.out
 clear ks1a_ ks1b_ ks1c_ ks1d_
 clear hb2_
 go_wp2_with fail
 have HPB := Aside0.mk (zat w2_ (zbd (.slice none 0 0) (.slice none 0 0) true))
 have HBL := Aside0.mk (zab (HB2_.out) (zbd (.slice none 0 0) (.slice none 0 0) true))
 have HLE := Aside0.mk (zao (HB2_.out))
 clear ks2a_ ks2b_ ks2c_ ks2d_
 generalize w2_.heap.size = B at *
 go_loopw [8, 24] (fun _ v24 w' => ∃ i : Nat, v24 = .int .i64 i ∧ kindRel x.f2 w B i w') (fun _ i _ => x.f2.length - (intOf i).toNat)
 case atStart => exact ⟨0, rfl, _, Nat.zero_le _, HPB.out, Kd.R_nil _ _ _ _ _, HBL.out⟩
 case round =>
  obtain ⟨i, rfl, v, hi, hk, ho, hb⟩ := hrel
  have HK := Aside0.mk hk
  have HO := Aside0.mk ho
  have HB := Aside0.mk hb
  obtain ⟨A0, c0, rfl⟩ := Kd.R_slice ho
  clear ho hb HPB HBL
  by_cases hlt : i < x.f2.length
  ·obtain ⟨ad, e, z0, z1⟩ := at_TField (Kd.C_below HR.out HB.out) (i : Int) (by omega) (by omega)
   cases e
   simp only [Int.toNat_natCast] at z0 z1
   rw [show zbc x.f2 (i : Int) = x.f2.getD i za8 from rfl] at z0 z1
   have HT := Aside0.mk (take_snoc za8 x.f2 i hlt)
   generalize x.f2.getD i za8 = f at *
   have hml : (List.map (fun f => (⟨f.f1, 0, ⟨#[]⟩⟩ : SValue)) (x.f2.take i)).length = i := by rw [List.length_map, List.length_take]; omega
   obtain ⟨ks, hks⟩ : ∃ ks, List.map (fun f => (⟨f.f1, 0, ⟨#[]⟩⟩ : SValue)) (x.f2.take i) = ks := ⟨_, rfl⟩
   rw [hks] at HO HK hml hk
   rw [hml] at HO HK hk
   have HML := Aside0.mk hml
   have HKN : Aside0 (List.map (fun f => (⟨f.f1, 0, ⟨#[]⟩⟩ : SValue)) (x.f2.take (i + 1)) = ks ++ [⟨f.f1, 0, ⟨#[]⟩⟩]) := ⟨by rw [HT.out, List.map_append, hks]; rfl⟩
   unfold zbd at hk
   have HK2 := Aside0.mk (zag hk (.cells #[.string f.f0, .int .i64 f.f1] 67))
   have HQ2 := Aside0.mk (zat wr (.cells #[.string f.f0, .int .i64 f.f1] 67))
   have HB2 := Aside0.mk (zab HB.out (.cells #[.string f.f0, .int .i64 f.f1] 67))
   have HO2 := Aside0.mk (Kd.R_alloc HO.out (.cells #[.string f.f0, .int .i64 f.f1] 67))
   have hks63 : ks.length ≤ 6 := by omega
   clear hk hml hks
   go_wp2_with fail
   generalize wr.alloc (.cells #[.string f.f0, .int .i64 f.f1] 67) = Wb at HK2 HQ2 HB2 HO2 ⊢
   obtain ⟨d1, d2, d3, d4⟩ := know HK2.out
   obtain ⟨q1, q2, q3, q4⟩ := know HQ2.out
   go_region_law (first
    | (refine Kd.R_append_step (o := ⟨some 37, _, _, _, _, _⟩) kValue (w0 := w) (W := Wb.drew) w.heap.size ?hw (.tmp 32) (.tmp 36) 103 73 (.agg #[(.int .i64 0), (.int .i64 0), (.string ⟨#[]⟩)]) 32 rfl Try.underlying103 infoValue rfl ?h0 ?h1 (.slice A0 i c0) ks (⟨f.f1, 0, ⟨#[]⟩⟩ : SValue) [.int .i64 f.f1, .int .i64 0, .string ⟨#[]⟩] (fun _ => True) (fun _ => False) ?hs ?hx ?aP (fun _ h => h.elim) (fun _ _ => trivial) ?aO ?aB ?aS ?aL ?_; (case hw => rfl); (case h0 => decide); (case h1 => decide); (case hs => rfl); (case hx => rfl); (case aP => exact kValue_mkM _ _ _ (⟨f.f1, 0, ⟨#[]⟩⟩ : SValue)); (case aO => exact Kd.R_drew HO2.out); (case aB => exact zaM HB2.out); (case aS => exact zao (zaM HB2.out)); (case aL => omega); intro v6 w6 ho6 hb6 hg6 hat6; obtain ⟨A6, c6, hv6⟩ := Kd.R_slice ho6; rw [List.length_append, List.length_singleton, HML.out] at hv6; subst hv6; have HO6 := Aside0.mk ho6; have HK6 := Aside0.mk (zba (zal HK2.out) hg6 (Kd.R_ne HO2.out HK2.out (by decide))); have HB6 := Aside0.mk hb6; have hd60 : w6.cell? ⟨B, 1, none⟩ = some (.slice A0 i c0) := zac HK6.out 1; have hd61 : w6.frozen? ⟨B, 1, none⟩ = false := zaa HK6.out 1; clear ho6 hb6 hg6 hat6))
   all_goals
    have HK7 := Aside0.mk (blk_set HK6.out 1 (Value.slice A6 (i + 1) c6))
    have HO7 := Aside0.mk (Kd.R_set HO6.out HK6.out value_types 1 (Value.slice A6 (i + 1) c6))
    have HB7 := Aside0.mk (HB6.out.setCell (p := ⟨B, 1, none⟩) HLE.out (Value.slice A6 (i + 1) c6))
    go_wp2_with fail
    go_roundw
    case measure => simp [intOf]; omega
    case rel => exact ⟨i + 1, by go_num, _, by omega, HK7.out, by rw [HKN.out]; exact HO7.out, HB7.out⟩
  ·obtain rfl : i = x.f2.length := by omega
   rw [List.take_length] at HO HK hk
   obtain ⟨ks, hks⟩ : ∃ ks, kindsOf x = ks := ⟨_, rfl⟩
   have hks2 : List.map (fun f => (⟨f.f1, 0, ⟨#[]⟩⟩ : SValue)) x.f2 = ks := hks
   rw [hks2] at HO HK hk
   rw [hks] at HEV HOK
   have HRT := Aside0.mk (Kd.R_types HO.out HK.out value_types)
   unfold zbd at hk
   obtain ⟨d1, d2, d3, d4⟩ := know hk
   clear hks hks2 hk
   go_wp2_with fail
   go_at_call 62
   refine (through_told wr B A0 c0 ks true Al cl l HK.out (fun w' h => (Kd.R_reads' (Spares.row h HRT.out (fun k hk _ => hk.2))).2.2) (fun w' h => Kd.C_below HL.out (below_spares HB.out h HLE.out)) HLC.out HOK.out HM2.out HWL.out HEV.out).mono ?_
   rintro e w9_ ⟨rfl, hs9_⟩
   have HB9 := Aside0.mk (below_spares HB.out hs9_ HLE.out)
   clear hs9_
   go_wp2_with fail
   go_ret2
   exact ⟨rfl, zab HB9.out _⟩
theorem kind_told (x : SSchema) (A : Option Addr) (c : Nat) (l : List SOp) (Al : Option Addr) (cl : Nat) (w : World) (hr : Kd.C kField w A x.f2.length x.f2) (hc : x.f2.length ≤ c) (hl : Kd.C kOp w Al l.length l) (hlc : l.length ≤ cl) (hwl : ∀ x ∈ l, i64V x.f2) {y n : Int} (hq : kindV x l = (y, n)) : Calls Try.prog 47 #[.agg #[.string x.f0, .int .i64 x.f1, .slice A x.f2.length c], .slice Al l.length cl] w (kindPost y n w) := by
 unfold kindV at hq
 cases h1 : mayS x with
 | false =>
  rw [h1, if_neg (by simp), Prod.mk.injEq] at hq
  obtain ⟨rfl, rfl⟩ := hq
  exact kind_no1 x A c l Al cl w hr hc hl hlc hwl h1
 | true =>
  cases h2 : mayO l with
  | false =>
   rw [h1, h2, if_neg (by simp), Prod.mk.injEq] at hq
   obtain ⟨rfl, rfl⟩ := hq
   exact kind_no2 x A c l Al cl w hr hc hl hlc hwl h1 h2
  | true =>
   rw [h1, h2, if_pos ⟨rfl, rfl⟩, Prod.mk.injEq] at hq
   obtain ⟨rfl, rfl⟩ := hq
   exact kind_go x A c l Al cl w hr hc hl hlc hwl h1 h2 rfl
def expr_Kind.f (a0_0 : ByteArray) (a0_1 : Int) (l0_2 : List SField) (l1 : List SOp) : Option (Int × Int) := if i64B l1 = true then some (kindV ⟨a0_0, a0_1, l0_2⟩ l1) else none
theorem expr_Kind.calls (a0_0 : ByteArray) (a0_1 : Int) (A0_2 : Option Addr) (c0_2 : Nat) (l0_2 : List SField) (A1 : Option Addr) (c1 : Nat) (l1 : List SOp) (r1 : Int) (r2 : Int) (w : World) (hr0_2 : Kd.C kField w A0_2 l0_2.length l0_2) (hc0_2 : l0_2.length ≤ c0_2) (hr1 : Kd.C kOp w A1 l1.length l1) (hc1 : l1.length ≤ c1) (h : expr_Kind.f a0_0 a0_1 l0_2 l1 = some (r1, r2)) :
  Calls Try.prog 47 #[.agg #[.string a0_0, .int .i64 a0_1, .slice A0_2 l0_2.length c0_2], .slice A1 l1.length c1] w fun e w' => e = .returned (.tuple #[.int .i64 r1, .int .i64 r2]) ∧ Below w.heap.size w w' := by
 unfold expr_Kind.f at h
 split at h
 ·rename_i hb
  exact kind_told ⟨a0_0, a0_1, l0_2⟩ A0_2 c0_2 l1 A1 c1 w hr0_2 hc0_2 hr1 hc1 (i64B_iff.1 hb) (Option.some.inj h)
 ·cases h
def query_asks.f (l0 : List (SSchema)) (a1 : ByteArray) (l2 : List (SOp)) : Option (Int) := (registry_Find.f l0 a1).bind fun bt161 => (if bt161.2.2.2 = true then (if (l2.length : Int) = 0 then (some 0) else ((expr_Kind.f bt161.1 bt161.2.1 bt161.2.2.1 l2).bind fun bt168 => (if bt168.2 = 0 then (if bt168.1 = 1 then (some bt168.2) else (some 5)) else (some bt168.2)))) else (some 3))
set_option maxHeartbeats 8000000 in
set_option maxRecDepth 100000 in
theorem query_asks.calls (A0 : Option Addr) (c0 : Nat) (l0 : List (SSchema)) (a1 : ByteArray) (A2 : Option Addr) (c2 : Nat) (l2 : List (SOp)) (r : Int) (w : World) (hr0 : Kd.C kSchema w A0 l0.length l0) (hc0 : l0.length ≤ c0) (hr2 : Kd.C kOp w A2 l2.length l2) (hc2 : l2.length ≤ c2) (h : query_asks.f l0 a1 l2 = some r) :
  Calls Try.prog 30 #[.slice A0 l0.length c0, .string a1, .slice A2 l2.length c2] w fun e w' => e = .returned (.int .i64 r) ∧ Below w.heap.size w w' := by
 have hu43 := Try.underlying43
 have HR0 := Aside0.mk hr0
 have HC0 := Aside0.mk hc0
 clear hr0 hc0
 have HR2 := Aside0.mk hr2
 have HC2 := Aside0.mk hc2
 clear hr2 hc2
 have HB := Aside0.mk (Below.refl w.heap.size w)
 have H : ((registry_Find.f l0 a1).bind fun bt161 => (if bt161.2.2.2 = true then (if (l2.length : Int) = 0 then (some 0) else ((expr_Kind.f bt161.1 bt161.2.1 bt161.2.2.1 l2).bind fun bt168 => (if bt168.2 = 0 then (if bt168.1 = 1 then (some bt168.2) else (some 5)) else (some bt168.2)))) else (some 3))) = some r := h
 clear h
 replace H := Option.bind_eq_some_iff.mp H
 obtain ⟨⟨t161, t162, t163, t166⟩, A40, H⟩ := H
 replace H : (if t166 = true then (if (l2.length : Int) = 0 then (some 0) else ((expr_Kind.f t161 t162 t163 l2).bind fun bt168 => (if bt168.2 = 0 then (if bt168.1 = 1 then (some bt168.2) else (some 5)) else (some bt168.2)))) else (some 3)) = some r := H
 have A4 := Aside0.mk A40
 clear A40
 by_cases c5 : t166 = true
 ·subst c5
  have H1 : (if (l2.length : Int) = 0 then (some 0) else ((expr_Kind.f t161 t162 t163 l2).bind fun bt168 => (if bt168.2 = 0 then (if bt168.1 = 1 then (some bt168.2) else (some 5)) else (some bt168.2)))) = some r := by rw [if_pos rfl] at H; exact H
  clear H
  have H := H1
  clear H1
  by_cases c6 : (l2.length : Int) = 0
  ·rw [if_pos c6] at H
   have c6b0 : ((l2.length : Int) == 0) = true := beq_iff_eq.mpr c6
   have c6b1 : ((l2.length : Int) != 0) = false := bne_eq_false_iff_eq.mpr c6
   clear c6
   obtain rfl := Option.some.inj H
   go_enter Try.func30, Try.ntmps30
   go_wp2_with (first | ((with_reducible refine zap (f := 31) rfl ?_); refine zau (some 14) rfl rfl Try.func31 (by kernel_rfl) rfl #[.slice A0 l0.length c0, .string a1] rfl (by (try simp only [List.map_toArray, List.map_cons, List.map_nil]); first | done | rfl | (simp only [List.length_drop, List.length_take]; rfl)) ?_; (with_reducible refine (registry_Find.calls _ _ l0 a1 t161 t162 t163 true _ ?side1 ?side2 A4.out).mono ?_); (case side1 => repeat (first | exact HR0.out | (with_reducible refine Kd.C_alloc ?_ _) | (with_reducible refine Kd.C_drewN ?_ _) | (with_reducible refine Kd.C_drew ?_))); (case side2 => exact HC0.out); rintro e w7 ⟨v164, rfl, ho0, hb⟩; refine ⟨_, rfl, ?_⟩; have n0_ := Aside0.mk (Kd.R_lower ho0 (zao (by repeat (first | (with_reducible first | exact HB.out | apply zab | apply zad | apply zae) | exact HB.out)))); have n1_ := Aside0.mk (zah (by repeat (first | (with_reducible first | exact HB.out | apply zab | apply zad | apply zae) | exact HB.out)) hb); clear HB; have HO165 := n0_; have HB := n1_; clear n0_ n1_; (try clear hb); (try clear hb2); (try clear hk); (try clear hi); (try clear ho0)) | ((with_reducible refine zaw (N := 7) rfl ?_); refine zas ?hg (N := 7) ?hd (cs := #[.string (⟨#[]⟩ : ByteArray), .int .i64 0, .slice none 0 0]) (t := 43) ?hr ?_; (case hd => rfl); (case hg => rfl); (case hr => first | (go_simp; done) | (go_simp; rfl)); intro gb167 hg w8 hbox hb; have n0_ := Aside0.mk (Kd.R_below (by (with_reducible repeat (first | apply Kd.R_alloc | apply Kd.R_drewN | apply Kd.R_drew)); exact HO165.out) hb); have n1_ := Aside0.mk (zah (by repeat (first | (with_reducible first | exact HB.out | apply zab | apply zad | apply zae) | exact HB.out)) hb); have n2_ := Aside0.mk (hbox); have n3_ := Aside0.mk ((by rw [hg]; exact (zao (by repeat (first | (with_reducible first | exact HB.out | apply zab | apply zad | apply zae) | exact HB.out))) : w.heap.size ≤ gb167)); have n4_ := Aside0.mk ((by rw [hg]; exact (zao (by repeat (first | (with_reducible first | exact HB.out | apply zab | apply zad | apply zae) | exact HB.out))) : w.heap.size ≤ gb167)); clear HO165; clear HB; have HO165 := n0_; have HB := n1_; have BK167 := n2_; have GW167 := n3_; have GE167 := n4_; clear n0_ n1_ n2_ n3_ n4_; clear hb hbox hg; have hcz9_0 : w8.cell? ⟨gb167, 0, none⟩ = some (.string (⟨#[]⟩ : ByteArray)) := (zac BK167.out 0).trans rfl; have hcz9_1 : w8.cell? ⟨gb167, 1, none⟩ = some (.int .i64 0) := (zac BK167.out 1).trans rfl; have hcz9_2 : w8.cell? ⟨gb167, 2, none⟩ = some (.slice none 0 0) := (zac BK167.out 2).trans rfl; have hfz9_0 := zaa BK167.out 0; have hfz9_1 := zaa BK167.out 1; have hfz9_2 := zaa BK167.out 2; obtain ⟨Ao10, co10, eo10⟩ := Kd.R_slice HO165.out; subst eo10))
   go_ret
   exact ⟨by first | rfl | (simp [zan, zam] <;> rfl) | (simp [*, zan, zam] <;> rfl), by repeat (first | (with_reducible first | exact HB.out | apply zab | apply zad | apply zae | refine zaf ?_ GE167.out) | exact HB.out)⟩
  ·rw [if_neg c6] at H
   have c6b0 : ((l2.length : Int) == 0) = false := beq_eq_false_iff_ne.mpr c6
   have c6b1 : ((l2.length : Int) != 0) = true := bne_iff_ne.mpr c6
   have c6b2 : ¬ (l2 = []) := fun h_ => c6 (by rw [h_]; rfl)
   replace H := Option.bind_eq_some_iff.mp H
   obtain ⟨⟨t168, t169⟩, A110, H⟩ := H
   replace H : (if t169 = 0 then (if t168 = 1 then (some t169) else (some 5)) else (some t169)) = some r := H
   have A11 := Aside0.mk A110
   clear A110
   by_cases c12 : t169 = 0
   ·rw [if_pos c12] at H
    have c12b0 : (t169 == 0) = true := beq_iff_eq.mpr c12
    have c12b1 : (t169 != 0) = false := bne_eq_false_iff_eq.mpr c12
    clear c12
    by_cases c13 : t168 = 1
    ·rw [if_pos c13] at H
     have c13b0 : (t168 == 1) = true := beq_iff_eq.mpr c13
     have c13b1 : (t168 != 1) = false := bne_eq_false_iff_eq.mpr c13
     clear c13
     obtain rfl := Option.some.inj H
     go_enter Try.func30, Try.ntmps30
     go_wp2_with (first | ((with_reducible refine zap (f := 31) rfl ?_); refine zau (some 14) rfl rfl Try.func31 (by kernel_rfl) rfl #[.slice A0 l0.length c0, .string a1] rfl (by (try simp only [List.map_toArray, List.map_cons, List.map_nil]); first | done | rfl | (simp only [List.length_drop, List.length_take]; rfl)) ?_; (with_reducible refine (registry_Find.calls _ _ l0 a1 t161 t162 t163 true _ ?side1 ?side2 A4.out).mono ?_); (case side1 => repeat (first | exact HR0.out | (with_reducible refine Kd.C_alloc ?_ _) | (with_reducible refine Kd.C_drewN ?_ _) | (with_reducible refine Kd.C_drew ?_))); (case side2 => exact HC0.out); rintro e w14 ⟨v164, rfl, ho0, hb⟩; refine ⟨_, rfl, ?_⟩; have n0_ := Aside0.mk (Kd.R_lower ho0 (zao (by repeat (first | (with_reducible first | exact HB.out | apply zab | apply zad | apply zae) | exact HB.out)))); have n1_ := Aside0.mk (zah (by repeat (first | (with_reducible first | exact HB.out | apply zab | apply zad | apply zae) | exact HB.out)) hb); clear HB; have HO165 := n0_; have HB := n1_; clear n0_ n1_; (try clear hb); (try clear hb2); (try clear hk); (try clear hi); (try clear ho0)) | ((with_reducible refine zaw (N := 7) rfl ?_); refine zas ?hg (N := 7) ?hd (cs := #[.string (⟨#[]⟩ : ByteArray), .int .i64 0, .slice none 0 0]) (t := 43) ?hr ?_; (case hd => rfl); (case hg => rfl); (case hr => first | (go_simp; done) | (go_simp; rfl)); intro gb167 hg w15 hbox hb; have n0_ := Aside0.mk (Kd.R_below (by (with_reducible repeat (first | apply Kd.R_alloc | apply Kd.R_drewN | apply Kd.R_drew)); exact HO165.out) hb); have n1_ := Aside0.mk (zah (by repeat (first | (with_reducible first | exact HB.out | apply zab | apply zad | apply zae) | exact HB.out)) hb); have n2_ := Aside0.mk (hbox); have n3_ := Aside0.mk ((by rw [hg]; exact (zao (by repeat (first | (with_reducible first | exact HB.out | apply zab | apply zad | apply zae) | exact HB.out))) : w.heap.size ≤ gb167)); have n4_ := Aside0.mk ((by rw [hg]; exact (zao (by repeat (first | (with_reducible first | exact HB.out | apply zab | apply zad | apply zae) | exact HB.out))) : w.heap.size ≤ gb167)); clear HO165; clear HB; have HO165 := n0_; have HB := n1_; have BK167 := n2_; have GW167 := n3_; have GE167 := n4_; clear n0_ n1_ n2_ n3_ n4_; clear hb hbox hg; have hcz16_0 : w15.cell? ⟨gb167, 0, none⟩ = some (.string (⟨#[]⟩ : ByteArray)) := (zac BK167.out 0).trans rfl; have hcz16_1 : w15.cell? ⟨gb167, 1, none⟩ = some (.int .i64 0) := (zac BK167.out 1).trans rfl; have hcz16_2 : w15.cell? ⟨gb167, 2, none⟩ = some (.slice none 0 0) := (zac BK167.out 2).trans rfl; have hfz16_0 := zaa BK167.out 0; have hfz16_1 := zaa BK167.out 1; have hfz16_2 := zaa BK167.out 2; obtain ⟨Ao17, co17, eo17⟩ := Kd.R_slice HO165.out; subst eo17) | ((with_reducible refine zap (f := 47) rfl ?_); refine zau (some 25) rfl rfl Try.func47 (by kernel_rfl) rfl #[.agg #[.string t161, .int .i64 t162, .slice Ao17 t163.length co17], .slice A2 l2.length c2] rfl (by (try simp only [List.map_toArray, List.map_cons, List.map_nil]); first | done | rfl | (simp only [List.length_drop, List.length_take]; rfl)) ?_; (with_reducible refine (expr_Kind.calls t161 t162 _ _ t163 _ _ l2 t168 t169 _ ?side1 ?side2 ?side3 ?side4 A11.out).mono ?_); (case side1 => refine (Kd.R_reads' (e := 67) (base := w.heap.size) (ok := fun k_ => True) (n := t163.length) (c := co17) ?_).2.2; exact (by (with_reducible repeat (first | apply Kd.R_alloc | apply Kd.R_drewN | apply Kd.R_drew)); exact (Kd.R_mono (Kd.R_far (p := ⟨gb167, 2, none⟩) (Kd.R_far (p := ⟨gb167, 1, none⟩) (Kd.R_far (p := ⟨gb167, 0, none⟩) (Kd.R_types HO165.out BK167.out (by decide)) (fun _ hk => hk.2) (.string t161)) (fun _ hk => hk.2) (.int .i64 t162)) (fun _ hk => hk.2) (.slice Ao17 t163.length co17)) (fun _ h_ => h_.1)))); (case side2 => exact (Kd.R_reads' HO165.out).2.1); (case side3 => exact Kd.C_below HR2.out (by repeat (first | (with_reducible first | exact HB.out | apply zab | apply zad | apply zae | refine zaf ?_ GE167.out) | exact HB.out))); (case side4 => exact HC2.out); rintro e w18 ⟨rfl, hb⟩; refine ⟨_, rfl, ?_⟩; have n0_ := Aside0.mk (Kd.R_below (by (with_reducible repeat (first | apply Kd.R_alloc | apply Kd.R_drewN | apply Kd.R_drew)); exact (Kd.R_mono (Kd.R_far (p := ⟨gb167, 2, none⟩) (Kd.R_far (p := ⟨gb167, 1, none⟩) (Kd.R_far (p := ⟨gb167, 0, none⟩) (Kd.R_types HO165.out BK167.out (by decide)) (fun _ hk => hk.2) (.string t161)) (fun _ hk => hk.2) (.int .i64 t162)) (fun _ hk => hk.2) (.slice Ao17 t163.length co17)) (fun _ h_ => h_.1))) hb); have n1_ := Aside0.mk (zak (g := gb167) (o := .cells #[.string t161, .int .i64 t162, .slice Ao17 t163.length co17] 43 (0, 0)) (by (with_reducible repeat (first | refine zai ?_ _ | refine zal ?_ | refine zag ?_ _)); refine zar (cs := #[.string t161, .int .i64 t162, .slice none 0 0]) ?_ 2 _ rfl; (with_reducible repeat (first | refine zai ?_ _ | refine zal ?_ | refine zag ?_ _)); refine zar (cs := #[.string t161, .int .i64 0, .slice none 0 0]) ?_ 1 _ rfl; (with_reducible repeat (first | refine zai ?_ _ | refine zal ?_ | refine zag ?_ _)); refine zar (cs := #[.string (⟨#[]⟩ : ByteArray), .int .i64 0, .slice none 0 0]) ?_ 0 _ rfl; (with_reducible repeat (first | refine zai ?_ _ | refine zal ?_ | refine zag ?_ _)); exact BK167.out) hb); have n2_ := Aside0.mk (zah (by repeat (first | (with_reducible first | exact HB.out | apply zab | apply zad | apply zae | refine zaf ?_ GE167.out) | exact HB.out)) hb); clear HO165; clear BK167; clear HB; have HO165 := n0_; have BK167 := n1_; have HB := n2_; clear n0_ n1_ n2_; (try clear hb); (try clear hb2); (try clear hk); (try clear hi)))
     go_ret
     exact ⟨by first | rfl | (simp [zan, zam] <;> rfl) | (simp [*, zan, zam] <;> rfl), by repeat (first | (with_reducible first | exact HB.out | apply zab | apply zad | apply zae | refine zaf ?_ GE167.out) | exact HB.out)⟩
    ·rw [if_neg c13] at H
     have c13b0 : (t168 == 1) = false := beq_eq_false_iff_ne.mpr c13
     have c13b1 : (t168 != 1) = true := bne_iff_ne.mpr c13
     obtain rfl := Option.some.inj H
     go_enter Try.func30, Try.ntmps30
     go_wp2_with (first | ((with_reducible refine zap (f := 31) rfl ?_); refine zau (some 14) rfl rfl Try.func31 (by kernel_rfl) rfl #[.slice A0 l0.length c0, .string a1] rfl (by (try simp only [List.map_toArray, List.map_cons, List.map_nil]); first | done | rfl | (simp only [List.length_drop, List.length_take]; rfl)) ?_; (with_reducible refine (registry_Find.calls _ _ l0 a1 t161 t162 t163 true _ ?side1 ?side2 A4.out).mono ?_); (case side1 => repeat (first | exact HR0.out | (with_reducible refine Kd.C_alloc ?_ _) | (with_reducible refine Kd.C_drewN ?_ _) | (with_reducible refine Kd.C_drew ?_))); (case side2 => exact HC0.out); rintro e w19 ⟨v164, rfl, ho0, hb⟩; refine ⟨_, rfl, ?_⟩; have n0_ := Aside0.mk (Kd.R_lower ho0 (zao (by repeat (first | (with_reducible first | exact HB.out | apply zab | apply zad | apply zae) | exact HB.out)))); have n1_ := Aside0.mk (zah (by repeat (first | (with_reducible first | exact HB.out | apply zab | apply zad | apply zae) | exact HB.out)) hb); clear HB; have HO165 := n0_; have HB := n1_; clear n0_ n1_; (try clear hb); (try clear hb2); (try clear hk); (try clear hi); (try clear ho0)) | ((with_reducible refine zaw (N := 7) rfl ?_); refine zas ?hg (N := 7) ?hd (cs := #[.string (⟨#[]⟩ : ByteArray), .int .i64 0, .slice none 0 0]) (t := 43) ?hr ?_; (case hd => rfl); (case hg => rfl); (case hr => first | (go_simp; done) | (go_simp; rfl)); intro gb167 hg w20 hbox hb; have n0_ := Aside0.mk (Kd.R_below (by (with_reducible repeat (first | apply Kd.R_alloc | apply Kd.R_drewN | apply Kd.R_drew)); exact HO165.out) hb); have n1_ := Aside0.mk (zah (by repeat (first | (with_reducible first | exact HB.out | apply zab | apply zad | apply zae) | exact HB.out)) hb); have n2_ := Aside0.mk (hbox); have n3_ := Aside0.mk ((by rw [hg]; exact (zao (by repeat (first | (with_reducible first | exact HB.out | apply zab | apply zad | apply zae) | exact HB.out))) : w.heap.size ≤ gb167)); have n4_ := Aside0.mk ((by rw [hg]; exact (zao (by repeat (first | (with_reducible first | exact HB.out | apply zab | apply zad | apply zae) | exact HB.out))) : w.heap.size ≤ gb167)); clear HO165; clear HB; have HO165 := n0_; have HB := n1_; have BK167 := n2_; have GW167 := n3_; have GE167 := n4_; clear n0_ n1_ n2_ n3_ n4_; clear hb hbox hg; have hcz21_0 : w20.cell? ⟨gb167, 0, none⟩ = some (.string (⟨#[]⟩ : ByteArray)) := (zac BK167.out 0).trans rfl; have hcz21_1 : w20.cell? ⟨gb167, 1, none⟩ = some (.int .i64 0) := (zac BK167.out 1).trans rfl; have hcz21_2 : w20.cell? ⟨gb167, 2, none⟩ = some (.slice none 0 0) := (zac BK167.out 2).trans rfl; have hfz21_0 := zaa BK167.out 0; have hfz21_1 := zaa BK167.out 1; have hfz21_2 := zaa BK167.out 2; obtain ⟨Ao22, co22, eo22⟩ := Kd.R_slice HO165.out; subst eo22) | ((with_reducible refine zap (f := 47) rfl ?_); refine zau (some 25) rfl rfl Try.func47 (by kernel_rfl) rfl #[.agg #[.string t161, .int .i64 t162, .slice Ao22 t163.length co22], .slice A2 l2.length c2] rfl (by (try simp only [List.map_toArray, List.map_cons, List.map_nil]); first | done | rfl | (simp only [List.length_drop, List.length_take]; rfl)) ?_; (with_reducible refine (expr_Kind.calls t161 t162 _ _ t163 _ _ l2 t168 t169 _ ?side1 ?side2 ?side3 ?side4 A11.out).mono ?_); (case side1 => refine (Kd.R_reads' (e := 67) (base := w.heap.size) (ok := fun k_ => True) (n := t163.length) (c := co22) ?_).2.2; exact (by (with_reducible repeat (first | apply Kd.R_alloc | apply Kd.R_drewN | apply Kd.R_drew)); exact (Kd.R_mono (Kd.R_far (p := ⟨gb167, 2, none⟩) (Kd.R_far (p := ⟨gb167, 1, none⟩) (Kd.R_far (p := ⟨gb167, 0, none⟩) (Kd.R_types HO165.out BK167.out (by decide)) (fun _ hk => hk.2) (.string t161)) (fun _ hk => hk.2) (.int .i64 t162)) (fun _ hk => hk.2) (.slice Ao22 t163.length co22)) (fun _ h_ => h_.1)))); (case side2 => exact (Kd.R_reads' HO165.out).2.1); (case side3 => exact Kd.C_below HR2.out (by repeat (first | (with_reducible first | exact HB.out | apply zab | apply zad | apply zae | refine zaf ?_ GE167.out) | exact HB.out))); (case side4 => exact HC2.out); rintro e w23 ⟨rfl, hb⟩; refine ⟨_, rfl, ?_⟩; have n0_ := Aside0.mk (Kd.R_below (by (with_reducible repeat (first | apply Kd.R_alloc | apply Kd.R_drewN | apply Kd.R_drew)); exact (Kd.R_mono (Kd.R_far (p := ⟨gb167, 2, none⟩) (Kd.R_far (p := ⟨gb167, 1, none⟩) (Kd.R_far (p := ⟨gb167, 0, none⟩) (Kd.R_types HO165.out BK167.out (by decide)) (fun _ hk => hk.2) (.string t161)) (fun _ hk => hk.2) (.int .i64 t162)) (fun _ hk => hk.2) (.slice Ao22 t163.length co22)) (fun _ h_ => h_.1))) hb); have n1_ := Aside0.mk (zak (g := gb167) (o := .cells #[.string t161, .int .i64 t162, .slice Ao22 t163.length co22] 43 (0, 0)) (by (with_reducible repeat (first | refine zai ?_ _ | refine zal ?_ | refine zag ?_ _)); refine zar (cs := #[.string t161, .int .i64 t162, .slice none 0 0]) ?_ 2 _ rfl; (with_reducible repeat (first | refine zai ?_ _ | refine zal ?_ | refine zag ?_ _)); refine zar (cs := #[.string t161, .int .i64 0, .slice none 0 0]) ?_ 1 _ rfl; (with_reducible repeat (first | refine zai ?_ _ | refine zal ?_ | refine zag ?_ _)); refine zar (cs := #[.string (⟨#[]⟩ : ByteArray), .int .i64 0, .slice none 0 0]) ?_ 0 _ rfl; (with_reducible repeat (first | refine zai ?_ _ | refine zal ?_ | refine zag ?_ _)); exact BK167.out) hb); have n2_ := Aside0.mk (zah (by repeat (first | (with_reducible first | exact HB.out | apply zab | apply zad | apply zae | refine zaf ?_ GE167.out) | exact HB.out)) hb); clear HO165; clear BK167; clear HB; have HO165 := n0_; have BK167 := n1_; have HB := n2_; clear n0_ n1_ n2_; (try clear hb); (try clear hb2); (try clear hk); (try clear hi)))
     go_ret
     exact ⟨by first | rfl | (simp [zan, zam] <;> rfl) | (simp [*, zan, zam] <;> rfl), by repeat (first | (with_reducible first | exact HB.out | apply zab | apply zad | apply zae | refine zaf ?_ GE167.out) | exact HB.out)⟩
   ·rw [if_neg c12] at H
    have c12b0 : (t169 == 0) = false := beq_eq_false_iff_ne.mpr c12
    have c12b1 : (t169 != 0) = true := bne_iff_ne.mpr c12
    obtain rfl := Option.some.inj H
    go_enter Try.func30, Try.ntmps30
    go_wp2_with (first | ((with_reducible refine zap (f := 31) rfl ?_); refine zau (some 14) rfl rfl Try.func31 (by kernel_rfl) rfl #[.slice A0 l0.length c0, .string a1] rfl (by (try simp only [List.map_toArray, List.map_cons, List.map_nil]); first | done | rfl | (simp only [List.length_drop, List.length_take]; rfl)) ?_; (with_reducible refine (registry_Find.calls _ _ l0 a1 t161 t162 t163 true _ ?side1 ?side2 A4.out).mono ?_); (case side1 => repeat (first | exact HR0.out | (with_reducible refine Kd.C_alloc ?_ _) | (with_reducible refine Kd.C_drewN ?_ _) | (with_reducible refine Kd.C_drew ?_))); (case side2 => exact HC0.out); rintro e w24 ⟨v164, rfl, ho0, hb⟩; refine ⟨_, rfl, ?_⟩; have n0_ := Aside0.mk (Kd.R_lower ho0 (zao (by repeat (first | (with_reducible first | exact HB.out | apply zab | apply zad | apply zae) | exact HB.out)))); have n1_ := Aside0.mk (zah (by repeat (first | (with_reducible first | exact HB.out | apply zab | apply zad | apply zae) | exact HB.out)) hb); clear HB; have HO165 := n0_; have HB := n1_; clear n0_ n1_; (try clear hb); (try clear hb2); (try clear hk); (try clear hi); (try clear ho0)) | ((with_reducible refine zaw (N := 7) rfl ?_); refine zas ?hg (N := 7) ?hd (cs := #[.string (⟨#[]⟩ : ByteArray), .int .i64 0, .slice none 0 0]) (t := 43) ?hr ?_; (case hd => rfl); (case hg => rfl); (case hr => first | (go_simp; done) | (go_simp; rfl)); intro gb167 hg w25 hbox hb; have n0_ := Aside0.mk (Kd.R_below (by (with_reducible repeat (first | apply Kd.R_alloc | apply Kd.R_drewN | apply Kd.R_drew)); exact HO165.out) hb); have n1_ := Aside0.mk (zah (by repeat (first | (with_reducible first | exact HB.out | apply zab | apply zad | apply zae) | exact HB.out)) hb); have n2_ := Aside0.mk (hbox); have n3_ := Aside0.mk ((by rw [hg]; exact (zao (by repeat (first | (with_reducible first | exact HB.out | apply zab | apply zad | apply zae) | exact HB.out))) : w.heap.size ≤ gb167)); have n4_ := Aside0.mk ((by rw [hg]; exact (zao (by repeat (first | (with_reducible first | exact HB.out | apply zab | apply zad | apply zae) | exact HB.out))) : w.heap.size ≤ gb167)); clear HO165; clear HB; have HO165 := n0_; have HB := n1_; have BK167 := n2_; have GW167 := n3_; have GE167 := n4_; clear n0_ n1_ n2_ n3_ n4_; clear hb hbox hg; have hcz26_0 : w25.cell? ⟨gb167, 0, none⟩ = some (.string (⟨#[]⟩ : ByteArray)) := (zac BK167.out 0).trans rfl; have hcz26_1 : w25.cell? ⟨gb167, 1, none⟩ = some (.int .i64 0) := (zac BK167.out 1).trans rfl; have hcz26_2 : w25.cell? ⟨gb167, 2, none⟩ = some (.slice none 0 0) := (zac BK167.out 2).trans rfl; have hfz26_0 := zaa BK167.out 0; have hfz26_1 := zaa BK167.out 1; have hfz26_2 := zaa BK167.out 2; obtain ⟨Ao27, co27, eo27⟩ := Kd.R_slice HO165.out; subst eo27) | ((with_reducible refine zap (f := 47) rfl ?_); refine zau (some 25) rfl rfl Try.func47 (by kernel_rfl) rfl #[.agg #[.string t161, .int .i64 t162, .slice Ao27 t163.length co27], .slice A2 l2.length c2] rfl (by (try simp only [List.map_toArray, List.map_cons, List.map_nil]); first | done | rfl | (simp only [List.length_drop, List.length_take]; rfl)) ?_; (with_reducible refine (expr_Kind.calls t161 t162 _ _ t163 _ _ l2 t168 t169 _ ?side1 ?side2 ?side3 ?side4 A11.out).mono ?_); (case side1 => refine (Kd.R_reads' (e := 67) (base := w.heap.size) (ok := fun k_ => True) (n := t163.length) (c := co27) ?_).2.2; exact (by (with_reducible repeat (first | apply Kd.R_alloc | apply Kd.R_drewN | apply Kd.R_drew)); exact (Kd.R_mono (Kd.R_far (p := ⟨gb167, 2, none⟩) (Kd.R_far (p := ⟨gb167, 1, none⟩) (Kd.R_far (p := ⟨gb167, 0, none⟩) (Kd.R_types HO165.out BK167.out (by decide)) (fun _ hk => hk.2) (.string t161)) (fun _ hk => hk.2) (.int .i64 t162)) (fun _ hk => hk.2) (.slice Ao27 t163.length co27)) (fun _ h_ => h_.1)))); (case side2 => exact (Kd.R_reads' HO165.out).2.1); (case side3 => exact Kd.C_below HR2.out (by repeat (first | (with_reducible first | exact HB.out | apply zab | apply zad | apply zae | refine zaf ?_ GE167.out) | exact HB.out))); (case side4 => exact HC2.out); rintro e w28 ⟨rfl, hb⟩; refine ⟨_, rfl, ?_⟩; have n0_ := Aside0.mk (Kd.R_below (by (with_reducible repeat (first | apply Kd.R_alloc | apply Kd.R_drewN | apply Kd.R_drew)); exact (Kd.R_mono (Kd.R_far (p := ⟨gb167, 2, none⟩) (Kd.R_far (p := ⟨gb167, 1, none⟩) (Kd.R_far (p := ⟨gb167, 0, none⟩) (Kd.R_types HO165.out BK167.out (by decide)) (fun _ hk => hk.2) (.string t161)) (fun _ hk => hk.2) (.int .i64 t162)) (fun _ hk => hk.2) (.slice Ao27 t163.length co27)) (fun _ h_ => h_.1))) hb); have n1_ := Aside0.mk (zak (g := gb167) (o := .cells #[.string t161, .int .i64 t162, .slice Ao27 t163.length co27] 43 (0, 0)) (by (with_reducible repeat (first | refine zai ?_ _ | refine zal ?_ | refine zag ?_ _)); refine zar (cs := #[.string t161, .int .i64 t162, .slice none 0 0]) ?_ 2 _ rfl; (with_reducible repeat (first | refine zai ?_ _ | refine zal ?_ | refine zag ?_ _)); refine zar (cs := #[.string t161, .int .i64 0, .slice none 0 0]) ?_ 1 _ rfl; (with_reducible repeat (first | refine zai ?_ _ | refine zal ?_ | refine zag ?_ _)); refine zar (cs := #[.string (⟨#[]⟩ : ByteArray), .int .i64 0, .slice none 0 0]) ?_ 0 _ rfl; (with_reducible repeat (first | refine zai ?_ _ | refine zal ?_ | refine zag ?_ _)); exact BK167.out) hb); have n2_ := Aside0.mk (zah (by repeat (first | (with_reducible first | exact HB.out | apply zab | apply zad | apply zae | refine zaf ?_ GE167.out) | exact HB.out)) hb); clear HO165; clear BK167; clear HB; have HO165 := n0_; have BK167 := n1_; have HB := n2_; clear n0_ n1_ n2_; (try clear hb); (try clear hb2); (try clear hk); (try clear hi)))
    go_ret
    exact ⟨by first | rfl | (simp [zan, zam] <;> rfl) | (simp [*, zan, zam] <;> rfl), by repeat (first | (with_reducible first | exact HB.out | apply zab | apply zad | apply zae | refine zaf ?_ GE167.out) | exact HB.out)⟩
 ·replace c5 := Bool.eq_false_iff.mpr c5
  subst c5
  have H1 : (some 3) = some r := by rw [if_neg (show ¬ (false = true) by decide)] at H; exact H
  clear H
  have H := H1
  clear H1
  obtain rfl := Option.some.inj H
  go_enter Try.func30, Try.ntmps30
  go_wp2_with (first | ((with_reducible refine zap (f := 31) rfl ?_); refine zau (some 14) rfl rfl Try.func31 (by kernel_rfl) rfl #[.slice A0 l0.length c0, .string a1] rfl (by (try simp only [List.map_toArray, List.map_cons, List.map_nil]); first | done | rfl | (simp only [List.length_drop, List.length_take]; rfl)) ?_; (with_reducible refine (registry_Find.calls _ _ l0 a1 t161 t162 t163 false _ ?side1 ?side2 A4.out).mono ?_); (case side1 => repeat (first | exact HR0.out | (with_reducible refine Kd.C_alloc ?_ _) | (with_reducible refine Kd.C_drewN ?_ _) | (with_reducible refine Kd.C_drew ?_))); (case side2 => exact HC0.out); rintro e w29 ⟨v164, rfl, ho0, hb⟩; refine ⟨_, rfl, ?_⟩; have n0_ := Aside0.mk (Kd.R_lower ho0 (zao (by repeat (first | (with_reducible first | exact HB.out | apply zab | apply zad | apply zae) | exact HB.out)))); have n1_ := Aside0.mk (zah (by repeat (first | (with_reducible first | exact HB.out | apply zab | apply zad | apply zae) | exact HB.out)) hb); clear HB; have HO165 := n0_; have HB := n1_; clear n0_ n1_; (try clear hb); (try clear hb2); (try clear hk); (try clear hi); (try clear ho0)) | ((with_reducible refine zaw (N := 7) rfl ?_); refine zas ?hg (N := 7) ?hd (cs := #[.string (⟨#[]⟩ : ByteArray), .int .i64 0, .slice none 0 0]) (t := 43) ?hr ?_; (case hd => rfl); (case hg => rfl); (case hr => first | (go_simp; done) | (go_simp; rfl)); intro gb167 hg w30 hbox hb; have n0_ := Aside0.mk (Kd.R_below (by (with_reducible repeat (first | apply Kd.R_alloc | apply Kd.R_drewN | apply Kd.R_drew)); exact HO165.out) hb); have n1_ := Aside0.mk (zah (by repeat (first | (with_reducible first | exact HB.out | apply zab | apply zad | apply zae) | exact HB.out)) hb); have n2_ := Aside0.mk (hbox); have n3_ := Aside0.mk ((by rw [hg]; exact (zao (by repeat (first | (with_reducible first | exact HB.out | apply zab | apply zad | apply zae) | exact HB.out))) : w.heap.size ≤ gb167)); have n4_ := Aside0.mk ((by rw [hg]; exact (zao (by repeat (first | (with_reducible first | exact HB.out | apply zab | apply zad | apply zae) | exact HB.out))) : w.heap.size ≤ gb167)); clear HO165; clear HB; have HO165 := n0_; have HB := n1_; have BK167 := n2_; have GW167 := n3_; have GE167 := n4_; clear n0_ n1_ n2_ n3_ n4_; clear hb hbox hg; have hcz31_0 : w30.cell? ⟨gb167, 0, none⟩ = some (.string (⟨#[]⟩ : ByteArray)) := (zac BK167.out 0).trans rfl; have hcz31_1 : w30.cell? ⟨gb167, 1, none⟩ = some (.int .i64 0) := (zac BK167.out 1).trans rfl; have hcz31_2 : w30.cell? ⟨gb167, 2, none⟩ = some (.slice none 0 0) := (zac BK167.out 2).trans rfl; have hfz31_0 := zaa BK167.out 0; have hfz31_1 := zaa BK167.out 1; have hfz31_2 := zaa BK167.out 2; obtain ⟨Ao32, co32, eo32⟩ := Kd.R_slice HO165.out; subst eo32))
  go_ret
  exact ⟨by first | rfl | (simp [zan, zam] <;> rfl) | (simp [*, zan, zam] <;> rfl), by repeat (first | (with_reducible first | exact HB.out | apply zab | apply zad | apply zae | refine zaf ?_ GE167.out) | exact HB.out)⟩
mutual
def query_Check.j0 : Nat → List (SSchema) → Bool → List (SStep) → Int → Int → Int → Int → Option (Int)
 | 0, _, _, _, _, _, _, _ => none
 | k + 1, x0, x17, x171000, x171001, x171002, x171003, x171004 => if x17 = true then (some 1) else (query_Check.l0 k x0 x171000 (x171000.length : Int) 0 x171000 x171001 x171002 x171003 x171004)
def query_Check.l0 : Nat → List (SSchema) → List (SStep) → Int → Int → List (SStep) → Int → Int → Int → Int → Option (Int)
 | 0, _, _, _, _, _, _, _, _, _ => none
 | k + 1, x0, x19, x20, x21, x171000, x171001, x171002, x171003, x171004 => if x21 < x20 then (if 0 ≤ x21 then (if x21 < (x19.length : Int) then ((query_asks.f x0 ((zaj x19 x21).f0) ((zaj x19 x21).f1)).bind fun t184 => (if t184 = 0 then (query_Check.j2 k x0 t184 x19 x20 x21 ((zaj x19 x21).f4) x171000 x171001 x171002 x171003 x171004 ((zaj x19 x21).f0) ((zaj x19 x21).f1) ((zaj x19 x21).f2) ((zaj x19 x21).f3) ((zaj x19 x21).f4) ((zaj x19 x21).f5) ((zaj x19 x21).f6)) else (query_Check.j2 k x0 t184 x19 x20 x21 false x171000 x171001 x171002 x171003 x171004 ((zaj x19 x21).f0) ((zaj x19 x21).f1) ((zaj x19 x21).f2) ((zaj x19 x21).f3) ((zaj x19 x21).f4) ((zaj x19 x21).f5) ((zaj x19 x21).f6)))) else (none)) else (none)) else (if 0 ≤ x171003 then (if x171003 < (x171000.length : Int) then ((registry_Find.f x0 ((zaj x171000 x171003).f0)).bind fun bt174 => (if x171002 = 0 then (some 0) else (if x171004 < (bt174.2.2.1.length : Int) then (if 0 ≤ x171004 then (if ((zbc bt174.2.2.1 x171004).f1) = 0 then (some 0) else (some 5)) else (none)) else (some 5)))) else (none)) else (none))
def query_Check.j2 : Nat → List (SSchema) → Int → List (SStep) → Int → Int → Bool → List (SStep) → Int → Int → Int → Int → ByteArray → List (SOp) → Int → Int → Bool → ByteArray → List (SOp) → Option (Int)
 | 0, _, _, _, _, _, _, _, _, _, _, _, _, _, _, _, _, _, _ => none
 | k + 1, x0, x7, x19, x20, x21, x36, x171000, x171001, x171002, x171003, x171004, x184000, x184001, x184002, x184003, x184004, x184005, x184006 => if x36 = true then ((query_asks.f x0 x184005 x184006).bind fun t185 => (if t185 = 0 then (query_Check.l0 k x0 x19 x20 (wrap64 (x21 + 1)) x171000 x171001 x171002 x171003 x171004) else (some t185))) else (if x7 = 0 then (query_Check.l0 k x0 x19 x20 (wrap64 (x21 + 1)) x171000 x171001 x171002 x171003 x171004) else (some x7))
end
def query_Check.f (k : Nat) (l0 : List (SSchema)) (l1_0 : List (SStep)) (a1_1 : Int) (a1_2 : Int) (a1_3 : Int) (a1_4 : Int) : Option (Int) := (registry_May.f k l0).bind fun t171 => (if t171 = true then ((query_may.f k l1_0 a1_1 a1_2 a1_3 a1_4).bind fun t172 => (query_Check.j0 k l0 (!t172) l1_0 a1_1 a1_2 a1_3 a1_4)) else (query_Check.j0 k l0 true l1_0 a1_1 a1_2 a1_3 a1_4))
end Go.Proofs.Ytooemobolfoefaa.P


