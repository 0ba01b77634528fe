/- What ExprBack's row stands on: words, contracts of the functions that it reaches, plain facts, its walk (part 4): no condition but those that each theorem names. -/
import Derived.Test.YtncllbokeofdjaaZExprBack3
set_option linter.unusedVariables false
set_option linter.unusedSimpArgs false
namespace Go.Proofs.Ytncllbokeofdjaa.P
open Go.RowKit Go.Proofs.YtncllbokeofdjaaW.PrintWords Go.Proofs.YtncllbokeofdjaaW.PrintLast Go.Proofs.YtncllbokeofdjaaW.PrintMore
attribute [local go_sem] max2_int min2_int max_two min_two max_three min_three max_four min_four   -- for this text's walks alone
set_option linter.unusedVariables false
set_option linter.unusedSimpArgs false
def cellsP (x : SOp) : Array Value := #[.int .i64 x.f0, .int .i64 x.f1, .int .i64 x.f2.f0, .int .i64 x.f2.f1, .string x.f2.f2]
def partBPost (r : Option (SOp × Nat)) (w : World) (e : Ending) (w' : World) : Prop := (match r with
  | some (x, n) => e = .returned (.tuple #[.agg (cellsP x), .int .i64 (n : Int), .bool true])
  | none => ∃ (x : SOp) (n : Int), e = .returned (.tuple #[.agg (cellsP x), .int .i64 n, .bool false])) ∧ Below w.heap.size w w'
theorem blk_put5 {W : World} {g : Nat} {t : TypeId} {a b c d e : Value} (h : W.heap[g]? = some (.cells #[a, b, c, d, e] t (0, 0))) (x y z u v : Value) : (((((W.setCell ⟨g, 0, none⟩ x).setCell ⟨g, 1, none⟩ y).setCell ⟨g, 2, none⟩ z).setCell ⟨g, 3, none⟩ u).setCell ⟨g, 4, none⟩ v).heap[g]? = some (.cells #[x, y, z, u, v] t (0, 0)) :=
  blk_put (blk_put (blk_put (blk_put (blk_put h 0 x rfl) 1 y rfl) 2 z rfl) 3 u rfl) 4 v rfl
theorem below_put5 {B : Nat} {w W : World} {g : Nat} (h : Below B w W) (hg : B ≤ g) (x y z u v : Value) : Below B w (((((W.setCell ⟨g, 0, none⟩ x).setCell ⟨g, 1, none⟩ y).setCell ⟨g, 2, none⟩ z).setCell ⟨g, 3, none⟩ u).setCell ⟨g, 4, none⟩ v) :=
  ((((h.setCell (p := ⟨g, 0, none⟩) hg x).setCell (p := ⟨g, 1, none⟩) hg y).setCell (p := ⟨g, 2, none⟩) hg z).setCell (p := ⟨g, 3, none⟩) hg u).setCell (p := ⟨g, 4, none⟩) hg v
set_option maxHeartbeats 1000000 in
set_option maxRecDepth 100000 in
theorem partb_nil (A : Option Addr) (c : Nat) (w : World) : Calls Try.prog 44 #[.slice A 0 c] w (partBPost none w) := by
  go_enter Try.func44, Try.ntmps44
  go_wp2_with fail
  exact bodyPost_ret (v := .tuple #[.agg #[.int .i64 0, .int .i64 0, .int .i64 0, .int .i64 0, .string ⟨#[]⟩], .int .i64 0, .bool false]) (by simp [results, Try.results44, go_sem]) rfl ⟨⟨⟨0, 0, ⟨0, 0, ⟨#[]⟩⟩⟩, 0, rfl⟩, below_alloc (Below.refl _ _) _⟩
set_option maxHeartbeats 1000000 in
set_option maxRecDepth 100000 in
theorem partb_code (k : Int) (r : List Int) (A : Option Addr) (c : Nat) (w : World) (hr : Kd.C (Kd.int .u8) w A (r.length + 1) (k :: r)) (hc : r.length + 1 ≤ c) (hb : byteL (k :: r)) (hl : (k :: r).length < 4611686018427387904) (h0 : ¬ k = 0) (h1 : ¬ k = 1) : Calls Try.prog 44 #[.slice A (r.length + 1) c] w (partBPost (some (⟨k, 0, zeroV⟩, 1)) w) := by
  obtain ⟨ad, e, z0⟩ := Kd.at_int hr 0 (by decide) (by omega)
  subst e
  have z1 : w.cell? ad = some (.int .u8 k) := by have h := z0; rw [show (0 : Int).toNat = 0 from rfl, addr_zero] at h; exact h
  have z2 : w.cell? (ad.add 0) = some (.int .u8 k) := z0
  have z3 : ∀ o, (w.alloc o).cell? ad = some (.int .u8 k) := fun o => cell_later o z1
  have z4 : ∀ o, (w.alloc o).cell? (ad.add 0) = some (.int .u8 k) := fun o => cell_later o z2
  obtain ⟨hk0, hk1⟩ := hb k (by simp)
  have hwk : IntKind.i64.wrap k = k := IntWalk.i64_in _ (by omega)
  have hlen : (((r.length + 1 : Nat) : Int) == 0) = false := beq_eq_false_iff_ne.2 (by omega)
  have hlen2 : ((r.length : Int) + 1 == 0) = false := beq_eq_false_iff_ne.2 (by omega)
  have hlen3 : ¬ (r.length : Int) + 1 = 0 := by omega
  have h0b : (k == 0) = false := beq_eq_false_iff_ne.2 h0
  have h1b : (k == 1) = false := beq_eq_false_iff_ne.2 h1
  clear z0 hr hc hb hl h0 h1
  go_enter Try.func44, Try.ntmps44
  go_wp2_with fail
  exact bodyPost_ret (v := .tuple #[.agg #[.int .i64 k, .int .i64 0, .int .i64 0, .int .i64 0, .string ⟨#[]⟩], .int .i64 1, .bool true]) (by simp [results, Try.results44, go_sem]) rfl ⟨rfl, below_alloc (below_alloc (Below.refl _ _) _) _⟩
set_option maxHeartbeats 1000000 in
set_option maxRecDepth 100000 in
theorem partb_short (k : Int) (r : List Int) (A : Option Addr) (c : Nat) (w : World) (hr : Kd.C (Kd.int .u8) w A (r.length + 1) (k :: r)) (hc : r.length + 1 ≤ c) (hb : byteL (k :: r)) (hl : (k :: r).length < 4611686018427387904) (h1 : k = 1) (h2 : r = []) : Calls Try.prog 44 #[.slice A (r.length + 1) c] w (partBPost none w) := by
  obtain ⟨ad, e, z0⟩ := Kd.at_int hr 0 (by decide) (by omega)
  subst e
  have z1 : w.cell? ad = some (.int .u8 k) := by have h := z0; rw [show (0 : Int).toNat = 0 from rfl, addr_zero] at h; exact h
  have z2 : w.cell? (ad.add 0) = some (.int .u8 k) := z0
  have z3 : ∀ o, (w.alloc o).cell? ad = some (.int .u8 k) := fun o => cell_later o z1
  have z4 : ∀ o, (w.alloc o).cell? (ad.add 0) = some (.int .u8 k) := fun o => cell_later o z2
  obtain ⟨hk0, hk1⟩ := hb k (by simp)
  have hwk : IntKind.i64.wrap k = k := IntWalk.i64_in _ (by omega)
  have hlen : (((r.length + 1 : Nat) : Int) == 0) = false := beq_eq_false_iff_ne.2 (by omega)
  have hlen2 : ((r.length : Int) + 1 == 0) = false := beq_eq_false_iff_ne.2 (by omega)
  have hlen3 : ¬ (r.length : Int) + 1 = 0 := by omega
  subst h1 h2
  clear z0 hr hc hb hl hlen hlen2 hlen3
  go_enter Try.func44, Try.ntmps44
  go_wp2_with fail
  exact bodyPost_ret (v := .tuple #[.agg #[.int .i64 1, .int .i64 0, .int .i64 0, .int .i64 0, .string ⟨#[]⟩], .int .i64 0, .bool false]) (by simp [results, Try.results44, go_sem]) rfl ⟨⟨⟨1, 0, ⟨0, 0, ⟨#[]⟩⟩⟩, 0, rfl⟩, below_alloc (below_alloc (Below.refl _ _) _) _⟩
set_option maxHeartbeats 1000000 in
set_option maxRecDepth 100000 in
theorem partb_load (a : Int) (r : List Int) (A : Option Addr) (c : Nat) (w : World) (hr : Kd.C (Kd.int .u8) w A (r.length + 1 + 1) (1 :: a :: r)) (hc : r.length + 1 + 1 ≤ c) (hb : byteL (1 :: a :: r)) (hl : (1 :: a :: r).length < 4611686018427387904) : Calls Try.prog 44 #[.slice A (r.length + 1 + 1) c] w (partBPost (some (⟨1, a, zeroV⟩, 2)) w) := by
  obtain ⟨ad, e, z0⟩ := Kd.at_int hr 0 (by decide) (by omega)
  subst e
  have z1 : w.cell? ad = some (.int .u8 1) := by have h := z0; rw [show (0 : Int).toNat = 0 from rfl, addr_zero] at h; exact h
  have z2 : w.cell? (ad.add 0) = some (.int .u8 1) := z0
  have z3 : ∀ o, (w.alloc o).cell? ad = some (.int .u8 1) := fun o => cell_later o z1
  have z4 : ∀ o, (w.alloc o).cell? (ad.add 0) = some (.int .u8 1) := fun o => cell_later o z2
  obtain ⟨hk0, hk1⟩ := hb a (by simp)
  have hwk : IntKind.i64.wrap a = a := IntWalk.i64_in _ (by omega)
  have hlen : (((r.length + 1 + 1 : Nat) : Int) == 0) = false := beq_eq_false_iff_ne.2 (by omega)
  have hlen2 : ((r.length : Int) + 1 + 1 == 0) = false := beq_eq_false_iff_ne.2 (by omega)
  have hlen3 : ¬ (r.length : Int) + 1 + 1 = 0 := by omega
  obtain ⟨ad2, e2, y0⟩ := Kd.at_int hr 1 (by decide) (by omega)
  cases e2
  have y1 : w.cell? ⟨ad.block, ad.off + 1, none⟩ = some (.int .u8 a) := by have h := y0; rw [show (1 : Int).toNat = 1 from rfl, add_field _ _ 1 (by omega)] at h; exact h
  have y2 : w.cell? (ad.add 1) = some (.int .u8 a) := y0
  have y3 : ∀ o o2, ((w.alloc o).alloc o2).cell? ⟨ad.block, ad.off + 1, none⟩ = some (.int .u8 a) := fun o o2 => cell_later o2 (cell_later o y1)
  have y4 : ∀ o o2, ((w.alloc o).alloc o2).cell? (ad.add 1) = some (.int .u8 a) := fun o o2 => cell_later o2 (cell_later o y2)
  have hw1 : IntKind.i64.wrap 1 = 1 := by decide
  have hge : ¬ (r.length : Int) + 1 + 1 < 2 := by omega
  have hged : decide ((r.length : Int) + 1 + 1 < 2) = false := decide_eq_false hge
  have hlt1 : (1 : Int) < (r.length : Int) + 1 + 1 := by omega
  clear z0 hr hc hb hl y0
  go_enter Try.func44, Try.ntmps44
  go_wp2_with fail
  exact bodyPost_ret (v := .tuple #[.agg #[.int .i64 1, .int .i64 a, .int .i64 0, .int .i64 0, .string ⟨#[]⟩], .int .i64 2, .bool true]) (by simp [results, Try.results44, go_sem]) rfl ⟨rfl, below_alloc (below_alloc (Below.refl _ _) _) _⟩
set_option maxHeartbeats 1000000 in
set_option maxRecDepth 100000 in
theorem partb_push {x : SValue} {m : Nat} (r : List Int) (A : Option Addr) (c : Nat) (w : World) (hr : Kd.C (Kd.int .u8) w A (r.length + 1) (0 :: r)) (hc : r.length + 1 ≤ c) (hb : byteL (0 :: r)) (hl : (0 :: r).length < 4611686018427387904) (hg : gotV (getV r) = (x, m, true)) : Calls Try.prog 44 #[.slice A (r.length + 1) c] w (partBPost (some (⟨0, 0, x⟩, m + 1)) w) := by
  obtain ⟨ad, e, z0⟩ := Kd.at_int hr 0 (by decide) (by omega)
  subst e
  have z1 : w.cell? ad = some (.int .u8 0) := by have h := z0; rw [show (0 : Int).toNat = 0 from rfl, addr_zero] at h; exact h
  have z2 : w.cell? (ad.add 0) = some (.int .u8 0) := z0
  have z3 : ∀ o, (w.alloc o).cell? ad = some (.int .u8 0) := fun o => cell_later o z1
  have z4 : ∀ o, (w.alloc o).cell? (ad.add 0) = some (.int .u8 0) := fun o => cell_later o z2
  obtain ⟨hk0, hk1⟩ := hb 0 (by simp)
  have hwk : IntKind.i64.wrap 0 = 0 := IntWalk.i64_in _ (by omega)
  have hlen : (((r.length + 1 : Nat) : Int) == 0) = false := beq_eq_false_iff_ne.2 (by omega)
  have hlen2 : ((r.length : Int) + 1 == 0) = false := beq_eq_false_iff_ne.2 (by omega)
  have hlen3 : ¬ (r.length : Int) + 1 = 0 := by omega
  obtain ⟨i0, hi0, _, hsz0, _⟩ := info_parts info5
  obtain ⟨A', hcut, hC', hlc⟩ := drop_row (P := Try.prog) (d := Kd.int .u8) Try.underlying29 hi0 hsz0 (some ad) c (0 :: r) 1 1 rfl (by simp) (by simpa using hc)
  have HROW := Aside0.mk (hC' w hr)
  have HLC := Aside0.mk hlc
  have hcut2 : ∀ W : World, (Instr.slice 29 (.slice (some ad) (r.length + 1) c) (some (.int .i64 1)) none none).run Try.prog W = .ok (.slice A' r.length (c - 1)) W := hcut
  have HBY := Aside0.mk (show byteL r from fun z hz => hb z (by simp [hz]))
  have hlr : r.length < 4611686018427387904 := by simp only [List.length_cons] at hl; omega
  have hm := gotV_len hg
  have hwm : IntKind.i64.wrap ((m : Int) + 1) = ((m + 1 : Nat) : Int) := by rw [IntWalk.i64_in _ (by omega)]; rfl
  have HG := Aside0.mk hg
  clear z0 hr hc hb hl hC' hi0 hsz0 hcut hlc hg
  go_enter Try.func44, Try.ntmps44
  go_wp2_with fail
  go_at_call 68
  refine (value_Get.told _ A' (c - 1) r (Kd.C_below HROW.out (below_alloc (below_alloc (Below.refl _ _) _) _)) HLC.out HBY.out hlr HG.out).mono ?_
  rintro e w1 ⟨rfl, hb1⟩
  have HB1 := Aside0.mk (below_step (below_alloc (below_alloc (Below.refl _ _) _) _) hb1)
  have HT := Aside0.mk (blk_alloc (blk_below (blk_alloc (blk_new w (.cells #[.int .i64 0, .int .i64 0, .int .i64 0, .int .i64 0, .string ⟨#[]⟩] 50)) (.cells #[.int .i64 0, .int .i64 0, .int .i64 0, .int .i64 0, .string ⟨#[]⟩] 50)) hb1) (.cells #[.int .i64 x.f0, .int .i64 x.f1, .string x.f2] 38))
  have HX := Aside0.mk (blk_alloc (blk_below (blk_new2 w (.cells #[.int .i64 0, .int .i64 0, .int .i64 0, .int .i64 0, .string ⟨#[]⟩] 50) (.cells #[.int .i64 0, .int .i64 0, .int .i64 0, .int .i64 0, .string ⟨#[]⟩] 50)) hb1) (.cells #[.int .i64 x.f0, .int .i64 x.f1, .string x.f2] 38))
  have HBV := Aside0.mk (below_alloc HB1.out (.cells #[.int .i64 x.f0, .int .i64 x.f1, .string x.f2] 38))
  clear hb1
  go_upto_region 7 with fail
  go_cut [] (fun wx => wx.heap[w.heap.size]? = some (.cells #[.int .i64 0, .int .i64 0, .int .i64 0, .int .i64 0, .string ⟨#[]⟩] 50) ∧ wx.heap[w.heap.size + 1]? = some (.cells #[.int .i64 0, .int .i64 0, .int .i64 x.f0, .int .i64 x.f1, .string x.f2] 50) ∧ Below w.heap.size w wx)
  case first =>
    obtain ⟨k1, _, k3, _⟩ := know HX.out
    go_wp2_with fail
    go_meet
    exact ⟨blk_far (blk_far (blk_far HT.out (p := ⟨w.heap.size + 1, 2, none⟩) (show w.heap.size ≠ w.heap.size + 1 by omega) (.int .i64 x.f0)) (p := ⟨w.heap.size + 1, 3, none⟩) (show w.heap.size ≠ w.heap.size + 1 by omega) (.int .i64 x.f1)) (p := ⟨w.heap.size + 1, 4, none⟩) (show w.heap.size ≠ w.heap.size + 1 by omega) (.string x.f2), blk_put (blk_put (blk_put HX.out 2 (.int .i64 x.f0) rfl) 3 (.int .i64 x.f1) rfl) 4 (.string x.f2) rfl, Below.setCell (p := ⟨w.heap.size + 1, 4, none⟩) (Below.setCell (p := ⟨w.heap.size + 1, 3, none⟩) (Below.setCell (p := ⟨w.heap.size + 1, 2, none⟩) HBV.out (Nat.le_succ _) _) (Nat.le_succ _) _) (Nat.le_succ _) _⟩
  case rest =>
  obtain ⟨hkt, hkx, hbw⟩ := hcut
  obtain ⟨w9, rfl⟩ : ∃ w9, w9 = wc := ⟨_, rfl⟩
  have HKT := Aside0.mk hkt
  have HBW := Aside0.mk hbw
  obtain ⟨j1, _, j3, _⟩ := know hkx
  obtain ⟨i1, _, i3, _⟩ := know hkt
  clear hkt hkx hbw
  have hfz := blk_put5 (HKT.out) (.int .i64 0) (.int .i64 0) (.int .i64 x.f0) (.int .i64 x.f1) (.string x.f2)
  have hz0 := blk_cell hfz 0
  have hz1 := blk_cell hfz 1
  have hz2 := blk_cell hfz 2
  have hz3 := blk_cell hfz 3
  have hz4 := blk_cell hfz 4
  go_wp2_with fail
  exact bodyPost_ret (v := .tuple #[.agg #[.int .i64 0, .int .i64 0, .int .i64 x.f0, .int .i64 x.f1, .string x.f2], .int .i64 ((m + 1 : Nat) : Int), .bool true]) (by simp [results, Try.results44, go_sem, hz0, hz1, hz2, hz3, hz4]) rfl ⟨rfl, below_put5 (HBW.out) (Nat.le_refl _) _ _ _ _ _⟩
set_option maxHeartbeats 1000000 in
set_option maxRecDepth 100000 in
theorem partb_bad {x : SValue} {m : Nat} (r : List Int) (A : Option Addr) (c : Nat) (w : World) (hr : Kd.C (Kd.int .u8) w A (r.length + 1) (0 :: r)) (hc : r.length + 1 ≤ c) (hb : byteL (0 :: r)) (hl : (0 :: r).length < 4611686018427387904) (hg : gotV (getV r) = (x, m, false)) : Calls Try.prog 44 #[.slice A (r.length + 1) c] w (partBPost none w) := by
  obtain ⟨ad, e, z0⟩ := Kd.at_int hr 0 (by decide) (by omega)
  subst e
  have z1 : w.cell? ad = some (.int .u8 0) := by have h := z0; rw [show (0 : Int).toNat = 0 from rfl, addr_zero] at h; exact h
  have z2 : w.cell? (ad.add 0) = some (.int .u8 0) := z0
  have z3 : ∀ o, (w.alloc o).cell? ad = some (.int .u8 0) := fun o => cell_later o z1
  have z4 : ∀ o, (w.alloc o).cell? (ad.add 0) = some (.int .u8 0) := fun o => cell_later o z2
  obtain ⟨hk0, hk1⟩ := hb 0 (by simp)
  have hwk : IntKind.i64.wrap 0 = 0 := IntWalk.i64_in _ (by omega)
  have hlen : (((r.length + 1 : Nat) : Int) == 0) = false := beq_eq_false_iff_ne.2 (by omega)
  have hlen2 : ((r.length : Int) + 1 == 0) = false := beq_eq_false_iff_ne.2 (by omega)
  have hlen3 : ¬ (r.length : Int) + 1 = 0 := by omega
  obtain ⟨i0, hi0, _, hsz0, _⟩ := info_parts info5
  obtain ⟨A', hcut, hC', hlc⟩ := drop_row (P := Try.prog) (d := Kd.int .u8) Try.underlying29 hi0 hsz0 (some ad) c (0 :: r) 1 1 rfl (by simp) (by simpa using hc)
  have HROW := Aside0.mk (hC' w hr)
  have HLC := Aside0.mk hlc
  have hcut2 : ∀ W : World, (Instr.slice 29 (.slice (some ad) (r.length + 1) c) (some (.int .i64 1)) none none).run Try.prog W = .ok (.slice A' r.length (c - 1)) W := hcut
  have HBY := Aside0.mk (show byteL r from fun z hz => hb z (by simp [hz]))
  have hlr : r.length < 4611686018427387904 := by simp only [List.length_cons] at hl; omega
  have hm := gotV_len hg
  have hwm : IntKind.i64.wrap ((m : Int) + 1) = ((m + 1 : Nat) : Int) := by rw [IntWalk.i64_in _ (by omega)]; rfl
  have HG := Aside0.mk hg
  clear z0 hr hc hb hl hC' hi0 hsz0 hcut hlc hg
  go_enter Try.func44, Try.ntmps44
  go_wp2_with fail
  go_at_call 68
  refine (value_Get.told _ A' (c - 1) r (Kd.C_below HROW.out (below_alloc (below_alloc (Below.refl _ _) _) _)) HLC.out HBY.out hlr HG.out).mono ?_
  rintro e w1 ⟨rfl, hb1⟩
  have HB1 := Aside0.mk (below_step (below_alloc (below_alloc (Below.refl _ _) _) _) hb1)
  have HT := Aside0.mk (blk_alloc (blk_below (blk_alloc (blk_new w (.cells #[.int .i64 0, .int .i64 0, .int .i64 0, .int .i64 0, .string ⟨#[]⟩] 50)) (.cells #[.int .i64 0, .int .i64 0, .int .i64 0, .int .i64 0, .string ⟨#[]⟩] 50)) hb1) (.cells #[.int .i64 x.f0, .int .i64 x.f1, .string x.f2] 38))
  have HX := Aside0.mk (blk_alloc (blk_below (blk_new2 w (.cells #[.int .i64 0, .int .i64 0, .int .i64 0, .int .i64 0, .string ⟨#[]⟩] 50) (.cells #[.int .i64 0, .int .i64 0, .int .i64 0, .int .i64 0, .string ⟨#[]⟩] 50)) hb1) (.cells #[.int .i64 x.f0, .int .i64 x.f1, .string x.f2] 38))
  have HBV := Aside0.mk (below_alloc HB1.out (.cells #[.int .i64 x.f0, .int .i64 x.f1, .string x.f2] 38))
  clear hb1
  go_upto_region 7 with fail
  go_cut [] (fun wx => wx.heap[w.heap.size]? = some (.cells #[.int .i64 0, .int .i64 0, .int .i64 0, .int .i64 0, .string ⟨#[]⟩] 50) ∧ wx.heap[w.heap.size + 1]? = some (.cells #[.int .i64 0, .int .i64 0, .int .i64 x.f0, .int .i64 x.f1, .string x.f2] 50) ∧ Below w.heap.size w wx)
  case first =>
    obtain ⟨k1, _, k3, _⟩ := know HX.out
    go_wp2_with fail
    go_meet
    exact ⟨blk_far (blk_far (blk_far HT.out (p := ⟨w.heap.size + 1, 2, none⟩) (show w.heap.size ≠ w.heap.size + 1 by omega) (.int .i64 x.f0)) (p := ⟨w.heap.size + 1, 3, none⟩) (show w.heap.size ≠ w.heap.size + 1 by omega) (.int .i64 x.f1)) (p := ⟨w.heap.size + 1, 4, none⟩) (show w.heap.size ≠ w.heap.size + 1 by omega) (.string x.f2), blk_put (blk_put (blk_put HX.out 2 (.int .i64 x.f0) rfl) 3 (.int .i64 x.f1) rfl) 4 (.string x.f2) rfl, Below.setCell (p := ⟨w.heap.size + 1, 4, none⟩) (Below.setCell (p := ⟨w.heap.size + 1, 3, none⟩) (Below.setCell (p := ⟨w.heap.size + 1, 2, none⟩) HBV.out (Nat.le_succ _) _) (Nat.le_succ _) _) (Nat.le_succ _) _⟩
  case rest =>
  obtain ⟨hkt, hkx, hbw⟩ := hcut
  obtain ⟨w9, rfl⟩ : ∃ w9, w9 = wc := ⟨_, rfl⟩
  have HKT := Aside0.mk hkt
  have HBW := Aside0.mk hbw
  obtain ⟨j1, _, j3, _⟩ := know hkx
  obtain ⟨i1, _, i3, _⟩ := know hkt
  clear hkt hkx hbw
  have hfz := blk_put5 (HKT.out) (.int .i64 0) (.int .i64 0) (.int .i64 x.f0) (.int .i64 x.f1) (.string x.f2)
  have hz0 := blk_cell hfz 0
  have hz1 := blk_cell hfz 1
  have hz2 := blk_cell hfz 2
  have hz3 := blk_cell hfz 3
  have hz4 := blk_cell hfz 4
  go_wp2_with fail
  exact bodyPost_ret (v := .tuple #[.agg #[.int .i64 0, .int .i64 0, .int .i64 x.f0, .int .i64 x.f1, .string x.f2], .int .i64 ((m + 1 : Nat) : Int), .bool false]) (by simp [results, Try.results44, go_sem, hz0, hz1, hz2, hz3, hz4]) rfl ⟨⟨⟨0, 0, x⟩, _, rfl⟩, below_put5 (HBW.out) (Nat.le_refl _) _ _ _ _ _⟩
theorem partb_told (l : List Int) (A : Option Addr) (c : Nat) (w : World) (hr : Kd.C (Kd.int .u8) w A l.length l) (hc : l.length ≤ c) (hb : byteL l) (hl : l.length < 4611686018427387904) {r : Option (SOp × Nat)} (hq : getP l = r) : Calls Try.prog 44 #[.slice A l.length c] w (partBPost r w) := by
  cases l with
  | nil =>
    subst hq
    exact partb_nil A c w
  | cons k r' =>
    simp only [getP] at hq
    by_cases h0 : k = 0
    · subst h0
      rw [if_pos rfl] at hq
      obtain ⟨⟨x, m, b⟩, hg⟩ : ∃ q, gotV (getV r') = q := ⟨_, rfl⟩
      cases hv : getV r' with
      | none =>
        rw [hv] at hq hg
        subst hq
        simp only [gotV, Prod.mk.injEq] at hg
        obtain ⟨rfl, rfl, rfl⟩ := hg
        exact partb_bad r' A c w hr hc hb hl (by rw [hv]; rfl)
      | some p =>
        obtain ⟨y, j⟩ := p
        rw [hv] at hq hg
        subst hq
        simp only [gotV, Prod.mk.injEq] at hg
        obtain ⟨rfl, rfl, rfl⟩ := hg
        exact partb_push r' A c w hr hc hb hl (by rw [hv]; rfl)
    · rw [if_neg h0] at hq
      by_cases h1 : k = 1
      · rw [if_pos h1] at hq
        subst h1
        cases r' with
        | nil => subst hq; exact partb_short 1 [] A c w hr hc hb hl rfl rfl
        | cons a r'' => subst hq; exact partb_load a r'' A c w hr hc hb hl
      · rw [if_neg h1] at hq
        subst hq
        exact partb_code k r' A c w hr hc hb hl h0 h1
end Go.Proofs.Ytncllbokeofdjaa.P

namespace Go.Proofs.Ytncllbokeofdjaa.P
open Go.RowKit Go.Proofs.YtncllbokeofdjaaW.PrintWords Go.Proofs.YtncllbokeofdjaaW.PrintLast Go.Proofs.YtncllbokeofdjaaW.PrintMore
attribute [local go_sem] max2_int min2_int max_two min_two max_three min_three max_four min_four   -- for this text's walks alone
set_option linter.unusedVariables false
set_option linter.unusedSimpArgs false
def opsPost3 (x : List SOp) (n : Nat) (b : Bool) (w : World) (e : Ending) (w' : World) : Prop := ∃ A c, (e = .returned (.tuple #[.slice A x.length c, .int .i64 (n : Int), .bool b]) ∧ x.length ≤ c ∧ Kd.C kOp w' A x.length x) ∧ Below w.heap.size w w'
def getORel (l : List Int) (n : Nat) (w : World) (k : Nat) (at_ v8 : Value) (w' : World) : Prop := ∃ (a : Nat) (fs : List SOp), at_ = .int .i64 (a : Int) ∧ k ≤ n ∧ a ≤ l.length ∧ fs.length = k ∧ (∀ x ∈ fs, i64V x.f2) ∧ getO l = contO l (n - k) a fs ∧ Kd.R kOp 50 w' w.heap.size (fun _ => True) v8 fs ∧ Below w.heap.size w w'
def opsPostR (x : List SOp) (n : Nat) (b : Bool) (w : World) (e : Ending) (w' : World) : Prop := ∃ v, e = .returned (.tuple #[v, .int .i64 (n : Int), .bool b]) ∧ Kd.R kOp 50 w' w.heap.size (fun _ => True) v x ∧ Below w.heap.size w w'
theorem none_opsR {w : World} {e : Ending} {w' : World} (he : e = .returned (.tuple #[.slice none 0 0, .int .i64 0, .bool false])) (hb : Below w.heap.size w w') : opsPostR [] 0 false w e w' := ⟨_, he, Kd.R_nil _ _ _ _ _, hb⟩
set_option maxHeartbeats 1000000 in
set_option maxRecDepth 100000 in
theorem getO_no1 (w : World) (A : Option Addr) (c : Nat) (l : List Int) (hr : Kd.C (Kd.int .u8) w A l.length l) (hc : l.length ≤ c) (hb : byteL l) (hl : l.length < 4611686018427387904) (hg : getN l = none) : Calls Try.prog 21 #[.slice A l.length c] w (opsPostR [] 0 false w) := by
  go_enter Try.func21, Try.ntmps21
  go_wp2_with fail
  go_at_call 43
  refine (le_Get.no A c l _ hg hb hl hr hc).mono ?_
  rintro e w1 ⟨rfl, hb1⟩
  go_wp2_with fail
  go_ret3
  exact none_opsR rfl hb1
set_option maxHeartbeats 1000000 in
set_option maxRecDepth 100000 in
theorem getO_no2 (w : World) (A : Option Addr) (c : Nat) (l : List Int) (hr : Kd.C (Kd.int .u8) w A l.length l) (hc : l.length ≤ c) (hb : byteL l) (hl : l.length < 4611686018427387904) {n u : Nat} (hg : getN l = some (n, u)) (hn : ¬ n ≤ 12) : Calls Try.prog 21 #[.slice A l.length c] w (opsPostR [] 0 false w) := by
  have hgt : (n : Int) > 12 := by omega
  have hgt2 : (12 : Int) < (n : Int) := by omega
  have hd : decide ((12 : Int) < (n : Int)) = true := decide_eq_true hgt2
  go_enter Try.func21, Try.ntmps21
  go_wp2_with fail
  go_at_call 43
  refine (le_Get.yes A c l _ hg hb hl hr hc).mono ?_
  rintro e w1 ⟨rfl, hb1⟩
  go_wp2_with fail
  go_ret3
  exact none_opsR rfl hb1
set_option maxHeartbeats 8000000 in
set_option maxRecDepth 100000 in
theorem getO_go (w : World) (A : Option Addr) (c : Nat) (l : List Int) (hr : Kd.C (Kd.int .u8) w A l.length l) (hc : l.length ≤ c) (hb : byteL l) (hl : l.length < 4611686018427387904) {n u : Nat} (hg : getN l = some (n, u)) (hn : n ≤ 12) {x : List SOp} {m : Nat} {b : Bool} (hq : gotO (getO l) = (x, m, b)) : Calls Try.prog 21 #[.slice A l.length c] w (opsPostR x m b w) := by
  obtain ⟨i0, hi0, _, hsz0, _⟩ := info_parts info5
  have HR := Aside0.mk hr
  have HC := Aside0.mk hc
  have HBY := Aside0.mk hb
  have HG := Aside0.mk hg
  have HQ := Aside0.mk hq
  have hngt : ¬ (12 : Int) < (n : Int) := by omega
  have hd : decide ((12 : Int) < (n : Int)) = false := decide_eq_false hngt
  have hul := (getN_used hg).2.1
  have HST := Aside0.mk (getO_some (show getM l 12 = some (n, u) from by rw [getM_some hg, if_pos hn]))
  clear hr hc hb hg hq
  go_enter Try.func21, Try.ntmps21
  go_wp2_with fail
  go_at_call 43
  refine (le_Get.yes A c l _ HG.out HBY.out hl HR.out HC.out).mono ?_
  rintro e w1 ⟨rfl, hb1⟩
  have HB1 := Aside0.mk hb1
  clear hb1
  go_wp2_with fail
  go_loopw [6, 8, 9, 10, 11, 25] (fun v6 v8 _ _ _ v25 w' => ∃ k : Nat, v25 = .int .u64 (k : Int) ∧ getORel l n w k v6 v8 w') (fun _ _ _ _ _ i _ => n - (intOf i).toNat)
  case atStart => exact ⟨0, rfl, u, [], rfl, Nat.zero_le _, hul, rfl, (fun _ h => by cases h), by rw [Nat.sub_zero]; exact HST.out, Kd.R_nil _ _ _ _ _, HB1.out⟩
  case round =>
    obtain ⟨k, rfl, a, fs, rfl, hk, ha, hfl, hfi, hcont, ho, hbw⟩ := hrel
    have HO := Aside0.mk ho
    have HB := Aside0.mk hbw
    have HFI := Aside0.mk hfi
    have HCT := Aside0.mk hcont
    have HFL := Aside0.mk hfl
    have hfl12 : fs.length ≤ 12 := by omega
    clear ho hbw hfi hcont HB1 hfl
    by_cases hlt : k < n
    · obtain ⟨A4, hcut4, hD4, hlc4⟩ := drop_row (P := Try.prog) (d := Kd.int .u8) Try.underlying29 hi0 hsz0 A c l a (a : Int) rfl ha HC.out
      have HD4 := Aside0.mk (hD4 w HR.out)
      have HL4 := Aside0.mk hlc4
      have hln4 : a + (l.drop a).length = l.length := by rw [List.length_drop]; omega
      have hstep := contO_step l (n - k - 1) a fs
      rw [show n - k - 1 + 1 = n - k from by omega] at hstep
      have HBD := Aside0.mk (byteL_drop HBY.out a)
      have hld : (l.drop a).length < 4611686018427387904 := by omega
      have hlti : (k : Int) < (n : Int) := by omega
      have hltd : decide ((k : Int) < (n : Int)) = true := decide_eq_true hlti
      clear hD4 hlc4
      cases hg4 : getP (l.drop a) with
      | none =>
        have HN : Aside0 (getO l = none) := ⟨by rw [HCT.out, hstep, hg4]⟩
        have HG4 := Aside0.mk hg4
        have hq2 := HQ.out
        rw [HN.out] at hq2
        simp only [gotO, Prod.mk.injEq] at hq2
        obtain ⟨rfl, rfl, rfl⟩ := hq2
        clear hg4 hstep hi0 hsz0
        generalize l.drop a = ld4 at *
        go_wp2_with fail
        go_at_call 44
        refine (partb_told ld4 A4 _ _ (Kd.C_below HD4.out HB.out) HL4.out HBD.out hld HG4.out).mono ?_
        rintro e w4 ⟨⟨z, zn, rfl⟩, hb4⟩
        unfold cellsP
        go_wp2_with fail
        go_ret3
        exact none_opsR rfl (below_alloc (below_step HB.out hb4) _)
      | some p4 =>
        obtain ⟨z, zn⟩ := p4
        obtain ⟨hz1, hz2, hz3⟩ := getP_used HBD.out hg4
        rw [hg4] at hstep
        simp only at hstep
        have HST4 := Aside0.mk (HCT.out.trans hstep)
        have HG4 := Aside0.mk hg4
        have HZ1 := Aside0.mk hz1
        have hsum : IntKind.i64.wrap ((a : Int) + (zn : Int)) = ((a + zn : Nat) : Int) := by rw [IntWalk.i64_in _ (by omega)]; rfl
        have hwk : IntKind.u64.wrap ((k : Int) + 1) = ((k + 1 : Nat) : Int) := by rw [show (k : Int) + 1 = ((k + 1 : Nat) : Int) from rfl]; exact u64_small' (by omega)
        clear hg4 hstep hi0 hsz0 hz1
        generalize l.drop a = ld4 at *
        go_wp2_with fail
        go_at_call 44
        refine (partb_told ld4 A4 _ _ (Kd.C_below HD4.out HB.out) HL4.out HBD.out hld HG4.out).mono ?_
        rintro e w4 ⟨rfl, hb4⟩
        unfold cellsP
        have HB4 := Aside0.mk (below_alloc (below_step HB.out hb4) (.cells #[.int .i64 z.f0, .int .i64 z.f1, .int .i64 z.f2.f0, .int .i64 z.f2.f1, .string z.f2.f2] 50))
        have HO4 := Aside0.mk (Kd.R_alloc (Kd.R_below HO.out hb4) (.cells #[.int .i64 z.f0, .int .i64 z.f1, .int .i64 z.f2.f0, .int .i64 z.f2.f1, .string z.f2.f2] 50))
        have HS4 := Aside0.mk (World.size_alloc w4 (.cells #[.int .i64 z.f0, .int .i64 z.f1, .int .i64 z.f2.f0, .int .i64 z.f2.f1, .string z.f2.f2] 50))
        clear hb4
        go_wp2_with ((with_reducible refine gate_builtin (b := .append) (xs := #[.tmp 37, .tmp 39]) rfl ?_); at_builtin; refine Kd.R_append kOp (w0 := w) w.heap.size rfl (.tmp 37) (.tmp 39) 28 50 (.agg #[.int .i64 0, .int .i64 0, .int .i64 0, .int .i64 0, .string ⟨#[]⟩]) 48 rfl Try.underlying28 infoOp rfl ?h1 ?h2 u8 fs z [.int .i64 z.f0, .int .i64 z.f1, .int .i64 z.f2.f0, .int .i64 z.f2.f1, .string z.f2.f2] (fun _ => True) (fun _ => False) ?hs ?hx ?aP (fun _ hk => hk.elim) (fun _ _ => trivial) ?aO ?aB ?aS ?aL ?_; (case h1 => decide); (case h2 => decide); (case hs => rfl); (case hx => first | rfl | (show Value.slice (some ⟨w4.heap.size + 1, 0, none⟩) 1 1 = _; rw [World.size_alloc])); (case aP => exact kOp_mkM _ _ _ z); (case aO => exact HO4.out); (case aB => exact HB4.out); (case aS => exact below_size HB4.out); (case aL => omega); intro v5 w5 ho5 hb5 hg5 hat5; have HO5 := Aside0.mk ho5; have HB5 := Aside0.mk hb5; clear ho5 hb5 hg5 hat5)
        go_roundw
        case rel => exact ⟨k + 1, by first | go_num | (rw [hwk]) | rfl, a + zn, fs ++ [z], by first | go_num | rfl, by omega, by omega, by rw [List.length_append, HFL.out]; rfl, fun y hy => by rcases List.mem_append.1 hy with h | h; exact HFI.out y h; rw [List.mem_singleton.1 h]; exact HZ1.out, by rw [show n - (k + 1) = n - k - 1 from by omega]; exact HST4.out, HO5.out, HB5.out⟩
        case measure => simp [intOf]; omega
    · obtain rfl : k = n := by omega
      have hnl : ¬ (k : Int) < (k : Int) := by omega
      have hcte := HCT.out
      rw [Nat.sub_self, contO_end] at hcte
      obtain ⟨A5, c5, rfl, hc5, hr5⟩ := Kd.R_reads HO.out
      have HC5 := Aside0.mk hc5
      have HR5 := Aside0.mk hr5
      have hq2 := HQ.out
      rw [hcte] at hq2
      clear hc5 hr5 hcte hi0 hsz0
      cases hmf : mayO fs with
      | false =>
        rw [hmf, if_neg (by decide)] at hq2
        simp only [gotO, Prod.mk.injEq] at hq2
        obtain ⟨rfl, rfl, rfl⟩ := hq2
        have HMF := Aside0.mk hmf
        clear hmf
        go_wp2_with fail
        go_at_call 32
        refine (mayO_told fs A5 c5 _ HR5.out HC5.out HFI.out HMF.out).mono ?_
        rintro e w6 ⟨rfl, hb6⟩
        go_wp2_with fail
        go_ret3
        exact none_opsR rfl (below_step HB.out hb6)
      | true =>
        rw [hmf, if_pos rfl] at hq2
        simp only [gotO, Prod.mk.injEq] at hq2
        obtain ⟨rfl, rfl, rfl⟩ := hq2
        have HMF := Aside0.mk hmf
        clear hmf
        go_wp2_with fail
        go_at_call 32
        refine (mayO_told fs A5 c5 _ HR5.out HC5.out HFI.out HMF.out).mono ?_
        rintro e w6 ⟨rfl, hb6⟩
        go_wp2_with fail
        go_ret3
        exact ⟨_, rfl, Kd.R_below HO.out hb6, below_step HB.out hb6⟩
theorem getO_toldR (w : World) (A : Option Addr) (c : Nat) (l : List Int) (hr : Kd.C (Kd.int .u8) w A l.length l) (hc : l.length ≤ c) (hb : byteL l) (hl : l.length < 4611686018427387904) {x : List SOp} {m : Nat} {b : Bool} (hq : gotO (getO l) = (x, m, b)) : Calls Try.prog 21 #[.slice A l.length c] w (opsPostR x m b w) := by
  cases hg : getN l with
  | none =>
    rw [getO_none (getM_none hg)] at hq
    simp only [gotO, Prod.mk.injEq] at hq
    obtain ⟨rfl, rfl, rfl⟩ := hq
    exact getO_no1 w A c l hr hc hb hl hg
  | some p =>
    obtain ⟨n, u⟩ := p
    by_cases hn : n ≤ 12
    · exact getO_go w A c l hr hc hb hl hg hn hq
    · rw [getO_none (show getM l 12 = none from by rw [getM_some hg, if_neg hn])] at hq
      simp only [gotO, Prod.mk.injEq] at hq
      obtain ⟨rfl, rfl, rfl⟩ := hq
      exact getO_no2 w A c l hr hc hb hl hg hn
theorem getO_told (w : World) (A : Option Addr) (c : Nat) (l : List Int) (hr : Kd.C (Kd.int .u8) w A l.length l) (hc : l.length ≤ c) (hb : byteL l) (hl : l.length < 4611686018427387904) {x : List SOp} {m : Nat} {b : Bool} (hq : gotO (getO l) = (x, m, b)) : Calls Try.prog 21 #[.slice A l.length c] w (opsPost3 x m b w) := by
  refine (getO_toldR w A c l hr hc hb hl hq).mono ?_
  rintro e w1 ⟨v, rfl, ho, hb1⟩
  obtain ⟨A1, c1, rfl, hc1, hr1⟩ := Kd.R_reads ho
  exact ⟨A1, c1, ⟨rfl, hc1, hr1⟩, hb1⟩
end Go.Proofs.Ytncllbokeofdjaa.P

namespace Go.Proofs.Ytncllbokeofdjaa.P
open Go.RowKit Go.Proofs.YtncllbokeofdjaaW.PrintWords Go.Proofs.YtncllbokeofdjaaW.PrintLast Go.Proofs.YtncllbokeofdjaaW.PrintMore
attribute [local go_sem] max2_int min2_int max_two min_two max_three min_three max_four min_four   -- for this text's walks alone
set_option linter.unusedVariables false
set_option linter.unusedSimpArgs false
def valErrPost (y : SValue) (n : Int) (w : World) (e : Ending) (w' : World) : Prop := e = .returned (.tuple #[.agg #[.int .i64 y.f0, .int .i64 y.f1, .string y.f2], .int .i64 n]) ∧ Below w.heap.size w w'
theorem mayE_oks {e : SEvent} (h : mayE e = true) (hwf : ∀ v ∈ e.f2, i64V v) : okVs e.f2 := fun v hv => ⟨(mayE_iff.1 h).2.2.2.2 v hv, hwf v hv⟩
set_option maxHeartbeats 1000000 in
set_option maxRecDepth 100000 in
theorem eval_no1 (x : SEvent) (A : Option Addr) (c : Nat) (l : List SOp) (Al : Option Addr) (cl : Nat) (w : World) (hr : Kd.C kValue w A x.f2.length x.f2) (hc : x.f2.length ≤ c) (hwf : ∀ v ∈ x.f2, i64V v) (hl : Kd.C kOp w Al l.length l) (hlc : l.length ≤ cl) (hwl : ∀ x ∈ l, i64V x.f2) (h1 : mayO l = false) : Calls Try.prog 17 #[.agg #[.string x.f0, .int .i64 x.f1, .slice A x.f2.length c], .slice Al l.length cl] w (valErrPost zeroV 1 w) := by
  have HR := Aside0.mk hr
  have HC := Aside0.mk hc
  have HW := Aside0.mk hwf
  have HL := Aside0.mk hl
  have HLC := Aside0.mk hlc
  have HWL := Aside0.mk hwl
  have HM1 := Aside0.mk h1
  clear hr hc hwf hl hlc hwl h1
  go_enter Try.func17, Try.ntmps17
  go_wp2_with fail
  go_at_call 32
  refine (mayO_told l Al cl _ (Kd.C_below HL.out (below_alloc (below_alloc (Below.refl _ _) _) _)) HLC.out HWL.out HM1.out).mono ?_
  rintro e w1_ ⟨rfl, hb1_⟩
  have HB1_ := Aside0.mk (below_step (below_alloc (below_alloc (Below.refl _ _) _) _) hb1_)
  have HKe1_ := Aside0.mk (blk_below (blk_alloc (blk_new _ _) _) hb1_)
  obtain ⟨ke1a_, ke1b_, ke1c_, ke1d_⟩ := know HKe1_.out
  have HKr1_ := Aside0.mk (blk_below (blk_new2 _ _ _) hb1_)
  obtain ⟨kr1a_, kr1b_, kr1c_, kr1d_⟩ := know HKr1_.out
  clear hb1_
  have hfz := blk_put3 HKr1_.out (.int .i64 0) (.int .i64 0) (.string ⟨#[]⟩)
  have hz0 := blk_cell hfz 0
  have hz1 := blk_cell hfz 1
  have hz2 := blk_cell hfz 2
  go_wp2_with fail
  exact bodyPost_ret (v := .tuple #[.agg #[.int .i64 0, .int .i64 0, .string ⟨#[]⟩], .int .i64 1]) (by simp [results, Try.results17, go_sem, hz0, hz1, hz2]) rfl ⟨rfl, below_put3 (HB1_.out) (by omega) _ _ _⟩
set_option maxHeartbeats 1000000 in
set_option maxRecDepth 100000 in
theorem eval_no2 (x : SEvent) (A : Option Addr) (c : Nat) (l : List SOp) (Al : Option Addr) (cl : Nat) (w : World) (hr : Kd.C kValue w A x.f2.length x.f2) (hc : x.f2.length ≤ c) (hwf : ∀ v ∈ x.f2, i64V v) (hl : Kd.C kOp w Al l.length l) (hlc : l.length ≤ cl) (hwl : ∀ x ∈ l, i64V x.f2) (h1 : mayO l = true) (h2 : mayE x = false) : Calls Try.prog 17 #[.agg #[.string x.f0, .int .i64 x.f1, .slice A x.f2.length c], .slice Al l.length cl] w (valErrPost zeroV 1 w) := by
  have HR := Aside0.mk hr
  have HC := Aside0.mk hc
  have HW := Aside0.mk hwf
  have HL := Aside0.mk hl
  have HLC := Aside0.mk hlc
  have HWL := Aside0.mk hwl
  have HM1 := Aside0.mk h1
  have HM2 := Aside0.mk h2
  clear hr hc hwf hl hlc hwl h1 h2
  go_enter Try.func17, Try.ntmps17
  go_wp2_with fail
  go_at_call 32
  refine (mayO_told l Al cl _ (Kd.C_below HL.out (below_alloc (below_alloc (Below.refl _ _) _) _)) HLC.out HWL.out HM1.out).mono ?_
  rintro e w1_ ⟨rfl, hb1_⟩
  have HB1_ := Aside0.mk (below_step (below_alloc (below_alloc (Below.refl _ _) _) _) hb1_)
  have HKe1_ := Aside0.mk (blk_below (blk_alloc (blk_new _ _) _) hb1_)
  obtain ⟨ke1a_, ke1b_, ke1c_, ke1d_⟩ := know HKe1_.out
  have HKr1_ := Aside0.mk (blk_below (blk_new2 _ _ _) hb1_)
  obtain ⟨kr1a_, kr1b_, kr1c_, kr1d_⟩ := know HKr1_.out
  clear hb1_
  go_wp2_with fail
  go_at_call 37
  refine (event_May.told x A c _ (Kd.C_below HR.out (HB1_.out)) HC.out HW.out HM2.out).mono ?_
  rintro e w2_ ⟨rfl, hb2_⟩
  have HB2_ := Aside0.mk (below_step (HB1_.out) hb2_)
  have HKe2_ := Aside0.mk (blk_below (HKe1_.out) hb2_)
  obtain ⟨ke2a_, ke2b_, ke2c_, ke2d_⟩ := know HKe2_.out
  have HKr2_ := Aside0.mk (blk_below (HKr1_.out) hb2_)
  obtain ⟨kr2a_, kr2b_, kr2c_, kr2d_⟩ := know HKr2_.out
  clear ke1a_ ke1b_ ke1c_ ke1d_ kr1a_ kr1b_ kr1c_ kr1d_
  clear hb2_
  have hfz := blk_put3 HKr2_.out (.int .i64 0) (.int .i64 0) (.string ⟨#[]⟩)
  have hz0 := blk_cell hfz 0
  have hz1 := blk_cell hfz 1
  have hz2 := blk_cell hfz 2
  go_wp2_with fail
  exact bodyPost_ret (v := .tuple #[.agg #[.int .i64 0, .int .i64 0, .string ⟨#[]⟩], .int .i64 1]) (by simp [results, Try.results17, go_sem, hz0, hz1, hz2]) rfl ⟨rfl, below_put3 (HB2_.out) (by omega) _ _ _⟩
set_option maxHeartbeats 1000000 in
set_option maxRecDepth 100000 in
theorem eval_go (x : SEvent) (A : Option Addr) (c : Nat) (l : List SOp) (Al : Option Addr) (cl : Nat) (w : World) (hr : Kd.C kValue w A x.f2.length x.f2) (hc : x.f2.length ≤ c) (hwf : ∀ v ∈ x.f2, i64V v) (hl : Kd.C kOp w Al l.length l) (hlc : l.length ≤ cl) (hwl : ∀ x ∈ l, i64V x.f2) (h1 : mayO l = true) (h2 : mayE x = true) {y : SValue} {n : Int} (hq : endV (runV x.f2 false l []) = (y, n)) : Calls Try.prog 17 #[.agg #[.string x.f0, .int .i64 x.f1, .slice A x.f2.length c], .slice Al l.length cl] w (valErrPost y n w) := by
  have HR := Aside0.mk hr
  have HC := Aside0.mk hc
  have HW := Aside0.mk hwf
  have HL := Aside0.mk hl
  have HLC := Aside0.mk hlc
  have HWL := Aside0.mk hwl
  have HM1 := Aside0.mk h1
  have HM2 := Aside0.mk h2
  have HOK := Aside0.mk (mayE_oks h2 hwf)
  have HEV := Aside0.mk hq
  clear hr hc hwf hl hlc hwl h1 h2 hq
  go_enter Try.func17, Try.ntmps17
  go_wp2_with fail
  go_at_call 32
  refine (mayO_told l Al cl _ (Kd.C_below HL.out (below_alloc (below_alloc (Below.refl _ _) _) _)) HLC.out HWL.out HM1.out).mono ?_
  rintro e w1_ ⟨rfl, hb1_⟩
  have HB1_ := Aside0.mk (below_step (below_alloc (below_alloc (Below.refl _ _) _) _) hb1_)
  have HKe1_ := Aside0.mk (blk_below (blk_alloc (blk_new _ _) _) hb1_)
  obtain ⟨ke1a_, ke1b_, ke1c_, ke1d_⟩ := know HKe1_.out
  have HKr1_ := Aside0.mk (blk_below (blk_new2 _ _ _) hb1_)
  obtain ⟨kr1a_, kr1b_, kr1c_, kr1d_⟩ := know HKr1_.out
  clear hb1_
  go_wp2_with fail
  go_at_call 37
  refine (event_May.told x A c _ (Kd.C_below HR.out (HB1_.out)) HC.out HW.out HM2.out).mono ?_
  rintro e w2_ ⟨rfl, hb2_⟩
  have HB2_ := Aside0.mk (below_step (HB1_.out) hb2_)
  have HKe2_ := Aside0.mk (blk_below (HKe1_.out) hb2_)
  obtain ⟨ke2a_, ke2b_, ke2c_, ke2d_⟩ := know HKe2_.out
  have HKr2_ := Aside0.mk (blk_below (HKr1_.out) hb2_)
  obtain ⟨kr2a_, kr2b_, kr2c_, kr2d_⟩ := know HKr2_.out
  clear ke1a_ ke1b_ ke1c_ ke1d_ kr1a_ kr1b_ kr1c_ kr1d_
  clear hb2_
  go_wp2_with fail
  have HPB := Aside0.mk (blk_new w2_ (pileBlk (.slice none 0 0) (.slice A x.f2.length c) false))
  have HBL := Aside0.mk (below_alloc (HB2_.out) (pileBlk (.slice none 0 0) (.slice A x.f2.length c) false))
  have HLE := Aside0.mk (below_size (HB2_.out))
  have HRB := Aside0.mk (blk_alloc (HKr2_.out) (pileBlk (.slice none 0 0) (.slice A x.f2.length c) false))
  go_at_call 33
  refine (through_told (w2_.alloc (pileBlk (.slice none 0 0) (.slice A x.f2.length c) false)) w2_.heap.size A c x.f2 false Al cl l HPB.out (fun w' h => Kd.C_below HR.out (below_spares HBL.out h HLE.out)) (fun w' h => Kd.C_below HL.out (below_spares HBL.out h HLE.out)) HLC.out HOK.out HM1.out HWL.out HEV.out).mono ?_
  rintro e w9_ ⟨rfl, hs9_⟩
  have HB9 := Aside0.mk (below_spares HBL.out hs9_ HLE.out)
  have hrne : ¬ w.heap.size + 1 = w2_.heap.size := by have := blk_lt HKr2_.out; omega
  have HR9 := Aside0.mk (hs9_.blk HRB.out hrne)
  obtain ⟨r1_, r2_, r3_, r4_⟩ := know HR9.out
  clear hs9_ hrne ke2a_ ke2b_ ke2c_ ke2d_ kr2a_ kr2b_ kr2c_ kr2d_
  have hfz := blk_put3 HR9.out (.int .i64 y.f0) (.int .i64 y.f1) (.string y.f2)
  have hz0 := blk_cell hfz 0
  have hz1 := blk_cell hfz 1
  have hz2 := blk_cell hfz 2
  go_wp2_with fail
  exact bodyPost_ret (v := .tuple #[.agg #[.int .i64 y.f0, .int .i64 y.f1, .string y.f2], .int .i64 n]) (by simp [results, Try.results17, go_sem, hz0, hz1, hz2]) rfl ⟨rfl, below_put3 (HB9.out) (by omega) _ _ _⟩
theorem eval_told (x : SEvent) (A : Option Addr) (c : Nat) (l : List SOp) (Al : Option Addr) (cl : Nat) (w : World) (hr : Kd.C kValue w A x.f2.length x.f2) (hc : x.f2.length ≤ c) (hwf : ∀ v ∈ x.f2, i64V v) (hl : Kd.C kOp w Al l.length l) (hlc : l.length ≤ cl) (hwl : ∀ x ∈ l, i64V x.f2) {y : SValue} {n : Int} (hq : evalV x l = (y, n)) : Calls Try.prog 17 #[.agg #[.string x.f0, .int .i64 x.f1, .slice A x.f2.length c], .slice Al l.length cl] w (valErrPost y n w) := by
  unfold evalV at hq
  cases h1 : mayO l with
  | false =>
    rw [h1, if_neg (by simp), Prod.mk.injEq] at hq
    obtain ⟨rfl, rfl⟩ := hq
    exact eval_no1 x A c l Al cl w hr hc hwf hl hlc hwl h1
  | true =>
    cases h2 : mayE x with
    | false =>
      rw [h1, h2, if_neg (by simp), Prod.mk.injEq] at hq
      obtain ⟨rfl, rfl⟩ := hq
      exact eval_no2 x A c l Al cl w hr hc hwf hl hlc hwl h1 h2
    | true =>
      rw [h1, h2, if_pos ⟨rfl, rfl⟩] at hq
      exact eval_go x A c l Al cl w hr hc hwf hl hlc hwl h1 h2 hq
end Go.Proofs.Ytncllbokeofdjaa.P

namespace Go.Proofs.Ytncllbokeofdjaa.P
open Go.RowKit Go.Proofs.YtncllbokeofdjaaW.PrintWords Go.Proofs.YtncllbokeofdjaaW.PrintLast Go.Proofs.YtncllbokeofdjaaW.PrintMore
attribute [local go_sem] max2_int min2_int max_two min_two max_three min_three max_four min_four   -- for this text's walks alone
set_option linter.unusedVariables false
set_option linter.unusedSimpArgs false
attribute [local go_sem high] eqAValue
attribute [local go_sem high] eqAValue
set_option maxHeartbeats 1000000 in
set_option maxRecDepth 100000 in
theorem holds_told (x : SEvent) (A : Option Addr) (c : Nat) (l : List SOp) (Al : Option Addr) (cl : Nat) (w : World) (hr : Kd.C kValue w A x.f2.length x.f2) (hc : x.f2.length ≤ c) (hwf : ∀ v ∈ x.f2, i64V v) (hl : Kd.C kOp w Al l.length l) (hlc : l.length ≤ cl) (hwl : ∀ x ∈ l, i64V x.f2) {b : Bool} (hb : holdsV x l = b) : Calls Try.prog 25 #[.agg #[.string x.f0, .int .i64 x.f1, .slice A x.f2.length c], .slice Al l.length cl] w (boolPost b w) := by
  obtain ⟨y, n, hyn⟩ : ∃ y n, evalV x l = (y, n) := ⟨_, _, rfl⟩
  have HEV := Aside0.mk (fun W (h : Below w.heap.size w W) => eval_told x A c l Al cl W (Kd.C_below hr h) hc hwf (Kd.C_below hl h) hlc hwl hyn)
  unfold holdsV at hb
  rw [hyn] at hb
  have heq : (y.f0 == 1 && (y.f1 == 1 && y.f2.toList.isEmpty)) = eqV y (truV true) := by unfold eqV truV; rw [show (⟨#[]⟩ : ByteArray).toList = [] from by decide +kernel]; cases y.f2.toList <;> rfl
  clear hr hc hwf hl hlc hwl hyn
  obtain ⟨len, hlen⟩ : ∃ len, l.length = len := ⟨_, rfl⟩
  rw [hlen] at HEV hb ⊢
  clear hlen
  by_cases h0 : len = 0
  · rw [decide_eq_true h0, Bool.true_or] at hb
    subst hb
    have h0i : ((len : Int) == 0) = true := by rw [h0]; rfl
    clear h0
    go_enter Try.func25, Try.ntmps25
    go_wp2_with fail
    go_at_call 17
    refine (HEV.out _ (below_alloc (Below.refl _ _) _)).mono ?_
    rintro e w1 ⟨rfl, hb1⟩
    have HB1 := Aside0.mk (below_alloc (below_step (below_alloc (Below.refl _ _) _) hb1) (.cells #[.int .i64 y.f0, .int .i64 y.f1, .string y.f2] 38))
    have hz : ∀ m i, ((w1.alloc (.cells #[.int .i64 y.f0, .int .i64 y.f1, .string y.f2] 38)).drewN m).cell? ⟨w1.heap.size, i, none⟩ = (#[.int .i64 y.f0, .int .i64 y.f1, .string y.f2] : Array Value)[i]? := fun m i => blk_cell (blk_drewN (blk_new w1 (.cells #[.int .i64 y.f0, .int .i64 y.f1, .string y.f2] 38)) m) i
    obtain ⟨q1_, q2_, q3_, q4_⟩ := know (blk_new w1 (.cells #[.int .i64 y.f0, .int .i64 y.f1, .string y.f2] 38))
    clear hb1
    go_wp2_with fail
    go_quiet (fail)
    go_wp2_with fail
    go_ret
    exact ⟨rfl, pw_below_drewN HB1.out _⟩
  · rw [decide_eq_false h0, Bool.false_or] at hb
    have h0i : ((len : Int) == 0) = false := beq_eq_false_iff_ne.2 (by omega)
    clear h0
    by_cases hn : n = 0
    · subst hn
      rw [show ((0 : Int) == 0) = true from rfl, Bool.true_and] at hb
      replace hb : eqV y (truV true) = b := hb
      rw [hb] at heq
      clear hb
      go_enter Try.func25, Try.ntmps25
      go_wp2_with fail
      go_at_call 17
      refine (HEV.out _ (below_alloc (Below.refl _ _) _)).mono ?_
      rintro e w1 ⟨rfl, hb1⟩
      have HB1 := Aside0.mk (below_alloc (below_step (below_alloc (Below.refl _ _) _) hb1) (.cells #[.int .i64 y.f0, .int .i64 y.f1, .string y.f2] 38))
      have hz : ∀ m i, ((w1.alloc (.cells #[.int .i64 y.f0, .int .i64 y.f1, .string y.f2] 38)).drewN m).cell? ⟨w1.heap.size, i, none⟩ = (#[.int .i64 y.f0, .int .i64 y.f1, .string y.f2] : Array Value)[i]? := fun m i => blk_cell (blk_drewN (blk_new w1 (.cells #[.int .i64 y.f0, .int .i64 y.f1, .string y.f2] 38)) m) i
      obtain ⟨q1_, q2_, q3_, q4_⟩ := know (blk_new w1 (.cells #[.int .i64 y.f0, .int .i64 y.f1, .string y.f2] 38))
      clear hb1
      go_wp2_with fail
      go_region_held3 (fun w' => w'.cell? ⟨w1.heap.size, 0, none⟩ = some (.int .i64 y.f0) ∧ w'.cell? ⟨w1.heap.size, 1, none⟩ = some (.int .i64 y.f1) ∧ w'.cell? ⟨w1.heap.size, 2, none⟩ = some (.string y.f2))
        (first | go_keep | (go_split_ands; refine ⟨?_, ?_, ?_⟩ <;> (first | exact hz 1 0 | exact hz 1 1 | exact hz 1 2 | (apply pw_cell_below; (first | exact hb2); assumption))))
        (first
          | (go_at_call 47; refine (valTru_told true _).mono ?_; rintro e w2 ⟨rfl, hb2⟩))
      all_goals
        go_wp2_with fail
        go_ret
        exact ⟨rfl, below_step (below_drew HB1.out) hb2⟩
    · have hn1 : (n == 0) = false := beq_eq_false_iff_ne.2 hn
      rw [hn1, Bool.false_and] at hb
      subst hb
      go_enter Try.func25, Try.ntmps25
      go_wp2_with fail
      go_at_call 17
      refine (HEV.out _ (below_alloc (Below.refl _ _) _)).mono ?_
      rintro e w1 ⟨rfl, hb1⟩
      have HB1 := Aside0.mk (below_alloc (below_step (below_alloc (Below.refl _ _) _) hb1) (.cells #[.int .i64 y.f0, .int .i64 y.f1, .string y.f2] 38))
      have hz : ∀ m i, ((w1.alloc (.cells #[.int .i64 y.f0, .int .i64 y.f1, .string y.f2] 38)).drewN m).cell? ⟨w1.heap.size, i, none⟩ = (#[.int .i64 y.f0, .int .i64 y.f1, .string y.f2] : Array Value)[i]? := fun m i => blk_cell (blk_drewN (blk_new w1 (.cells #[.int .i64 y.f0, .int .i64 y.f1, .string y.f2] 38)) m) i
      obtain ⟨q1_, q2_, q3_, q4_⟩ := know (blk_new w1 (.cells #[.int .i64 y.f0, .int .i64 y.f1, .string y.f2] 38))
      clear hb1
      go_wp2_with fail
      go_quiet (fail)
      go_wp2_with fail
      go_ret
      exact ⟨rfl, pw_below_drewN HB1.out _⟩
end Go.Proofs.Ytncllbokeofdjaa.P

namespace Go.Proofs.Ytncllbokeofdjaa.P
open Go.RowKit Go.Proofs.YtncllbokeofdjaaW.PrintWords Go.Proofs.YtncllbokeofdjaaW.PrintLast Go.Proofs.YtncllbokeofdjaaW.PrintMore
set_option linter.unusedVariables false
theorem C_sole {α : Type} {d : Kd α} {W : World} {B T : Nat} {x : α} {cs : List Value} (h : W.heap[B]? = some (.cells cs.toArray T (0, 0))) (hk : d.K W x cs) (hl : cs.length = d.sz) : Kd.C d W (some ⟨B, 0, none⟩) 1 [x] := by
  refine ⟨rfl, by decide, fun _ => ⟨_, rfl, fun j l hj => ?_⟩⟩
  match j with
  | j + 1 => simp at hj
  | 0 =>
    simp at hj
    subst hj
    refine ⟨cs, hl, hk, fun i u hu => ?_⟩
    rw [Nat.zero_mul, add_plain, blk_cell h]
    simpa using hu
def ex8E : SEvent := ⟨⟨#[97]⟩, 0, [⟨0, 4, ⟨#[]⟩⟩]⟩
def ex8S : SSchema := ⟨⟨#[97]⟩, 1, [⟨⟨#[120]⟩, 0⟩]⟩
theorem ex8_five : holdsV ex8E (belowL 5) = true := by decide +kernel
theorem ex8_four : holdsV ex8E (belowL 4) = false := by decide +kernel
theorem ex8_kind : kindV ex8S (belowL 5) = (1, 0) := by decide +kernel
theorem ex8_may : mayO (belowL 5) = true := by decide +kernel
theorem ex8_bytes : bytesO (belowL 5) = [3, 1, 0, 0, 0, 10, 5] := by
  unfold bytesO
  rw [show (belowL 5).length = 3 from rfl, lePut_small (by decide)]
  have e1 : bytesP ⟨1, 0, zeroV⟩ = [1, 0] := by unfold bytesP; rw [if_neg (by decide), if_pos rfl]
  have e2 : bytesP ⟨0, 0, ⟨0, 5, ⟨#[]⟩⟩⟩ = [0, 0, 10] := by
    unfold bytesP bytesV
    rw [if_pos rfl, show numV ⟨0, 5, ⟨#[]⟩⟩ = 10 from by decide +kernel, lePut_small (by decide)]
    rfl
  have e3 : bytesP ⟨5, 0, zeroV⟩ = [5] := by unfold bytesP; rw [if_neg (by decide), if_neg (by decide)]
  unfold opsL belowL
  rw [List.map_cons, List.map_cons, List.map_cons, List.map_nil, e1, e2, e3]
  rfl
theorem ex8_get : gotO (getO [3, 1, 0, 0, 0, 10, 5]) = (belowL 5, 7, true) := by
  have h := getO_put (l := belowL 5) [] ex8_may (belowL_i64 (by decide))
  rw [List.append_nil, ex8_bytes] at h
  exact gotO_some h
theorem ex8_vals : ∀ v ∈ ex8E.f2, i64V v := by
  intro v hv
  rw [show ex8E.f2 = [⟨0, 4, ⟨#[]⟩⟩] from rfl, List.mem_singleton] at hv
  subst hv
  unfold i64V
  decide
theorem five_i64 : ∀ x ∈ belowL 5, i64V x.f2 := belowL_i64 (by decide)
theorem four_i64 : ∀ x ∈ belowL 4, i64V x.f2 := belowL_i64 (by decide)
set_option maxHeartbeats 8000000 in
set_option maxRecDepth 100000 in
theorem awake8_told (w : World) : Calls Try.prog 11 #[] w (boolPost true w) := by
  have HPUT := Aside0.mk (fun W A c hr hc => putO_told (belowL 5) A c W hr hc five_i64 ex8_may ((if_pos rfl).trans ex8_bytes))
  have HV := Aside0.mk (show Kd.C kValue ((w.alloc (.cells #[.int .i64 0, .int .i64 4, .string ⟨#[]⟩] 38)).alloc (.cells #[.string ⟨#[97]⟩, .int .i64 0, .slice (some ⟨w.heap.size, 0, none⟩) 1 1] 27)) (some ⟨w.heap.size, 0, none⟩) 1 ex8E.f2 from C_sole (T := 38) (cs := [.int .i64 0, .int .i64 4, .string ⟨#[]⟩]) (blk_alloc (blk_new w _) _) (kValue_mk _ ⟨0, 4, ⟨#[]⟩⟩) rfl)
  have HE := Aside0.mk (blk_new2 w (.cells #[.int .i64 0, .int .i64 4, .string ⟨#[]⟩] 38) (.cells #[.string ⟨#[97]⟩, .int .i64 0, .slice (some ⟨w.heap.size, 0, none⟩) 1 1] 27))
  have HB0 := Aside0.mk (below_alloc (below_alloc (Below.refl _ w) (.cells #[.int .i64 0, .int .i64 4, .string ⟨#[]⟩] 38)) (.cells #[.string ⟨#[97]⟩, .int .i64 0, .slice (some ⟨w.heap.size, 0, none⟩) 1 1] 27))
  go_enter Try.func11, Try.ntmps11
  go_wp2_with fail
  generalize (w.alloc (.cells #[.int .i64 0, .int .i64 4, .string ⟨#[]⟩] 38)).alloc (.cells #[.string ⟨#[97]⟩, .int .i64 0, .slice (some ⟨w.heap.size, 0, none⟩) 1 1] 27) = W0 at HV HE HB0 ⊢
  go_at_call 30
  refine (below_told 5 _).mono ?_
  rintro e w1 ⟨v1, rfl, ho1, hb1⟩
  obtain ⟨A1, c1, hv1, hc1, hr1⟩ := Kd.R_reads ho1
  subst hv1
  have HR1 := Aside0.mk hr1
  have HC1 := Aside0.mk hc1
  have HBY := Aside0.mk hb1
  clear ho1 hr1 hc1 hb1
  go_wp2_with fail
  go_at_call 19
  refine (HPUT.out _ A1 c1 HR1.out HC1.out).mono ?_
  rintro e w2 ⟨v2, rfl, ho2, hb2⟩
  obtain ⟨A2, c2, hv2, hc2, hr2⟩ := Own8.reads ho2
  subst hv2
  have HR2 := Aside0.mk hr2
  have HC2 := Aside0.mk hc2
  have HBY := Aside0.mk (below_step HBY.out hb2)
  clear ho2 hr2 hc2 hb2
  go_wp2_with fail
  go_at_call 21
  refine (getO_told _ A2 c2 [3, 1, 0, 0, 0, 10, 5] HR2.out HC2.out (by decide) (by decide) ex8_get).mono ?_
  rintro e w3 ⟨A3, c3, ⟨rfl, hc3, hr3⟩, hb3⟩
  have HC3 := Aside0.mk hc3
  have HF := Aside0.mk (show Kd.C kField (w3.alloc (.cells #[.string ⟨#[120]⟩, .int .i64 0] 63)) (some ⟨w3.heap.size, 0, none⟩) 1 ex8S.f2 from C_sole (T := 63) (cs := [.string ⟨#[120]⟩, .int .i64 0]) (blk_new w3 _) (kField_mk _ ⟨⟨#[120]⟩, 0⟩) rfl)
  have HBY := Aside0.mk (below_alloc (below_step HBY.out hb3) (.cells #[.string ⟨#[120]⟩, .int .i64 0] 63))
  have HL3 := Aside0.mk (Kd.C_alloc hr3 (.cells #[.string ⟨#[120]⟩, .int .i64 0] 63))
  clear hr3 hc3 hb3
  go_wp2_with fail
  generalize w3.alloc (.cells #[.string ⟨#[120]⟩, .int .i64 0] 63) = W3 at HF HBY HL3 ⊢
  go_at_call 30
  refine (below_told 5 _).mono ?_
  rintro e w4 ⟨v4, rfl, ho4, hb4⟩
  obtain ⟨A4, c4, hv4, hc4, hr4⟩ := Kd.R_reads ho4
  subst hv4
  have HR4 := Aside0.mk hr4
  have HC4 := Aside0.mk hc4
  have HBY := Aside0.mk (below_step HBY.out hb4)
  have HL3 := Aside0.mk (Kd.C_below HL3.out hb4)
  have HF := Aside0.mk (Kd.C_below HF.out hb4)
  clear ho4 hr4 hc4 hb4
  go_wp2_with fail
  go_at_call 15
  refine (kind_told ex8S (some ⟨w3.heap.size, 0, none⟩) 1 (belowL 5) A4 c4 _ HF.out (by decide) HR4.out HC4.out five_i64 ex8_kind).mono ?_
  rintro e w5 ⟨rfl, hb5⟩
  have HBY := Aside0.mk (below_step HBY.out hb5)
  have HL3 := Aside0.mk (Kd.C_below HL3.out hb5)
  have HE5 := Aside0.mk (blk_below HE.out HBY.out)
  have he0 := blk_cell HE5.out 0
  have he1 := blk_cell HE5.out 1
  have he2 := blk_cell HE5.out 2
  have HBY := Aside0.mk (below_drew HBY.out)
  have HL3 := Aside0.mk (Kd.C_drew HL3.out)
  clear hb5
  go_wp2_with fail
  go_region_held3 (fun w' => w'.cell? ⟨w.heap.size + 1, 0, none⟩ = some (.string ⟨#[97]⟩) ∧ w'.cell? ⟨w.heap.size + 1, 1, none⟩ = some (.int .i64 0) ∧ w'.cell? ⟨w.heap.size + 1, 2, none⟩ = some (.slice (some ⟨w.heap.size, 0, none⟩) 1 1))
    (first | go_keep | (go_split_ands; refine ⟨?_, ?_, ?_⟩ <;> (first | assumption | (exact blk_cell (blk_below HE.out HBY.out) 0) | (exact blk_cell (blk_below HE.out HBY.out) 1) | (exact blk_cell (blk_below HE.out HBY.out) 2))))
    (first
      | (go_at_call_of 30 (Value.int .i64 5); refine (below_told 5 _).mono ?_; rintro e w6 ⟨v6, rfl, ho6, hb6⟩; obtain ⟨A6, c6, hv6, hc6, hr6⟩ := Kd.R_reads ho6; subst hv6; have HR6 := Aside0.mk hr6; have HC6 := Aside0.mk hc6; have HBY := Aside0.mk (below_step HBY.out hb6); have HL3 := Aside0.mk (Kd.C_below HL3.out hb6); clear ho6 hr6 hc6)
      | (go_at_call_of 30 (Value.int .i64 4); refine (below_told 4 _).mono ?_; rintro e w8 ⟨v8, rfl, ho8, hb8⟩; obtain ⟨A8, c8, hv8, hc8, hr8⟩ := Kd.R_reads ho8; subst hv8; have HR8 := Aside0.mk hr8; have HC8 := Aside0.mk hc8; have HBY := Aside0.mk (below_step HBY.out hb8); have HL3 := Aside0.mk (Kd.C_below HL3.out hb8); clear ho8 hr8 hc8)
      | (go_at_call 25; refine (holds_told ex8E (some ⟨w.heap.size, 0, none⟩) 1 (belowL 5) A6 c6 _ (Kd.C_below HV.out HBY.out) (by decide) ex8_vals HR6.out HC6.out five_i64 ex8_five).mono ?_; rintro e w7 ⟨rfl, hb7⟩; have HBY := Aside0.mk (below_step HBY.out hb7); have HL3 := Aside0.mk (Kd.C_below HL3.out hb7))
      | (go_at_call 25; refine (holds_told ex8E (some ⟨w.heap.size, 0, none⟩) 1 (belowL 4) A8 c8 _ (Kd.C_below HV.out HBY.out) (by decide) ex8_vals HR8.out HC8.out four_i64 ex8_four).mono ?_; rintro e w9 ⟨rfl, hb9⟩; have HBY := Aside0.mk (below_step HBY.out hb9); have HL3 := Aside0.mk (Kd.C_below HL3.out hb9))
      | (go_at_call 26; refine (sameO_told (belowL 5) (belowL 5) A3 c3 A6 c6 _ HL3.out HC3.out HR6.out HC6.out (eqO_iff.2 rfl)).mono ?_; rintro e w11 ⟨rfl, hb11⟩; have HBY := Aside0.mk (below_step HBY.out hb11); have HL3 := Aside0.mk (Kd.C_below HL3.out hb11)))
  all_goals
    go_wp2_with fail
    go_ret
    exact ⟨rfl, below_step HB0.out HBY.out⟩
end Go.Proofs.Ytncllbokeofdjaa.P

namespace Go.Proofs.Ytncllbokeofdjaa.P
open Go.RowKit Go.Proofs.YtncllbokeofdjaaW.PrintWords Go.Proofs.YtncllbokeofdjaaW.PrintLast Go.Proofs.YtncllbokeofdjaaW.PrintMore
attribute [local go_sem] max2_int min2_int max_two min_two max_three min_three max_four min_four   -- for this text's walks alone
set_option linter.unusedVariables false
set_option linter.unusedSimpArgs false
theorem openArg0_ExprBack : Opens Try.prog 28 (Kd.slice 50 kOp) (fun x_ : List (SOp) => x_.length * 48 ≤ 140737488351232 ∧ ∀ y_ ∈ x_, wfOp y_) := (opens_slice Try.underlying28 openOp (by kernel_rfl) (by kernel_rfl))
theorem openArg1_ExprBack : Opens Try.prog 29 (Kd.slice 5 (Kd.int .u8)) (fun x_ : List Int => x_.length * 1 ≤ 140737488351232 ∧ ∀ y_ ∈ x_, (Lit.int .u8 y_).wf = true) := (opens_slice Try.underlying29 (opens_int Try.underlying5) (by kernel_rfl) (by kernel_rfl))
def ExprBack.Stmt : Prop := ∀ (W : World) (x0 : List (SOp)) (A0 : Option Addr) (c0 : Nat) (hc0 : x0.length ≤ c0) (hr0 : Kd.C kOp W A0 x0.length x0) (w0 : x0.length * 48 ≤ 140737488351232 ∧ ∀ y_ ∈ x0, wfOp y_) (x1 : List Int) (A1 : Option Addr) (c1 : Nat) (hc1 : x1.length ≤ c1) (hr1 : Kd.C (Kd.int .u8) W A1 x1.length x1) (w1 : x1.length * 1 ≤ 140737488351232 ∧ ∀ y_ ∈ x1, (Lit.int .u8 y_).wf = true),
    Calls Try.prog 4 #[.slice A0 x0.length c0, .slice A1 x1.length c1] W fun e w' => e = .returned (.bool true) ∧ Below W.heap.size W w'
end Go.Proofs.Ytncllbokeofdjaa.P

namespace Go.Proofs.Ytncllbokeofdjaa.P
open Go.RowKit Go.Proofs.YtncllbokeofdjaaW.PrintWords Go.Proofs.YtncllbokeofdjaaW.PrintLast Go.Proofs.YtncllbokeofdjaaW.PrintMore
set_option linter.unusedVariables false
set_option linter.unusedSimpArgs false
theorem gotO_false {l : List Int} {v : List SOp} {n : Nat} (h : gotO (getO l) = (v, n, false)) : v = [] ∧ n = 0 := by
  cases hg : getO l with
  | none => rw [hg] at h; simp only [gotO, Prod.mk.injEq] at h; exact ⟨h.1.symm, h.2.1.symm⟩
  | some p => obtain ⟨x, k⟩ := p; rw [hg] at h; simp [gotO] at h
theorem gotO_true {l : List Int} {v : List SOp} {n : Nat} (h : gotO (getO l) = (v, n, true)) : getO l = some (v, n) := by
  cases hg : getO l with
  | none => rw [hg] at h; simp [gotO] at h
  | some p => obtain ⟨x, k⟩ := p; rw [hg] at h; simp only [gotO, Prod.mk.injEq] at h; rw [h.1, h.2.1]
set_option maxHeartbeats 40000000 in
set_option maxRecDepth 100000 in
theorem ExprBack.walk : ExprBack.Stmt := by
  intro W x0 A0 c0 hc0 hr0 w0 x1 A1 c1 hc1 hr1 w1
  have HR0 := Aside0.mk hr0
  have HC0 := Aside0.mk hc0
  have HR1 := Aside0.mk hr1
  have HC1 := Aside0.mk hc1
  have HI0 := Aside0.mk (show ∀ x ∈ x0, i64V x.f2 from fun x hx => i64V_of (w0.2 x hx).2.2)
  have hl1 : x1.length < 4611686018427387904 := by have := w1.1; omega
  obtain ⟨p, hp20, hpC⟩ := few8_told x0
  have HPC := Aside0.mk hpC
  have HBY := Aside0.mk (lit_byte w1.2)
  have infoU8_ := info5
  clear hr0 hc0 w0 w1 hpC hp20 hr1 hc1
  by_cases hgo : p = true ∧ x1.length ≤ 400
  · obtain ⟨rfl, h400⟩ := hgo
    have h400i : ¬ (x1.length : Int) > 400 := by omega
    obtain ⟨m, hm⟩ : ∃ m, mayO x0 = m := ⟨_, rfl⟩
    have HM := Aside0.mk hm
    obtain ⟨P, hP⟩ : ∃ P, (if m then bytesO x0 else []) = P := ⟨_, rfl⟩
    have HPP := Aside0.mk hP
    obtain ⟨v, n, b, hg⟩ : ∃ v n b, gotO (getO x1) = (v, n, b) := ⟨_, _, _, rfl⟩
    have HG := Aside0.mk hg
    clear hg
    cases m with
    | false =>
      clear hP hm
      go_enter Try.func4, Try.ntmps4
      go_wp2_with fail
      go_at_call 11
      refine (awake8_told _).mono ?_
      rintro e w1_ ⟨rfl, hb1_⟩
      have HB1_ := Aside0.mk (below_step (Below.refl _ _) hb1_)
      clear hb1_
      go_wp2_with fail
      go_at_call 14
      refine (HPC.out A0 c0 _ (Kd.C_below HR0.out (HB1_.out)) HC0.out).mono ?_
      rintro e w2_ ⟨rfl, hb2_⟩
      have HB2_ := Aside0.mk (below_step (HB1_.out) hb2_)
      clear hb2_
      go_wp2_with fail
      go_at_call 19
      refine (putO_told x0 A0 c0 _ (Kd.C_below HR0.out (HB2_.out)) HC0.out HI0.out HM.out HPP.out).mono ?_
      rintro e w3_ ⟨v3_, rfl, ho3_, hb3_⟩
      have HB3_ := Aside0.mk (below_step (HB2_.out) hb3_)
      clear hb3_
      obtain ⟨A3_, c3_, hv3_, hq3_, hp3_⟩ := Own8.reads ho3_
      subst hv3_
      have HP3_ := Aside0.mk hp3_
      have HQ3_ := Aside0.mk hq3_
      clear ho3_ hp3_ hq3_
      go_wp2_with fail
      go_at_call 21
      refine (getO_told _ A1 c1 x1 (Kd.C_below HR1.out (HB3_.out)) HC1.out HBY.out hl1 HG.out).mono ?_
      rintro e w4_ ⟨A4_, c4_, ⟨rfl, hg4_, hh4_⟩, hb4_⟩
      have HB4_ := Aside0.mk (below_step (HB3_.out) hb4_)
      clear hb4_
      have HG4_ := Aside0.mk hg4_
      have HH4_ := Aside0.mk hh4_
      clear hg4_ hh4_
      cases b with
      | false =>
        obtain ⟨rfl, rfl⟩ := gotO_false HG.out
        go_wp2_with fail
        go_ret
        exact ⟨by simp, HB4_.out⟩
      | true =>
        obtain ⟨hmv, hnl, htk, hvv⟩ := getO_take HBY.out (gotO_true HG.out)
        have HMV := Aside0.mk hmv
        have HVV := Aside0.mk hvv
        obtain ⟨i0, hi0, _, hsz0, _⟩ := info_parts info5
        obtain ⟨hcut, hcC⟩ := take_row (P := Try.prog) (d := Kd.int .u8) Try.underlying29 hi0 A1 c1 x1 n (n : Int) rfl hnl HC1.out
        have HPV : Aside0 ((if true then bytesO v else []) = x1.take n) := ⟨by rw [htk]; rfl⟩
        have HCC := Aside0.mk hcC
        have hc1 := HC1.out
        have hnle : (n : Int) ≤ (x1.length : Int) := by omega
        clear hmv htk hvv hcC
        go_wp2_with fail
        go_at_call 19
        refine (putO_told v A4_ c4_ _ (HH4_.out) HG4_.out HVV.out HMV.out HPV.out).mono ?_
        rintro e w5_ ⟨v5_, rfl, ho5_, hb5_⟩
        have HB5_ := Aside0.mk (below_step (HB4_.out) hb5_)
        have HRv5_ := Aside0.mk (Kd.C_below (HH4_.out) hb5_)
        clear hb5_
        obtain ⟨A5_, c5_, hv5_, hq5_, hp5_⟩ := Own8.reads ho5_
        subst hv5_
        have HP5_ := Aside0.mk hp5_
        have HQ5_ := Aside0.mk hq5_
        clear ho5_ hp5_ hq5_
        go_wp2_with fail
        have hs1 := fun m => Kd.C_string (P := Try.prog) (c := c5_) Try.underlying29 Try.underlying5 Try.underlying9 (Kd.C_drewN (HP5_.out) m)
        have hs2 := fun m => Kd.C_string (P := Try.prog) (c := c1) Try.underlying29 Try.underlying5 Try.underlying9 (Kd.C_drewN (HCC.out _ (Kd.C_below HR1.out (HB5_.out))) m)
        simp only [List.length_take, Nat.min_eq_left hnl] at hs1
        go_quiet (fail)
        go_wp2
        go_ret
        exact ⟨by simp, pw_below_drewN (HB5_.out) _⟩
    | true =>
      have hP2 : bytesO x0 = P := hP
      have hlP : P.length ≤ 640 := by rw [← hP2]; exact bytesO_len hm HI0.out
      obtain ⟨PX, hPX⟩ : ∃ PX, P ++ x1 = PX := ⟨_, rfl⟩
      have HGP : Aside0 (gotO (getO PX) = (x0, P.length, true)) := ⟨by rw [← hPX, ← hP2]; exact gotO_some (getO_put x1 hm HI0.out)⟩
      have HBA : Aside0 (byteL PX) := ⟨by rw [← hPX]; exact byteL_append (by rw [← hP2]; exact bytesO_byte hm) HBY.out⟩
      have hxa : PX.length < 4611686018427387904 := by rw [← hPX, List.length_append]; omega
      have HPX := Aside0.mk hPX
      clear hP hm hP2 hPX
      go_enter Try.func4, Try.ntmps4
      go_wp2_with fail
      go_at_call 11
      refine (awake8_told _).mono ?_
      rintro e w1_ ⟨rfl, hb1_⟩
      have HB1_ := Aside0.mk (below_step (Below.refl _ _) hb1_)
      clear hb1_
      go_wp2_with fail
      go_at_call 14
      refine (HPC.out A0 c0 _ (Kd.C_below HR0.out (HB1_.out)) HC0.out).mono ?_
      rintro e w2_ ⟨rfl, hb2_⟩
      have HB2_ := Aside0.mk (below_step (HB1_.out) hb2_)
      clear hb2_
      go_wp2_with fail
      go_at_call 19
      refine (putO_told x0 A0 c0 _ (Kd.C_below HR0.out (HB2_.out)) HC0.out HI0.out HM.out HPP.out).mono ?_
      rintro e w3_ ⟨v3_, rfl, ho3_, hb3_⟩
      have HB3_ := Aside0.mk (below_step (HB2_.out) hb3_)
      clear hb3_
      obtain ⟨A3_, c3_, hv3_, hq3_, hp3_⟩ := Own8.reads ho3_
      subst hv3_
      have HP3_ := Aside0.mk hp3_
      have HQ3_ := Aside0.mk hq3_
      clear ho3_ hp3_ hq3_
      go_wp2_with (first
        | ((with_reducible refine gate_builtin (b := .append) (xs := #[.const (.slice none 0 0), .tmp 39]) rfl ?_); at_builtin; refine Kd.R_append_rows (Kd.int .u8) (Rr := Kd.K (Kd.int .u8) _) _ rfl (.const (.slice none 0 0)) (.tmp 39) 29 5 (.int .u8 0) 1 rfl Try.underlying29 info5 rfl (by decide) (by decide) (.slice none 0 0) [] P A3_ P.length c3_ (fun _ => True) (fun _ => False) rfl rfl (Kd.R_nil _ _ _ _ _) (HP3_.out) ?aK (fun _ h => h.elim) (fun _ _ => trivial) (Below.refl _ _) (Nat.le_refl _) (by simp only [List.length_nil]; omega) ?_; (case aK => exact (fun _ _ h => h)); intro v4a_ w4a_ ho4a_ hb4a_ hg4a_ hat4a_; simp only [List.nil_append] at ho4a_; have HO4a_ := Aside0.mk ho4a_; have HBA4_ := Aside0.mk hb4a_; clear ho4a_ hb4a_ hg4a_ hat4a_)
        | ((with_reducible refine gate_builtin (b := .append) (xs := #[.tmp 40, .tmp 41]) rfl ?_); at_builtin; refine Kd.R_append_rows (Kd.int .u8) (Rr := Kd.K (Kd.int .u8) _) _ rfl (.tmp 40) (.tmp 41) 29 5 (.int .u8 0) 1 rfl Try.underlying29 info5 rfl (by decide) (by decide) v4a_ P x1 A1 x1.length c1 (fun _ => True) (fun _ => False) rfl rfl HO4a_.out (Kd.C_below (Kd.C_below HR1.out (HB3_.out)) HBA4_.out) ?aK (fun _ h => h.elim) (fun _ _ => trivial) HBA4_.out (below_size HBA4_.out) (by omega) ?_; (case aK => exact (fun _ _ h => h)); intro v4_ w4_ ho4_ hb4_ hg4_ hat4_; rw [HPX.out] at ho4_; obtain ⟨A4_, c4_, hv4_, hq4_, hp4_⟩ := Kd.R_reads ho4_; subst hv4_; have HP4_ := Aside0.mk hp4_; have HQ4_ := Aside0.mk hq4_; clear ho4_ hp4_ hq4_ hg4_ hat4_ HO4a_ HBA4_; have HB4_ := Aside0.mk (below_step (HB3_.out) hb4_); have HRp4_ := Aside0.mk (Kd.C_below (HP3_.out) hb4_); clear hb4_))
      go_at_call 21
      refine (getO_told _ A4_ c4_ PX (HP4_.out) HQ4_.out HBA.out hxa HGP.out).mono ?_
      rintro e w5_ ⟨A5_, c5_, ⟨rfl, hg5_, hh5_⟩, hb5_⟩
      have HB5_ := Aside0.mk (below_step (HB4_.out) hb5_)
      have HRp5_ := Aside0.mk (Kd.C_below (HRp4_.out) hb5_)
      have HRa5_ := Aside0.mk (Kd.C_below (HP4_.out) hb5_)
      clear hb5_
      have HG5_ := Aside0.mk hg5_
      have HH5_ := Aside0.mk hh5_
      clear hg5_ hh5_
      go_wp2_with fail
      go_at_call 26
      refine (sameO_told x0 x0 A0 c0 A5_ c5_ _ (Kd.C_below HR0.out (HB5_.out)) HC0.out (HH5_.out) HG5_.out (eqO_iff.2 rfl)).mono ?_
      rintro e w6_ ⟨rfl, hb6_⟩
      have HB6_ := Aside0.mk (below_step (HB5_.out) hb6_)
      have HRp6_ := Aside0.mk (Kd.C_below (HRp5_.out) hb6_)
      have HRa6_ := Aside0.mk (Kd.C_below (HRa5_.out) hb6_)
      have HRv6_ := Aside0.mk (Kd.C_below (HH5_.out) hb6_)
      clear hb6_
      go_wp2_with fail
      go_at_call 21
      refine (getO_told _ A1 c1 x1 (Kd.C_below HR1.out (HB6_.out)) HC1.out HBY.out hl1 HG.out).mono ?_
      rintro e w7_ ⟨A7_, c7_, ⟨rfl, hg7_, hh7_⟩, hb7_⟩
      have HB7_ := Aside0.mk (below_step (HB6_.out) hb7_)
      clear hb7_
      have HG7_ := Aside0.mk hg7_
      have HH7_ := Aside0.mk hh7_
      clear hg7_ hh7_
      cases b with
      | false =>
        obtain ⟨rfl, rfl⟩ := gotO_false HG.out
        go_wp2_with fail
        go_ret
        exact ⟨by simp, HB7_.out⟩
      | true =>
        obtain ⟨hmv, hnl, htk, hvv⟩ := getO_take HBY.out (gotO_true HG.out)
        have HMV := Aside0.mk hmv
        have HVV := Aside0.mk hvv
        obtain ⟨i0, hi0, _, hsz0, _⟩ := info_parts info5
        obtain ⟨hcut, hcC⟩ := take_row (P := Try.prog) (d := Kd.int .u8) Try.underlying29 hi0 A1 c1 x1 n (n : Int) rfl hnl HC1.out
        have HPV : Aside0 ((if true then bytesO v else []) = x1.take n) := ⟨by rw [htk]; rfl⟩
        have HCC := Aside0.mk hcC
        have hc1 := HC1.out
        have hnle : (n : Int) ≤ (x1.length : Int) := by omega
        clear hmv htk hvv hcC
        go_wp2_with fail
        go_at_call 19
        refine (putO_told v A7_ c7_ _ (HH7_.out) HG7_.out HVV.out HMV.out HPV.out).mono ?_
        rintro e w8_ ⟨v8_, rfl, ho8_, hb8_⟩
        have HB8_ := Aside0.mk (below_step (HB7_.out) hb8_)
        have HRv8_ := Aside0.mk (Kd.C_below (HH7_.out) hb8_)
        clear hb8_
        obtain ⟨A8_, c8_, hv8_, hq8_, hp8_⟩ := Own8.reads ho8_
        subst hv8_
        have HP8_ := Aside0.mk hp8_
        have HQ8_ := Aside0.mk hq8_
        clear ho8_ hp8_ hq8_
        go_wp2_with fail
        have hs1 := fun m => Kd.C_string (P := Try.prog) (c := c8_) Try.underlying29 Try.underlying5 Try.underlying9 (Kd.C_drewN (HP8_.out) m)
        have hs2 := fun m => Kd.C_string (P := Try.prog) (c := c1) Try.underlying29 Try.underlying5 Try.underlying9 (Kd.C_drewN (HCC.out _ (Kd.C_below HR1.out (HB8_.out))) m)
        simp only [List.length_take, Nat.min_eq_left hnl] at hs1
        go_quiet (fail)
        go_wp2
        go_ret
        exact ⟨by simp, pw_below_drewN (HB8_.out) _⟩
  · have HNO := Aside0.mk hgo
    clear hgo
    have hcl : x1.length ≤ 400 ∨ 400 < x1.length := by omega
    rcases hcl with h4 | h4 <;> cases p
    all_goals first
      | (exfalso; apply HNO.out; refine ⟨rfl, ?_⟩ <;> assumption)
      | skip
    all_goals
      go_enter Try.func4, Try.ntmps4
      go_wp2_with fail
      go_at_call 11
      refine (awake8_told _).mono ?_
      rintro e w1_ ⟨rfl, hb1_⟩
      have HB1_ := Aside0.mk (below_step (Below.refl _ _) hb1_)
      clear hb1_
      go_wp2_with fail
      go_at_call 14
      refine (HPC.out A0 c0 _ (Kd.C_below HR0.out (HB1_.out)) HC0.out).mono ?_
      rintro e w2_ ⟨rfl, hb2_⟩
      have HB2_ := Aside0.mk (below_step (HB1_.out) hb2_)
      clear hb2_
      go_wp2_with fail
      go_ret
      exact ⟨rfl, HB2_.out⟩
end Go.Proofs.Ytncllbokeofdjaa.P
