/- What ExprLess's row stands on: words, contracts of the functions that it reaches, plain facts, its walk (part 4): no condition but those that each theorem names. -/
import Derived.Test.YtncllbokeofdjaaZExprLess3
set_option linter.unusedVariables false
set_option linter.unusedSimpArgs false
namespace Go.Proofs.Ytncllbokeofdjaa.P
open Go.RowKit Go.Proofs.YtncllbokeofdjaaW.PrintWords Go.Proofs.YtncllbokeofdjaaW.PrintLast Go.Proofs.YtncllbokeofdjaaW.PrintMore
attribute [local go_sem] max2_int min2_int max_two min_two max_three min_three max_four min_four   -- for this text's walks alone
set_option linter.unusedVariables false
set_option linter.unusedSimpArgs false
def cellsP (x : SOp) : Array Value := #[.int .i64 x.f0, .int .i64 x.f1, .int .i64 x.f2.f0, .int .i64 x.f2.f1, .string x.f2.f2]
def partBPost (r : Option (SOp × Nat)) (w : World) (e : Ending) (w' : World) : Prop := (match r with
  | some (x, n) => e = .returned (.tuple #[.agg (cellsP x), .int .i64 (n : Int), .bool true])
  | none => ∃ (x : SOp) (n : Int), e = .returned (.tuple #[.agg (cellsP x), .int .i64 n, .bool false])) ∧ Below w.heap.size w w'
theorem blk_put5 {W : World} {g : Nat} {t : TypeId} {a b c d e : Value} (h : W.heap[g]? = some (.cells #[a, b, c, d, e] t (0, 0))) (x y z u v : Value) : (((((W.setCell ⟨g, 0, none⟩ x).setCell ⟨g, 1, none⟩ y).setCell ⟨g, 2, none⟩ z).setCell ⟨g, 3, none⟩ u).setCell ⟨g, 4, none⟩ v).heap[g]? = some (.cells #[x, y, z, u, v] t (0, 0)) :=
  blk_put (blk_put (blk_put (blk_put (blk_put h 0 x rfl) 1 y rfl) 2 z rfl) 3 u rfl) 4 v rfl
theorem below_put5 {B : Nat} {w W : World} {g : Nat} (h : Below B w W) (hg : B ≤ g) (x y z u v : Value) : Below B w (((((W.setCell ⟨g, 0, none⟩ x).setCell ⟨g, 1, none⟩ y).setCell ⟨g, 2, none⟩ z).setCell ⟨g, 3, none⟩ u).setCell ⟨g, 4, none⟩ v) :=
  ((((h.setCell (p := ⟨g, 0, none⟩) hg x).setCell (p := ⟨g, 1, none⟩) hg y).setCell (p := ⟨g, 2, none⟩) hg z).setCell (p := ⟨g, 3, none⟩) hg u).setCell (p := ⟨g, 4, none⟩) hg v
set_option maxHeartbeats 1000000 in
set_option maxRecDepth 100000 in
theorem partb_nil (A : Option Addr) (c : Nat) (w : World) : Calls Try.prog 44 #[.slice A 0 c] w (partBPost none w) := by
  go_enter Try.func44, Try.ntmps44
  go_wp2_with fail
  exact bodyPost_ret (v := .tuple #[.agg #[.int .i64 0, .int .i64 0, .int .i64 0, .int .i64 0, .string ⟨#[]⟩], .int .i64 0, .bool false]) (by simp [results, Try.results44, go_sem]) rfl ⟨⟨⟨0, 0, ⟨0, 0, ⟨#[]⟩⟩⟩, 0, rfl⟩, below_alloc (Below.refl _ _) _⟩
set_option maxHeartbeats 1000000 in
set_option maxRecDepth 100000 in
theorem partb_code (k : Int) (r : List Int) (A : Option Addr) (c : Nat) (w : World) (hr : Kd.C (Kd.int .u8) w A (r.length + 1) (k :: r)) (hc : r.length + 1 ≤ c) (hb : byteL (k :: r)) (hl : (k :: r).length < 4611686018427387904) (h0 : ¬ k = 0) (h1 : ¬ k = 1) : Calls Try.prog 44 #[.slice A (r.length + 1) c] w (partBPost (some (⟨k, 0, zeroV⟩, 1)) w) := by
  obtain ⟨ad, e, z0⟩ := Kd.at_int hr 0 (by decide) (by omega)
  subst e
  have z1 : w.cell? ad = some (.int .u8 k) := by have h := z0; rw [show (0 : Int).toNat = 0 from rfl, addr_zero] at h; exact h
  have z2 : w.cell? (ad.add 0) = some (.int .u8 k) := z0
  have z3 : ∀ o, (w.alloc o).cell? ad = some (.int .u8 k) := fun o => cell_later o z1
  have z4 : ∀ o, (w.alloc o).cell? (ad.add 0) = some (.int .u8 k) := fun o => cell_later o z2
  obtain ⟨hk0, hk1⟩ := hb k (by simp)
  have hwk : IntKind.i64.wrap k = k := IntWalk.i64_in _ (by omega)
  have hlen : (((r.length + 1 : Nat) : Int) == 0) = false := beq_eq_false_iff_ne.2 (by omega)
  have hlen2 : ((r.length : Int) + 1 == 0) = false := beq_eq_false_iff_ne.2 (by omega)
  have hlen3 : ¬ (r.length : Int) + 1 = 0 := by omega
  have h0b : (k == 0) = false := beq_eq_false_iff_ne.2 h0
  have h1b : (k == 1) = false := beq_eq_false_iff_ne.2 h1
  clear z0 hr hc hb hl h0 h1
  go_enter Try.func44, Try.ntmps44
  go_wp2_with fail
  exact bodyPost_ret (v := .tuple #[.agg #[.int .i64 k, .int .i64 0, .int .i64 0, .int .i64 0, .string ⟨#[]⟩], .int .i64 1, .bool true]) (by simp [results, Try.results44, go_sem]) rfl ⟨rfl, below_alloc (below_alloc (Below.refl _ _) _) _⟩
set_option maxHeartbeats 1000000 in
set_option maxRecDepth 100000 in
theorem partb_short (k : Int) (r : List Int) (A : Option Addr) (c : Nat) (w : World) (hr : Kd.C (Kd.int .u8) w A (r.length + 1) (k :: r)) (hc : r.length + 1 ≤ c) (hb : byteL (k :: r)) (hl : (k :: r).length < 4611686018427387904) (h1 : k = 1) (h2 : r = []) : Calls Try.prog 44 #[.slice A (r.length + 1) c] w (partBPost none w) := by
  obtain ⟨ad, e, z0⟩ := Kd.at_int hr 0 (by decide) (by omega)
  subst e
  have z1 : w.cell? ad = some (.int .u8 k) := by have h := z0; rw [show (0 : Int).toNat = 0 from rfl, addr_zero] at h; exact h
  have z2 : w.cell? (ad.add 0) = some (.int .u8 k) := z0
  have z3 : ∀ o, (w.alloc o).cell? ad = some (.int .u8 k) := fun o => cell_later o z1
  have z4 : ∀ o, (w.alloc o).cell? (ad.add 0) = some (.int .u8 k) := fun o => cell_later o z2
  obtain ⟨hk0, hk1⟩ := hb k (by simp)
  have hwk : IntKind.i64.wrap k = k := IntWalk.i64_in _ (by omega)
  have hlen : (((r.length + 1 : Nat) : Int) == 0) = false := beq_eq_false_iff_ne.2 (by omega)
  have hlen2 : ((r.length : Int) + 1 == 0) = false := beq_eq_false_iff_ne.2 (by omega)
  have hlen3 : ¬ (r.length : Int) + 1 = 0 := by omega
  subst h1 h2
  clear z0 hr hc hb hl hlen hlen2 hlen3
  go_enter Try.func44, Try.ntmps44
  go_wp2_with fail
  exact bodyPost_ret (v := .tuple #[.agg #[.int .i64 1, .int .i64 0, .int .i64 0, .int .i64 0, .string ⟨#[]⟩], .int .i64 0, .bool false]) (by simp [results, Try.results44, go_sem]) rfl ⟨⟨⟨1, 0, ⟨0, 0, ⟨#[]⟩⟩⟩, 0, rfl⟩, below_alloc (below_alloc (Below.refl _ _) _) _⟩
set_option maxHeartbeats 1000000 in
set_option maxRecDepth 100000 in
theorem partb_load (a : Int) (r : List Int) (A : Option Addr) (c : Nat) (w : World) (hr : Kd.C (Kd.int .u8) w A (r.length + 1 + 1) (1 :: a :: r)) (hc : r.length + 1 + 1 ≤ c) (hb : byteL (1 :: a :: r)) (hl : (1 :: a :: r).length < 4611686018427387904) : Calls Try.prog 44 #[.slice A (r.length + 1 + 1) c] w (partBPost (some (⟨1, a, zeroV⟩, 2)) w) := by
  obtain ⟨ad, e, z0⟩ := Kd.at_int hr 0 (by decide) (by omega)
  subst e
  have z1 : w.cell? ad = some (.int .u8 1) := by have h := z0; rw [show (0 : Int).toNat = 0 from rfl, addr_zero] at h; exact h
  have z2 : w.cell? (ad.add 0) = some (.int .u8 1) := z0
  have z3 : ∀ o, (w.alloc o).cell? ad = some (.int .u8 1) := fun o => cell_later o z1
  have z4 : ∀ o, (w.alloc o).cell? (ad.add 0) = some (.int .u8 1) := fun o => cell_later o z2
  obtain ⟨hk0, hk1⟩ := hb a (by simp)
  have hwk : IntKind.i64.wrap a = a := IntWalk.i64_in _ (by omega)
  have hlen : (((r.length + 1 + 1 : Nat) : Int) == 0) = false := beq_eq_false_iff_ne.2 (by omega)
  have hlen2 : ((r.length : Int) + 1 + 1 == 0) = false := beq_eq_false_iff_ne.2 (by omega)
  have hlen3 : ¬ (r.length : Int) + 1 + 1 = 0 := by omega
  obtain ⟨ad2, e2, y0⟩ := Kd.at_int hr 1 (by decide) (by omega)
  cases e2
  have y1 : w.cell? ⟨ad.block, ad.off + 1, none⟩ = some (.int .u8 a) := by have h := y0; rw [show (1 : Int).toNat = 1 from rfl, add_field _ _ 1 (by omega)] at h; exact h
  have y2 : w.cell? (ad.add 1) = some (.int .u8 a) := y0
  have y3 : ∀ o o2, ((w.alloc o).alloc o2).cell? ⟨ad.block, ad.off + 1, none⟩ = some (.int .u8 a) := fun o o2 => cell_later o2 (cell_later o y1)
  have y4 : ∀ o o2, ((w.alloc o).alloc o2).cell? (ad.add 1) = some (.int .u8 a) := fun o o2 => cell_later o2 (cell_later o y2)
  have hw1 : IntKind.i64.wrap 1 = 1 := by decide
  have hge : ¬ (r.length : Int) + 1 + 1 < 2 := by omega
  have hged : decide ((r.length : Int) + 1 + 1 < 2) = false := decide_eq_false hge
  have hlt1 : (1 : Int) < (r.length : Int) + 1 + 1 := by omega
  clear z0 hr hc hb hl y0
  go_enter Try.func44, Try.ntmps44
  go_wp2_with fail
  exact bodyPost_ret (v := .tuple #[.agg #[.int .i64 1, .int .i64 a, .int .i64 0, .int .i64 0, .string ⟨#[]⟩], .int .i64 2, .bool true]) (by simp [results, Try.results44, go_sem]) rfl ⟨rfl, below_alloc (below_alloc (Below.refl _ _) _) _⟩
set_option maxHeartbeats 1000000 in
set_option maxRecDepth 100000 in
theorem partb_push {x : SValue} {m : Nat} (r : List Int) (A : Option Addr) (c : Nat) (w : World) (hr : Kd.C (Kd.int .u8) w A (r.length + 1) (0 :: r)) (hc : r.length + 1 ≤ c) (hb : byteL (0 :: r)) (hl : (0 :: r).length < 4611686018427387904) (hg : gotV (getV r) = (x, m, true)) : Calls Try.prog 44 #[.slice A (r.length + 1) c] w (partBPost (some (⟨0, 0, x⟩, m + 1)) w) := by
  obtain ⟨ad, e, z0⟩ := Kd.at_int hr 0 (by decide) (by omega)
  subst e
  have z1 : w.cell? ad = some (.int .u8 0) := by have h := z0; rw [show (0 : Int).toNat = 0 from rfl, addr_zero] at h; exact h
  have z2 : w.cell? (ad.add 0) = some (.int .u8 0) := z0
  have z3 : ∀ o, (w.alloc o).cell? ad = some (.int .u8 0) := fun o => cell_later o z1
  have z4 : ∀ o, (w.alloc o).cell? (ad.add 0) = some (.int .u8 0) := fun o => cell_later o z2
  obtain ⟨hk0, hk1⟩ := hb 0 (by simp)
  have hwk : IntKind.i64.wrap 0 = 0 := IntWalk.i64_in _ (by omega)
  have hlen : (((r.length + 1 : Nat) : Int) == 0) = false := beq_eq_false_iff_ne.2 (by omega)
  have hlen2 : ((r.length : Int) + 1 == 0) = false := beq_eq_false_iff_ne.2 (by omega)
  have hlen3 : ¬ (r.length : Int) + 1 = 0 := by omega
  obtain ⟨i0, hi0, _, hsz0, _⟩ := info_parts info5
  obtain ⟨A', hcut, hC', hlc⟩ := drop_row (P := Try.prog) (d := Kd.int .u8) Try.underlying29 hi0 hsz0 (some ad) c (0 :: r) 1 1 rfl (by simp) (by simpa using hc)
  have HROW := Aside0.mk (hC' w hr)
  have HLC := Aside0.mk hlc
  have hcut2 : ∀ W : World, (Instr.slice 29 (.slice (some ad) (r.length + 1) c) (some (.int .i64 1)) none none).run Try.prog W = .ok (.slice A' r.length (c - 1)) W := hcut
  have HBY := Aside0.mk (show byteL r from fun z hz => hb z (by simp [hz]))
  have hlr : r.length < 4611686018427387904 := by simp only [List.length_cons] at hl; omega
  have hm := gotV_len hg
  have hwm : IntKind.i64.wrap ((m : Int) + 1) = ((m + 1 : Nat) : Int) := by rw [IntWalk.i64_in _ (by omega)]; rfl
  have HG := Aside0.mk hg
  clear z0 hr hc hb hl hC' hi0 hsz0 hcut hlc hg
  go_enter Try.func44, Try.ntmps44
  go_wp2_with fail
  go_at_call 68
  refine (value_Get.told _ A' (c - 1) r (Kd.C_below HROW.out (below_alloc (below_alloc (Below.refl _ _) _) _)) HLC.out HBY.out hlr HG.out).mono ?_
  rintro e w1 ⟨rfl, hb1⟩
  have HB1 := Aside0.mk (below_step (below_alloc (below_alloc (Below.refl _ _) _) _) hb1)
  have HT := Aside0.mk (blk_alloc (blk_below (blk_alloc (blk_new w (.cells #[.int .i64 0, .int .i64 0, .int .i64 0, .int .i64 0, .string ⟨#[]⟩] 50)) (.cells #[.int .i64 0, .int .i64 0, .int .i64 0, .int .i64 0, .string ⟨#[]⟩] 50)) hb1) (.cells #[.int .i64 x.f0, .int .i64 x.f1, .string x.f2] 38))
  have HX := Aside0.mk (blk_alloc (blk_below (blk_new2 w (.cells #[.int .i64 0, .int .i64 0, .int .i64 0, .int .i64 0, .string ⟨#[]⟩] 50) (.cells #[.int .i64 0, .int .i64 0, .int .i64 0, .int .i64 0, .string ⟨#[]⟩] 50)) hb1) (.cells #[.int .i64 x.f0, .int .i64 x.f1, .string x.f2] 38))
  have HBV := Aside0.mk (below_alloc HB1.out (.cells #[.int .i64 x.f0, .int .i64 x.f1, .string x.f2] 38))
  clear hb1
  go_upto_region 7 with fail
  go_cut [] (fun wx => wx.heap[w.heap.size]? = some (.cells #[.int .i64 0, .int .i64 0, .int .i64 0, .int .i64 0, .string ⟨#[]⟩] 50) ∧ wx.heap[w.heap.size + 1]? = some (.cells #[.int .i64 0, .int .i64 0, .int .i64 x.f0, .int .i64 x.f1, .string x.f2] 50) ∧ Below w.heap.size w wx)
  case first =>
    obtain ⟨k1, _, k3, _⟩ := know HX.out
    go_wp2_with fail
    go_meet
    exact ⟨blk_far (blk_far (blk_far HT.out (p := ⟨w.heap.size + 1, 2, none⟩) (show w.heap.size ≠ w.heap.size + 1 by omega) (.int .i64 x.f0)) (p := ⟨w.heap.size + 1, 3, none⟩) (show w.heap.size ≠ w.heap.size + 1 by omega) (.int .i64 x.f1)) (p := ⟨w.heap.size + 1, 4, none⟩) (show w.heap.size ≠ w.heap.size + 1 by omega) (.string x.f2), blk_put (blk_put (blk_put HX.out 2 (.int .i64 x.f0) rfl) 3 (.int .i64 x.f1) rfl) 4 (.string x.f2) rfl, Below.setCell (p := ⟨w.heap.size + 1, 4, none⟩) (Below.setCell (p := ⟨w.heap.size + 1, 3, none⟩) (Below.setCell (p := ⟨w.heap.size + 1, 2, none⟩) HBV.out (Nat.le_succ _) _) (Nat.le_succ _) _) (Nat.le_succ _) _⟩
  case rest =>
  obtain ⟨hkt, hkx, hbw⟩ := hcut
  obtain ⟨w9, rfl⟩ : ∃ w9, w9 = wc := ⟨_, rfl⟩
  have HKT := Aside0.mk hkt
  have HBW := Aside0.mk hbw
  obtain ⟨j1, _, j3, _⟩ := know hkx
  obtain ⟨i1, _, i3, _⟩ := know hkt
  clear hkt hkx hbw
  have hfz := blk_put5 (HKT.out) (.int .i64 0) (.int .i64 0) (.int .i64 x.f0) (.int .i64 x.f1) (.string x.f2)
  have hz0 := blk_cell hfz 0
  have hz1 := blk_cell hfz 1
  have hz2 := blk_cell hfz 2
  have hz3 := blk_cell hfz 3
  have hz4 := blk_cell hfz 4
  go_wp2_with fail
  exact bodyPost_ret (v := .tuple #[.agg #[.int .i64 0, .int .i64 0, .int .i64 x.f0, .int .i64 x.f1, .string x.f2], .int .i64 ((m + 1 : Nat) : Int), .bool true]) (by simp [results, Try.results44, go_sem, hz0, hz1, hz2, hz3, hz4]) rfl ⟨rfl, below_put5 (HBW.out) (Nat.le_refl _) _ _ _ _ _⟩
set_option maxHeartbeats 1000000 in
set_option maxRecDepth 100000 in
theorem partb_bad {x : SValue} {m : Nat} (r : List Int) (A : Option Addr) (c : Nat) (w : World) (hr : Kd.C (Kd.int .u8) w A (r.length + 1) (0 :: r)) (hc : r.length + 1 ≤ c) (hb : byteL (0 :: r)) (hl : (0 :: r).length < 4611686018427387904) (hg : gotV (getV r) = (x, m, false)) : Calls Try.prog 44 #[.slice A (r.length + 1) c] w (partBPost none w) := by
  obtain ⟨ad, e, z0⟩ := Kd.at_int hr 0 (by decide) (by omega)
  subst e
  have z1 : w.cell? ad = some (.int .u8 0) := by have h := z0; rw [show (0 : Int).toNat = 0 from rfl, addr_zero] at h; exact h
  have z2 : w.cell? (ad.add 0) = some (.int .u8 0) := z0
  have z3 : ∀ o, (w.alloc o).cell? ad = some (.int .u8 0) := fun o => cell_later o z1
  have z4 : ∀ o, (w.alloc o).cell? (ad.add 0) = some (.int .u8 0) := fun o => cell_later o z2
  obtain ⟨hk0, hk1⟩ := hb 0 (by simp)
  have hwk : IntKind.i64.wrap 0 = 0 := IntWalk.i64_in _ (by omega)
  have hlen : (((r.length + 1 : Nat) : Int) == 0) = false := beq_eq_false_iff_ne.2 (by omega)
  have hlen2 : ((r.length : Int) + 1 == 0) = false := beq_eq_false_iff_ne.2 (by omega)
  have hlen3 : ¬ (r.length : Int) + 1 = 0 := by omega
  obtain ⟨i0, hi0, _, hsz0, _⟩ := info_parts info5
  obtain ⟨A', hcut, hC', hlc⟩ := drop_row (P := Try.prog) (d := Kd.int .u8) Try.underlying29 hi0 hsz0 (some ad) c (0 :: r) 1 1 rfl (by simp) (by simpa using hc)
  have HROW := Aside0.mk (hC' w hr)
  have HLC := Aside0.mk hlc
  have hcut2 : ∀ W : World, (Instr.slice 29 (.slice (some ad) (r.length + 1) c) (some (.int .i64 1)) none none).run Try.prog W = .ok (.slice A' r.length (c - 1)) W := hcut
  have HBY := Aside0.mk (show byteL r from fun z hz => hb z (by simp [hz]))
  have hlr : r.length < 4611686018427387904 := by simp only [List.length_cons] at hl; omega
  have hm := gotV_len hg
  have hwm : IntKind.i64.wrap ((m : Int) + 1) = ((m + 1 : Nat) : Int) := by rw [IntWalk.i64_in _ (by omega)]; rfl
  have HG := Aside0.mk hg
  clear z0 hr hc hb hl hC' hi0 hsz0 hcut hlc hg
  go_enter Try.func44, Try.ntmps44
  go_wp2_with fail
  go_at_call 68
  refine (value_Get.told _ A' (c - 1) r (Kd.C_below HROW.out (below_alloc (below_alloc (Below.refl _ _) _) _)) HLC.out HBY.out hlr HG.out).mono ?_
  rintro e w1 ⟨rfl, hb1⟩
  have HB1 := Aside0.mk (below_step (below_alloc (below_alloc (Below.refl _ _) _) _) hb1)
  have HT := Aside0.mk (blk_alloc (blk_below (blk_alloc (blk_new w (.cells #[.int .i64 0, .int .i64 0, .int .i64 0, .int .i64 0, .string ⟨#[]⟩] 50)) (.cells #[.int .i64 0, .int .i64 0, .int .i64 0, .int .i64 0, .string ⟨#[]⟩] 50)) hb1) (.cells #[.int .i64 x.f0, .int .i64 x.f1, .string x.f2] 38))
  have HX := Aside0.mk (blk_alloc (blk_below (blk_new2 w (.cells #[.int .i64 0, .int .i64 0, .int .i64 0, .int .i64 0, .string ⟨#[]⟩] 50) (.cells #[.int .i64 0, .int .i64 0, .int .i64 0, .int .i64 0, .string ⟨#[]⟩] 50)) hb1) (.cells #[.int .i64 x.f0, .int .i64 x.f1, .string x.f2] 38))
  have HBV := Aside0.mk (below_alloc HB1.out (.cells #[.int .i64 x.f0, .int .i64 x.f1, .string x.f2] 38))
  clear hb1
  go_upto_region 7 with fail
  go_cut [] (fun wx => wx.heap[w.heap.size]? = some (.cells #[.int .i64 0, .int .i64 0, .int .i64 0, .int .i64 0, .string ⟨#[]⟩] 50) ∧ wx.heap[w.heap.size + 1]? = some (.cells #[.int .i64 0, .int .i64 0, .int .i64 x.f0, .int .i64 x.f1, .string x.f2] 50) ∧ Below w.heap.size w wx)
  case first =>
    obtain ⟨k1, _, k3, _⟩ := know HX.out
    go_wp2_with fail
    go_meet
    exact ⟨blk_far (blk_far (blk_far HT.out (p := ⟨w.heap.size + 1, 2, none⟩) (show w.heap.size ≠ w.heap.size + 1 by omega) (.int .i64 x.f0)) (p := ⟨w.heap.size + 1, 3, none⟩) (show w.heap.size ≠ w.heap.size + 1 by omega) (.int .i64 x.f1)) (p := ⟨w.heap.size + 1, 4, none⟩) (show w.heap.size ≠ w.heap.size + 1 by omega) (.string x.f2), blk_put (blk_put (blk_put HX.out 2 (.int .i64 x.f0) rfl) 3 (.int .i64 x.f1) rfl) 4 (.string x.f2) rfl, Below.setCell (p := ⟨w.heap.size + 1, 4, none⟩) (Below.setCell (p := ⟨w.heap.size + 1, 3, none⟩) (Below.setCell (p := ⟨w.heap.size + 1, 2, none⟩) HBV.out (Nat.le_succ _) _) (Nat.le_succ _) _) (Nat.le_succ _) _⟩
  case rest =>
  obtain ⟨hkt, hkx, hbw⟩ := hcut
  obtain ⟨w9, rfl⟩ : ∃ w9, w9 = wc := ⟨_, rfl⟩
  have HKT := Aside0.mk hkt
  have HBW := Aside0.mk hbw
  obtain ⟨j1, _, j3, _⟩ := know hkx
  obtain ⟨i1, _, i3, _⟩ := know hkt
  clear hkt hkx hbw
  have hfz := blk_put5 (HKT.out) (.int .i64 0) (.int .i64 0) (.int .i64 x.f0) (.int .i64 x.f1) (.string x.f2)
  have hz0 := blk_cell hfz 0
  have hz1 := blk_cell hfz 1
  have hz2 := blk_cell hfz 2
  have hz3 := blk_cell hfz 3
  have hz4 := blk_cell hfz 4
  go_wp2_with fail
  exact bodyPost_ret (v := .tuple #[.agg #[.int .i64 0, .int .i64 0, .int .i64 x.f0, .int .i64 x.f1, .string x.f2], .int .i64 ((m + 1 : Nat) : Int), .bool false]) (by simp [results, Try.results44, go_sem, hz0, hz1, hz2, hz3, hz4]) rfl ⟨⟨⟨0, 0, x⟩, _, rfl⟩, below_put5 (HBW.out) (Nat.le_refl _) _ _ _ _ _⟩
theorem partb_told (l : List Int) (A : Option Addr) (c : Nat) (w : World) (hr : Kd.C (Kd.int .u8) w A l.length l) (hc : l.length ≤ c) (hb : byteL l) (hl : l.length < 4611686018427387904) {r : Option (SOp × Nat)} (hq : getP l = r) : Calls Try.prog 44 #[.slice A l.length c] w (partBPost r w) := by
  cases l with
  | nil =>
    subst hq
    exact partb_nil A c w
  | cons k r' =>
    simp only [getP] at hq
    by_cases h0 : k = 0
    · subst h0
      rw [if_pos rfl] at hq
      obtain ⟨⟨x, m, b⟩, hg⟩ : ∃ q, gotV (getV r') = q := ⟨_, rfl⟩
      cases hv : getV r' with
      | none =>
        rw [hv] at hq hg
        subst hq
        simp only [gotV, Prod.mk.injEq] at hg
        obtain ⟨rfl, rfl, rfl⟩ := hg
        exact partb_bad r' A c w hr hc hb hl (by rw [hv]; rfl)
      | some p =>
        obtain ⟨y, j⟩ := p
        rw [hv] at hq hg
        subst hq
        simp only [gotV, Prod.mk.injEq] at hg
        obtain ⟨rfl, rfl, rfl⟩ := hg
        exact partb_push r' A c w hr hc hb hl (by rw [hv]; rfl)
    · rw [if_neg h0] at hq
      by_cases h1 : k = 1
      · rw [if_pos h1] at hq
        subst h1
        cases r' with
        | nil => subst hq; exact partb_short 1 [] A c w hr hc hb hl rfl rfl
        | cons a r'' => subst hq; exact partb_load a r'' A c w hr hc hb hl
      · rw [if_neg h1] at hq
        subst hq
        exact partb_code k r' A c w hr hc hb hl h0 h1
end Go.Proofs.Ytncllbokeofdjaa.P

namespace Go.Proofs.Ytncllbokeofdjaa.P
open Go.RowKit Go.Proofs.YtncllbokeofdjaaW.PrintWords Go.Proofs.YtncllbokeofdjaaW.PrintLast Go.Proofs.YtncllbokeofdjaaW.PrintMore
attribute [local go_sem] max2_int min2_int max_two min_two max_three min_three max_four min_four   -- for this text's walks alone
set_option linter.unusedVariables false
set_option linter.unusedSimpArgs false
def opsPost3 (x : List SOp) (n : Nat) (b : Bool) (w : World) (e : Ending) (w' : World) : Prop := ∃ A c, (e = .returned (.tuple #[.slice A x.length c, .int .i64 (n : Int), .bool b]) ∧ x.length ≤ c ∧ Kd.C kOp w' A x.length x) ∧ Below w.heap.size w w'
def getORel (l : List Int) (n : Nat) (w : World) (k : Nat) (at_ v8 : Value) (w' : World) : Prop := ∃ (a : Nat) (fs : List SOp), at_ = .int .i64 (a : Int) ∧ k ≤ n ∧ a ≤ l.length ∧ fs.length = k ∧ (∀ x ∈ fs, i64V x.f2) ∧ getO l = contO l (n - k) a fs ∧ Kd.R kOp 50 w' w.heap.size (fun _ => True) v8 fs ∧ Below w.heap.size w w'
theorem none_ops {w : World} {e : Ending} {w' : World} (he : e = .returned (.tuple #[.slice none 0 0, .int .i64 0, .bool false])) (hb : Below w.heap.size w w') : opsPost3 [] 0 false w e w' := ⟨none, 0, ⟨he, Nat.le_refl _, Kd.C_nil _ _⟩, hb⟩
set_option maxHeartbeats 1000000 in
set_option maxRecDepth 100000 in
theorem getO_no1 (w : World) (A : Option Addr) (c : Nat) (l : List Int) (hr : Kd.C (Kd.int .u8) w A l.length l) (hc : l.length ≤ c) (hb : byteL l) (hl : l.length < 4611686018427387904) (hg : getN l = none) : Calls Try.prog 21 #[.slice A l.length c] w (opsPost3 [] 0 false w) := by
  go_enter Try.func21, Try.ntmps21
  go_wp2_with fail
  go_at_call 43
  refine (le_Get.no A c l _ hg hb hl hr hc).mono ?_
  rintro e w1 ⟨rfl, hb1⟩
  go_wp2_with fail
  go_ret3
  exact none_ops rfl hb1
set_option maxHeartbeats 1000000 in
set_option maxRecDepth 100000 in
theorem getO_no2 (w : World) (A : Option Addr) (c : Nat) (l : List Int) (hr : Kd.C (Kd.int .u8) w A l.length l) (hc : l.length ≤ c) (hb : byteL l) (hl : l.length < 4611686018427387904) {n u : Nat} (hg : getN l = some (n, u)) (hn : ¬ n ≤ 12) : Calls Try.prog 21 #[.slice A l.length c] w (opsPost3 [] 0 false w) := by
  have hgt : (n : Int) > 12 := by omega
  have hgt2 : (12 : Int) < (n : Int) := by omega
  have hd : decide ((12 : Int) < (n : Int)) = true := decide_eq_true hgt2
  go_enter Try.func21, Try.ntmps21
  go_wp2_with fail
  go_at_call 43
  refine (le_Get.yes A c l _ hg hb hl hr hc).mono ?_
  rintro e w1 ⟨rfl, hb1⟩
  go_wp2_with fail
  go_ret3
  exact none_ops rfl hb1
set_option maxHeartbeats 8000000 in
set_option maxRecDepth 100000 in
theorem getO_go (w : World) (A : Option Addr) (c : Nat) (l : List Int) (hr : Kd.C (Kd.int .u8) w A l.length l) (hc : l.length ≤ c) (hb : byteL l) (hl : l.length < 4611686018427387904) {n u : Nat} (hg : getN l = some (n, u)) (hn : n ≤ 12) {x : List SOp} {m : Nat} {b : Bool} (hq : gotO (getO l) = (x, m, b)) : Calls Try.prog 21 #[.slice A l.length c] w (opsPost3 x m b w) := by
  obtain ⟨i0, hi0, _, hsz0, _⟩ := info_parts info5
  have HR := Aside0.mk hr
  have HC := Aside0.mk hc
  have HBY := Aside0.mk hb
  have HG := Aside0.mk hg
  have HQ := Aside0.mk hq
  have hngt : ¬ (12 : Int) < (n : Int) := by omega
  have hd : decide ((12 : Int) < (n : Int)) = false := decide_eq_false hngt
  have hul := (getN_used hg).2.1
  have HST := Aside0.mk (getO_some (show getM l 12 = some (n, u) from by rw [getM_some hg, if_pos hn]))
  clear hr hc hb hg hq
  go_enter Try.func21, Try.ntmps21
  go_wp2_with fail
  go_at_call 43
  refine (le_Get.yes A c l _ HG.out HBY.out hl HR.out HC.out).mono ?_
  rintro e w1 ⟨rfl, hb1⟩
  have HB1 := Aside0.mk hb1
  clear hb1
  go_wp2_with fail
  go_loopw [6, 8, 9, 10, 11, 25] (fun v6 v8 _ _ _ v25 w' => ∃ k : Nat, v25 = .int .u64 (k : Int) ∧ getORel l n w k v6 v8 w') (fun _ _ _ _ _ i _ => n - (intOf i).toNat)
  case atStart => exact ⟨0, rfl, u, [], rfl, Nat.zero_le _, hul, rfl, (fun _ h => by cases h), by rw [Nat.sub_zero]; exact HST.out, Kd.R_nil _ _ _ _ _, HB1.out⟩
  case round =>
    obtain ⟨k, rfl, a, fs, rfl, hk, ha, hfl, hfi, hcont, ho, hbw⟩ := hrel
    have HO := Aside0.mk ho
    have HB := Aside0.mk hbw
    have HFI := Aside0.mk hfi
    have HCT := Aside0.mk hcont
    have HFL := Aside0.mk hfl
    have hfl12 : fs.length ≤ 12 := by omega
    clear ho hbw hfi hcont HB1 hfl
    by_cases hlt : k < n
    · obtain ⟨A4, hcut4, hD4, hlc4⟩ := drop_row (P := Try.prog) (d := Kd.int .u8) Try.underlying29 hi0 hsz0 A c l a (a : Int) rfl ha HC.out
      have HD4 := Aside0.mk (hD4 w HR.out)
      have HL4 := Aside0.mk hlc4
      have hln4 : a + (l.drop a).length = l.length := by rw [List.length_drop]; omega
      have hstep := contO_step l (n - k - 1) a fs
      rw [show n - k - 1 + 1 = n - k from by omega] at hstep
      have HBD := Aside0.mk (byteL_drop HBY.out a)
      have hld : (l.drop a).length < 4611686018427387904 := by omega
      have hlti : (k : Int) < (n : Int) := by omega
      have hltd : decide ((k : Int) < (n : Int)) = true := decide_eq_true hlti
      clear hD4 hlc4
      cases hg4 : getP (l.drop a) with
      | none =>
        have HN : Aside0 (getO l = none) := ⟨by rw [HCT.out, hstep, hg4]⟩
        have HG4 := Aside0.mk hg4
        have hq2 := HQ.out
        rw [HN.out] at hq2
        simp only [gotO, Prod.mk.injEq] at hq2
        obtain ⟨rfl, rfl, rfl⟩ := hq2
        clear hg4 hstep hi0 hsz0
        generalize l.drop a = ld4 at *
        go_wp2_with fail
        go_at_call 44
        refine (partb_told ld4 A4 _ _ (Kd.C_below HD4.out HB.out) HL4.out HBD.out hld HG4.out).mono ?_
        rintro e w4 ⟨⟨z, zn, rfl⟩, hb4⟩
        unfold cellsP
        go_wp2_with fail
        go_ret3
        exact none_ops rfl (below_alloc (below_step HB.out hb4) _)
      | some p4 =>
        obtain ⟨z, zn⟩ := p4
        obtain ⟨hz1, hz2, hz3⟩ := getP_used HBD.out hg4
        rw [hg4] at hstep
        simp only at hstep
        have HST4 := Aside0.mk (HCT.out.trans hstep)
        have HG4 := Aside0.mk hg4
        have HZ1 := Aside0.mk hz1
        have hsum : IntKind.i64.wrap ((a : Int) + (zn : Int)) = ((a + zn : Nat) : Int) := by rw [IntWalk.i64_in _ (by omega)]; rfl
        have hwk : IntKind.u64.wrap ((k : Int) + 1) = ((k + 1 : Nat) : Int) := by rw [show (k : Int) + 1 = ((k + 1 : Nat) : Int) from rfl]; exact u64_small' (by omega)
        clear hg4 hstep hi0 hsz0 hz1
        generalize l.drop a = ld4 at *
        go_wp2_with fail
        go_at_call 44
        refine (partb_told ld4 A4 _ _ (Kd.C_below HD4.out HB.out) HL4.out HBD.out hld HG4.out).mono ?_
        rintro e w4 ⟨rfl, hb4⟩
        unfold cellsP
        have HB4 := Aside0.mk (below_alloc (below_step HB.out hb4) (.cells #[.int .i64 z.f0, .int .i64 z.f1, .int .i64 z.f2.f0, .int .i64 z.f2.f1, .string z.f2.f2] 50))
        have HO4 := Aside0.mk (Kd.R_alloc (Kd.R_below HO.out hb4) (.cells #[.int .i64 z.f0, .int .i64 z.f1, .int .i64 z.f2.f0, .int .i64 z.f2.f1, .string z.f2.f2] 50))
        have HS4 := Aside0.mk (World.size_alloc w4 (.cells #[.int .i64 z.f0, .int .i64 z.f1, .int .i64 z.f2.f0, .int .i64 z.f2.f1, .string z.f2.f2] 50))
        clear hb4
        go_wp2_with ((with_reducible refine gate_builtin (b := .append) (xs := #[.tmp 37, .tmp 39]) rfl ?_); at_builtin; refine Kd.R_append kOp (w0 := w) w.heap.size rfl (.tmp 37) (.tmp 39) 28 50 (.agg #[.int .i64 0, .int .i64 0, .int .i64 0, .int .i64 0, .string ⟨#[]⟩]) 48 rfl Try.underlying28 infoOp rfl ?h1 ?h2 u8 fs z [.int .i64 z.f0, .int .i64 z.f1, .int .i64 z.f2.f0, .int .i64 z.f2.f1, .string z.f2.f2] (fun _ => True) (fun _ => False) ?hs ?hx ?aP (fun _ hk => hk.elim) (fun _ _ => trivial) ?aO ?aB ?aS ?aL ?_; (case h1 => decide); (case h2 => decide); (case hs => rfl); (case hx => first | rfl | (show Value.slice (some ⟨w4.heap.size + 1, 0, none⟩) 1 1 = _; rw [World.size_alloc])); (case aP => exact kOp_mkM _ _ _ z); (case aO => exact HO4.out); (case aB => exact HB4.out); (case aS => exact below_size HB4.out); (case aL => omega); intro v5 w5 ho5 hb5 hg5 hat5; have HO5 := Aside0.mk ho5; have HB5 := Aside0.mk hb5; clear ho5 hb5 hg5 hat5)
        go_roundw
        case rel => exact ⟨k + 1, by first | go_num | (rw [hwk]) | rfl, a + zn, fs ++ [z], by first | go_num | rfl, by omega, by omega, by rw [List.length_append, HFL.out]; rfl, fun y hy => by rcases List.mem_append.1 hy with h | h; exact HFI.out y h; rw [List.mem_singleton.1 h]; exact HZ1.out, by rw [show n - (k + 1) = n - k - 1 from by omega]; exact HST4.out, HO5.out, HB5.out⟩
        case measure => simp [intOf]; omega
    · obtain rfl : k = n := by omega
      have hnl : ¬ (k : Int) < (k : Int) := by omega
      have hcte := HCT.out
      rw [Nat.sub_self, contO_end] at hcte
      obtain ⟨A5, c5, rfl, hc5, hr5⟩ := Kd.R_reads HO.out
      have HC5 := Aside0.mk hc5
      have HR5 := Aside0.mk hr5
      have hq2 := HQ.out
      rw [hcte] at hq2
      clear hc5 hr5 hcte hi0 hsz0
      cases hmf : mayO fs with
      | false =>
        rw [hmf, if_neg (by decide)] at hq2
        simp only [gotO, Prod.mk.injEq] at hq2
        obtain ⟨rfl, rfl, rfl⟩ := hq2
        have HMF := Aside0.mk hmf
        clear hmf
        go_wp2_with fail
        go_at_call 32
        refine (mayO_told fs A5 c5 _ HR5.out HC5.out HFI.out HMF.out).mono ?_
        rintro e w6 ⟨rfl, hb6⟩
        go_wp2_with fail
        go_ret3
        exact none_ops rfl (below_step HB.out hb6)
      | true =>
        rw [hmf, if_pos rfl] at hq2
        simp only [gotO, Prod.mk.injEq] at hq2
        obtain ⟨rfl, rfl, rfl⟩ := hq2
        have HMF := Aside0.mk hmf
        clear hmf
        go_wp2_with fail
        go_at_call 32
        refine (mayO_told fs A5 c5 _ HR5.out HC5.out HFI.out HMF.out).mono ?_
        rintro e w6 ⟨rfl, hb6⟩
        go_wp2_with fail
        go_ret3
        exact ⟨A5, c5, ⟨rfl, HC5.out, Kd.C_below HR5.out hb6⟩, below_step HB.out hb6⟩
theorem getO_told (w : World) (A : Option Addr) (c : Nat) (l : List Int) (hr : Kd.C (Kd.int .u8) w A l.length l) (hc : l.length ≤ c) (hb : byteL l) (hl : l.length < 4611686018427387904) {x : List SOp} {m : Nat} {b : Bool} (hq : gotO (getO l) = (x, m, b)) : Calls Try.prog 21 #[.slice A l.length c] w (opsPost3 x m b w) := by
  cases hg : getN l with
  | none =>
    rw [getO_none (getM_none hg)] at hq
    simp only [gotO, Prod.mk.injEq] at hq
    obtain ⟨rfl, rfl, rfl⟩ := hq
    exact getO_no1 w A c l hr hc hb hl hg
  | some p =>
    obtain ⟨n, u⟩ := p
    by_cases hn : n ≤ 12
    · exact getO_go w A c l hr hc hb hl hg hn hq
    · rw [getO_none (show getM l 12 = none from by rw [getM_some hg, if_neg hn])] at hq
      simp only [gotO, Prod.mk.injEq] at hq
      obtain ⟨rfl, rfl, rfl⟩ := hq
      exact getO_no2 w A c l hr hc hb hl hg hn
end Go.Proofs.Ytncllbokeofdjaa.P

namespace Go.Proofs.Ytncllbokeofdjaa.P
open Go.RowKit Go.Proofs.YtncllbokeofdjaaW.PrintWords Go.Proofs.YtncllbokeofdjaaW.PrintLast Go.Proofs.YtncllbokeofdjaaW.PrintMore
attribute [local go_sem] max2_int min2_int max_two min_two max_three min_three max_four min_four   -- for this text's walks alone
set_option linter.unusedVariables false
set_option linter.unusedSimpArgs false
attribute [local go_sem high] eqAValue
attribute [local go_sem high] eqAValue
set_option maxHeartbeats 1000000 in
set_option maxRecDepth 100000 in
theorem holds_told (x : SEvent) (A : Option Addr) (c : Nat) (l : List SOp) (Al : Option Addr) (cl : Nat) (w : World) (hr : Kd.C kValue w A x.f2.length x.f2) (hc : x.f2.length ≤ c) (hwf : ∀ v ∈ x.f2, i64V v) (hl : Kd.C kOp w Al l.length l) (hlc : l.length ≤ cl) (hwl : ∀ x ∈ l, i64V x.f2) {b : Bool} (hb : holdsV x l = b) : Calls Try.prog 25 #[.agg #[.string x.f0, .int .i64 x.f1, .slice A x.f2.length c], .slice Al l.length cl] w (boolPost b w) := by
  obtain ⟨y, n, hyn⟩ : ∃ y n, evalV x l = (y, n) := ⟨_, _, rfl⟩
  have HEV := Aside0.mk (fun W (h : Below w.heap.size w W) => eval_told x A c l Al cl W (Kd.C_below hr h) hc hwf (Kd.C_below hl h) hlc hwl hyn)
  unfold holdsV at hb
  rw [hyn] at hb
  have heq : (y.f0 == 1 && (y.f1 == 1 && y.f2.toList.isEmpty)) = eqV y (truV true) := by unfold eqV truV; rw [show (⟨#[]⟩ : ByteArray).toList = [] from by decide +kernel]; cases y.f2.toList <;> rfl
  clear hr hc hwf hl hlc hwl hyn
  obtain ⟨len, hlen⟩ : ∃ len, l.length = len := ⟨_, rfl⟩
  rw [hlen] at HEV hb ⊢
  clear hlen
  by_cases h0 : len = 0
  · rw [decide_eq_true h0, Bool.true_or] at hb
    subst hb
    have h0i : ((len : Int) == 0) = true := by rw [h0]; rfl
    clear h0
    go_enter Try.func25, Try.ntmps25
    go_wp2_with fail
    go_at_call 17
    refine (HEV.out _ (below_alloc (Below.refl _ _) _)).mono ?_
    rintro e w1 ⟨rfl, hb1⟩
    have HB1 := Aside0.mk (below_alloc (below_step (below_alloc (Below.refl _ _) _) hb1) (.cells #[.int .i64 y.f0, .int .i64 y.f1, .string y.f2] 38))
    have hz : ∀ m i, ((w1.alloc (.cells #[.int .i64 y.f0, .int .i64 y.f1, .string y.f2] 38)).drewN m).cell? ⟨w1.heap.size, i, none⟩ = (#[.int .i64 y.f0, .int .i64 y.f1, .string y.f2] : Array Value)[i]? := fun m i => blk_cell (blk_drewN (blk_new w1 (.cells #[.int .i64 y.f0, .int .i64 y.f1, .string y.f2] 38)) m) i
    obtain ⟨q1_, q2_, q3_, q4_⟩ := know (blk_new w1 (.cells #[.int .i64 y.f0, .int .i64 y.f1, .string y.f2] 38))
    clear hb1
    go_wp2_with fail
    go_quiet (fail)
    go_wp2_with fail
    go_ret
    exact ⟨rfl, pw_below_drewN HB1.out _⟩
  · rw [decide_eq_false h0, Bool.false_or] at hb
    have h0i : ((len : Int) == 0) = false := beq_eq_false_iff_ne.2 (by omega)
    clear h0
    by_cases hn : n = 0
    · subst hn
      rw [show ((0 : Int) == 0) = true from rfl, Bool.true_and] at hb
      replace hb : eqV y (truV true) = b := hb
      rw [hb] at heq
      clear hb
      go_enter Try.func25, Try.ntmps25
      go_wp2_with fail
      go_at_call 17
      refine (HEV.out _ (below_alloc (Below.refl _ _) _)).mono ?_
      rintro e w1 ⟨rfl, hb1⟩
      have HB1 := Aside0.mk (below_alloc (below_step (below_alloc (Below.refl _ _) _) hb1) (.cells #[.int .i64 y.f0, .int .i64 y.f1, .string y.f2] 38))
      have hz : ∀ m i, ((w1.alloc (.cells #[.int .i64 y.f0, .int .i64 y.f1, .string y.f2] 38)).drewN m).cell? ⟨w1.heap.size, i, none⟩ = (#[.int .i64 y.f0, .int .i64 y.f1, .string y.f2] : Array Value)[i]? := fun m i => blk_cell (blk_drewN (blk_new w1 (.cells #[.int .i64 y.f0, .int .i64 y.f1, .string y.f2] 38)) m) i
      obtain ⟨q1_, q2_, q3_, q4_⟩ := know (blk_new w1 (.cells #[.int .i64 y.f0, .int .i64 y.f1, .string y.f2] 38))
      clear hb1
      go_wp2_with fail
      go_region_held3 (fun w' => w'.cell? ⟨w1.heap.size, 0, none⟩ = some (.int .i64 y.f0) ∧ w'.cell? ⟨w1.heap.size, 1, none⟩ = some (.int .i64 y.f1) ∧ w'.cell? ⟨w1.heap.size, 2, none⟩ = some (.string y.f2))
        (first | go_keep | (go_split_ands; refine ⟨?_, ?_, ?_⟩ <;> (first | exact hz 1 0 | exact hz 1 1 | exact hz 1 2 | (apply pw_cell_below; (first | exact hb2); assumption))))
        (first
          | (go_at_call 47; refine (valTru_told true _).mono ?_; rintro e w2 ⟨rfl, hb2⟩))
      all_goals
        go_wp2_with fail
        go_ret
        exact ⟨rfl, below_step (below_drew HB1.out) hb2⟩
    · have hn1 : (n == 0) = false := beq_eq_false_iff_ne.2 hn
      rw [hn1, Bool.false_and] at hb
      subst hb
      go_enter Try.func25, Try.ntmps25
      go_wp2_with fail
      go_at_call 17
      refine (HEV.out _ (below_alloc (Below.refl _ _) _)).mono ?_
      rintro e w1 ⟨rfl, hb1⟩
      have HB1 := Aside0.mk (below_alloc (below_step (below_alloc (Below.refl _ _) _) hb1) (.cells #[.int .i64 y.f0, .int .i64 y.f1, .string y.f2] 38))
      have hz : ∀ m i, ((w1.alloc (.cells #[.int .i64 y.f0, .int .i64 y.f1, .string y.f2] 38)).drewN m).cell? ⟨w1.heap.size, i, none⟩ = (#[.int .i64 y.f0, .int .i64 y.f1, .string y.f2] : Array Value)[i]? := fun m i => blk_cell (blk_drewN (blk_new w1 (.cells #[.int .i64 y.f0, .int .i64 y.f1, .string y.f2] 38)) m) i
      obtain ⟨q1_, q2_, q3_, q4_⟩ := know (blk_new w1 (.cells #[.int .i64 y.f0, .int .i64 y.f1, .string y.f2] 38))
      clear hb1
      go_wp2_with fail
      go_quiet (fail)
      go_wp2_with fail
      go_ret
      exact ⟨rfl, pw_below_drewN HB1.out _⟩
end Go.Proofs.Ytncllbokeofdjaa.P

namespace Go.Proofs.Ytncllbokeofdjaa.P
open Go.RowKit Go.Proofs.YtncllbokeofdjaaW.PrintWords Go.Proofs.YtncllbokeofdjaaW.PrintLast Go.Proofs.YtncllbokeofdjaaW.PrintMore
set_option linter.unusedVariables false
theorem C_sole {α : Type} {d : Kd α} {W : World} {B T : Nat} {x : α} {cs : List Value} (h : W.heap[B]? = some (.cells cs.toArray T (0, 0))) (hk : d.K W x cs) (hl : cs.length = d.sz) : Kd.C d W (some ⟨B, 0, none⟩) 1 [x] := by
  refine ⟨rfl, by decide, fun _ => ⟨_, rfl, fun j l hj => ?_⟩⟩
  match j with
  | j + 1 => simp at hj
  | 0 =>
    simp at hj
    subst hj
    refine ⟨cs, hl, hk, fun i u hu => ?_⟩
    rw [Nat.zero_mul, add_plain, blk_cell h]
    simpa using hu
def ex8E : SEvent := ⟨⟨#[97]⟩, 0, [⟨0, 4, ⟨#[]⟩⟩]⟩
def ex8S : SSchema := ⟨⟨#[97]⟩, 1, [⟨⟨#[120]⟩, 0⟩]⟩
theorem ex8_five : holdsV ex8E (belowL 5) = true := by decide +kernel
theorem ex8_four : holdsV ex8E (belowL 4) = false := by decide +kernel
theorem ex8_kind : kindV ex8S (belowL 5) = (1, 0) := by decide +kernel
theorem ex8_may : mayO (belowL 5) = true := by decide +kernel
theorem ex8_bytes : bytesO (belowL 5) = [3, 1, 0, 0, 0, 10, 5] := by
  unfold bytesO
  rw [show (belowL 5).length = 3 from rfl, lePut_small (by decide)]
  have e1 : bytesP ⟨1, 0, zeroV⟩ = [1, 0] := by unfold bytesP; rw [if_neg (by decide), if_pos rfl]
  have e2 : bytesP ⟨0, 0, ⟨0, 5, ⟨#[]⟩⟩⟩ = [0, 0, 10] := by
    unfold bytesP bytesV
    rw [if_pos rfl, show numV ⟨0, 5, ⟨#[]⟩⟩ = 10 from by decide +kernel, lePut_small (by decide)]
    rfl
  have e3 : bytesP ⟨5, 0, zeroV⟩ = [5] := by unfold bytesP; rw [if_neg (by decide), if_neg (by decide)]
  unfold opsL belowL
  rw [List.map_cons, List.map_cons, List.map_cons, List.map_nil, e1, e2, e3]
  rfl
theorem ex8_get : gotO (getO [3, 1, 0, 0, 0, 10, 5]) = (belowL 5, 7, true) := by
  have h := getO_put (l := belowL 5) [] ex8_may (belowL_i64 (by decide))
  rw [List.append_nil, ex8_bytes] at h
  exact gotO_some h
theorem ex8_vals : ∀ v ∈ ex8E.f2, i64V v := by
  intro v hv
  rw [show ex8E.f2 = [⟨0, 4, ⟨#[]⟩⟩] from rfl, List.mem_singleton] at hv
  subst hv
  unfold i64V
  decide
theorem five_i64 : ∀ x ∈ belowL 5, i64V x.f2 := belowL_i64 (by decide)
theorem four_i64 : ∀ x ∈ belowL 4, i64V x.f2 := belowL_i64 (by decide)
set_option maxHeartbeats 8000000 in
set_option maxRecDepth 100000 in
theorem awake8_told (w : World) : Calls Try.prog 11 #[] w (boolPost true w) := by
  have HPUT := Aside0.mk (fun W A c hr hc => putO_told (belowL 5) A c W hr hc five_i64 ex8_may ((if_pos rfl).trans ex8_bytes))
  have HV := Aside0.mk (show Kd.C kValue ((w.alloc (.cells #[.int .i64 0, .int .i64 4, .string ⟨#[]⟩] 38)).alloc (.cells #[.string ⟨#[97]⟩, .int .i64 0, .slice (some ⟨w.heap.size, 0, none⟩) 1 1] 27)) (some ⟨w.heap.size, 0, none⟩) 1 ex8E.f2 from C_sole (T := 38) (cs := [.int .i64 0, .int .i64 4, .string ⟨#[]⟩]) (blk_alloc (blk_new w _) _) (kValue_mk _ ⟨0, 4, ⟨#[]⟩⟩) rfl)
  have HE := Aside0.mk (blk_new2 w (.cells #[.int .i64 0, .int .i64 4, .string ⟨#[]⟩] 38) (.cells #[.string ⟨#[97]⟩, .int .i64 0, .slice (some ⟨w.heap.size, 0, none⟩) 1 1] 27))
  have HB0 := Aside0.mk (below_alloc (below_alloc (Below.refl _ w) (.cells #[.int .i64 0, .int .i64 4, .string ⟨#[]⟩] 38)) (.cells #[.string ⟨#[97]⟩, .int .i64 0, .slice (some ⟨w.heap.size, 0, none⟩) 1 1] 27))
  go_enter Try.func11, Try.ntmps11
  go_wp2_with fail
  generalize (w.alloc (.cells #[.int .i64 0, .int .i64 4, .string ⟨#[]⟩] 38)).alloc (.cells #[.string ⟨#[97]⟩, .int .i64 0, .slice (some ⟨w.heap.size, 0, none⟩) 1 1] 27) = W0 at HV HE HB0 ⊢
  go_at_call 30
  refine (below_told 5 _).mono ?_
  rintro e w1 ⟨v1, rfl, ho1, hb1⟩
  obtain ⟨A1, c1, hv1, hc1, hr1⟩ := Kd.R_reads ho1
  subst hv1
  have HR1 := Aside0.mk hr1
  have HC1 := Aside0.mk hc1
  have HBY := Aside0.mk hb1
  clear ho1 hr1 hc1 hb1
  go_wp2_with fail
  go_at_call 19
  refine (HPUT.out _ A1 c1 HR1.out HC1.out).mono ?_
  rintro e w2 ⟨v2, rfl, ho2, hb2⟩
  obtain ⟨A2, c2, hv2, hc2, hr2⟩ := Own8.reads ho2
  subst hv2
  have HR2 := Aside0.mk hr2
  have HC2 := Aside0.mk hc2
  have HBY := Aside0.mk (below_step HBY.out hb2)
  clear ho2 hr2 hc2 hb2
  go_wp2_with fail
  go_at_call 21
  refine (getO_told _ A2 c2 [3, 1, 0, 0, 0, 10, 5] HR2.out HC2.out (by decide) (by decide) ex8_get).mono ?_
  rintro e w3 ⟨A3, c3, ⟨rfl, hc3, hr3⟩, hb3⟩
  have HC3 := Aside0.mk hc3
  have HF := Aside0.mk (show Kd.C kField (w3.alloc (.cells #[.string ⟨#[120]⟩, .int .i64 0] 63)) (some ⟨w3.heap.size, 0, none⟩) 1 ex8S.f2 from C_sole (T := 63) (cs := [.string ⟨#[120]⟩, .int .i64 0]) (blk_new w3 _) (kField_mk _ ⟨⟨#[120]⟩, 0⟩) rfl)
  have HBY := Aside0.mk (below_alloc (below_step HBY.out hb3) (.cells #[.string ⟨#[120]⟩, .int .i64 0] 63))
  have HL3 := Aside0.mk (Kd.C_alloc hr3 (.cells #[.string ⟨#[120]⟩, .int .i64 0] 63))
  clear hr3 hc3 hb3
  go_wp2_with fail
  generalize w3.alloc (.cells #[.string ⟨#[120]⟩, .int .i64 0] 63) = W3 at HF HBY HL3 ⊢
  go_at_call 30
  refine (below_told 5 _).mono ?_
  rintro e w4 ⟨v4, rfl, ho4, hb4⟩
  obtain ⟨A4, c4, hv4, hc4, hr4⟩ := Kd.R_reads ho4
  subst hv4
  have HR4 := Aside0.mk hr4
  have HC4 := Aside0.mk hc4
  have HBY := Aside0.mk (below_step HBY.out hb4)
  have HL3 := Aside0.mk (Kd.C_below HL3.out hb4)
  have HF := Aside0.mk (Kd.C_below HF.out hb4)
  clear ho4 hr4 hc4 hb4
  go_wp2_with fail
  go_at_call 15
  refine (kind_told ex8S (some ⟨w3.heap.size, 0, none⟩) 1 (belowL 5) A4 c4 _ HF.out (by decide) HR4.out HC4.out five_i64 ex8_kind).mono ?_
  rintro e w5 ⟨rfl, hb5⟩
  have HBY := Aside0.mk (below_step HBY.out hb5)
  have HL3 := Aside0.mk (Kd.C_below HL3.out hb5)
  have HE5 := Aside0.mk (blk_below HE.out HBY.out)
  have he0 := blk_cell HE5.out 0
  have he1 := blk_cell HE5.out 1
  have he2 := blk_cell HE5.out 2
  have HBY := Aside0.mk (below_drew HBY.out)
  have HL3 := Aside0.mk (Kd.C_drew HL3.out)
  clear hb5
  go_wp2_with fail
  go_region_held3 (fun w' => w'.cell? ⟨w.heap.size + 1, 0, none⟩ = some (.string ⟨#[97]⟩) ∧ w'.cell? ⟨w.heap.size + 1, 1, none⟩ = some (.int .i64 0) ∧ w'.cell? ⟨w.heap.size + 1, 2, none⟩ = some (.slice (some ⟨w.heap.size, 0, none⟩) 1 1))
    (first | go_keep | (go_split_ands; refine ⟨?_, ?_, ?_⟩ <;> (first | assumption | (exact blk_cell (blk_below HE.out HBY.out) 0) | (exact blk_cell (blk_below HE.out HBY.out) 1) | (exact blk_cell (blk_below HE.out HBY.out) 2))))
    (first
      | (go_at_call_of 30 (Value.int .i64 5); refine (below_told 5 _).mono ?_; rintro e w6 ⟨v6, rfl, ho6, hb6⟩; obtain ⟨A6, c6, hv6, hc6, hr6⟩ := Kd.R_reads ho6; subst hv6; have HR6 := Aside0.mk hr6; have HC6 := Aside0.mk hc6; have HBY := Aside0.mk (below_step HBY.out hb6); have HL3 := Aside0.mk (Kd.C_below HL3.out hb6); clear ho6 hr6 hc6)
      | (go_at_call_of 30 (Value.int .i64 4); refine (below_told 4 _).mono ?_; rintro e w8 ⟨v8, rfl, ho8, hb8⟩; obtain ⟨A8, c8, hv8, hc8, hr8⟩ := Kd.R_reads ho8; subst hv8; have HR8 := Aside0.mk hr8; have HC8 := Aside0.mk hc8; have HBY := Aside0.mk (below_step HBY.out hb8); have HL3 := Aside0.mk (Kd.C_below HL3.out hb8); clear ho8 hr8 hc8)
      | (go_at_call 25; refine (holds_told ex8E (some ⟨w.heap.size, 0, none⟩) 1 (belowL 5) A6 c6 _ (Kd.C_below HV.out HBY.out) (by decide) ex8_vals HR6.out HC6.out five_i64 ex8_five).mono ?_; rintro e w7 ⟨rfl, hb7⟩; have HBY := Aside0.mk (below_step HBY.out hb7); have HL3 := Aside0.mk (Kd.C_below HL3.out hb7))
      | (go_at_call 25; refine (holds_told ex8E (some ⟨w.heap.size, 0, none⟩) 1 (belowL 4) A8 c8 _ (Kd.C_below HV.out HBY.out) (by decide) ex8_vals HR8.out HC8.out four_i64 ex8_four).mono ?_; rintro e w9 ⟨rfl, hb9⟩; have HBY := Aside0.mk (below_step HBY.out hb9); have HL3 := Aside0.mk (Kd.C_below HL3.out hb9))
      | (go_at_call 26; refine (sameO_told (belowL 5) (belowL 5) A3 c3 A6 c6 _ HL3.out HC3.out HR6.out HC6.out (eqO_iff.2 rfl)).mono ?_; rintro e w11 ⟨rfl, hb11⟩; have HBY := Aside0.mk (below_step HBY.out hb11); have HL3 := Aside0.mk (Kd.C_below HL3.out hb11)))
  all_goals
    go_wp2_with fail
    go_ret
    exact ⟨rfl, below_step HB0.out HBY.out⟩
end Go.Proofs.Ytncllbokeofdjaa.P

namespace Go.Proofs.Ytncllbokeofdjaa.P
open Go.RowKit Go.Proofs.YtncllbokeofdjaaW.PrintWords Go.Proofs.YtncllbokeofdjaaW.PrintLast Go.Proofs.YtncllbokeofdjaaW.PrintMore
set_option linter.unusedVariables false
def cellsO (x : SOp) : List Value := [.int .i64 x.f0, .int .i64 x.f1, .int .i64 x.f2.f0, .int .i64 x.f2.f1, .string x.f2.f2]
theorem flat_five : ∀ (l : List SOp) (j i : Nat), i < 5 → (l.map cellsO).flatten[j * 5 + i]? = (l[j]?).bind fun x => (cellsO x)[i]?
  | [], j, i, _ => by simp
  | x :: l, 0, i, h => by
    rw [List.map_cons, List.flatten_cons, Nat.zero_mul, Nat.zero_add, List.getElem?_append_left (by simp [cellsO]; omega)]
    rfl
  | x :: l, j + 1, i, h => by
    rw [List.map_cons, List.flatten_cons, List.getElem?_append_right (by simp [cellsO]; omega)]
    rw [show (j + 1) * 5 + i - (cellsO x).length = j * 5 + i from by simp [cellsO]; omega, flat_five l j i h]
    rfl
theorem C_ops {W : World} {B T : Nat} (l : List SOp) (h : W.heap[B]? = some (.cells ((l.map cellsO).flatten.toArray) T (0, 0))) (hl : l.length ≤ 1000) : Kd.C kOp W (some ⟨B, 0, none⟩) l.length l := by
  refine ⟨rfl, by omega, fun _ => ⟨_, rfl, fun j x hj => ?_⟩⟩
  refine ⟨cellsO x, rfl, kOp_mk W x, fun i u hu => ?_⟩
  have hi : i < 5 := by have := (List.getElem?_eq_some_iff.1 hu).1; simpa [cellsO] using this
  rw [show kOp.sz = 5 from rfl, add_plain, blk_cell h]
  have := flat_five l j i hi
  rw [hj] at this
  rw [List.getElem?_toArray]
  first | (rw [this]; exact hu) | (rw [Nat.zero_add, this]; exact hu)
def ex0E : SEvent := ⟨⟨#[97]⟩, 0, []⟩
theorem ex0_may : mayE ex0E = true := by decide +kernel
theorem ex0_vals : ∀ v ∈ ex0E.f2, i64V v := fun _ h => by cases h
theorem mayP_push {v : SValue} (h : mayV v = true) : mayP ⟨0, 0, v⟩ = true := mayP_iff.2 ⟨show (0 : Int) ≤ 0 by decide, show (0 : Int) < 10 by decide, show (0 : Int) ≤ 0 by decide, show (0 : Int) < 6 by decide, .inr rfl, .inl rfl, h⟩
theorem mayP_code {c : Int} (h0 : 0 ≤ c) (h1 : c < 10) : mayP ⟨c, 0, zeroV⟩ = true := mayP_iff.2 ⟨h0, h1, show (0 : Int) ≤ 0 by decide, show (0 : Int) < 6 by decide, .inr rfl, .inr rfl, okV_zero.1⟩
theorem stepV_top (v : List SValue) (k : Bool) {c : Int} (x : Int) (f : SValue) (q : List SValue) (a b : SValue) (h0 : c ≠ 0) (h1 : c ≠ 1) (h9 : c ≠ 9) : stepV v k ⟨c, x, f⟩ (q ++ [a, b]) = (match twoV c a b with | .ok y => .ok (q ++ [y]) | .error e => if k = true ∧ e = 6 then .ok (q ++ [zeroV]) else .error e) := by
  unfold stepV
  have hl : (q ++ [a, b]).length = q.length + 2 := by simp
  have g0 : (q ++ [a, b]).getD (q.length + 2 - 2) zValue = a := by simp [List.getD]
  have g1 : (q ++ [a, b]).getD (q.length + 2 - 1) zValue = b := by simp [List.getD]
  have g2 : (q ++ [a, b]).take (q.length + 2 - 2) = q := by simp
  simp only [hl, g0, g1, g2]
  rw [if_neg h0, if_neg h1, if_neg h9, if_neg (by omega)]
  rfl
theorem stepV_push (v : List SValue) (k : Bool) (a : Int) (x : SValue) (q : List SValue) : stepV v k ⟨0, a, x⟩ q = .ok (q ++ [x]) := rfl
end Go.Proofs.Ytncllbokeofdjaa.P

namespace Go.Proofs.Ytncllbokeofdjaa.P
open Go.RowKit Go.Proofs.YtncllbokeofdjaaW.PrintWords Go.Proofs.YtncllbokeofdjaaW.PrintLast Go.Proofs.YtncllbokeofdjaaW.PrintMore
set_option linter.unusedVariables false
def pairO (a b : SValue) (c : Int) : List SOp := [⟨0, 0, a⟩, ⟨0, 0, b⟩, ⟨c, 0, zeroV⟩]
theorem pairO_i64 {a b : SValue} (c : Int) (ha : i64V a) (hb : i64V b) : ∀ x ∈ pairO a b c, i64V x.f2 := by
  intro x hx
  simp only [pairO, List.mem_cons, List.not_mem_nil, or_false] at hx
  rcases hx with rfl | rfl | rfl
  · exact ha
  · exact hb
  · exact okV_zero.2
theorem pairO_eval {a b : SValue} {c : Int} (h2 : 2 ≤ c) (h9 : c < 9) (ha : mayV a = true) (hb : mayV b = true) : evalV ex0E (pairO a b c) = (match twoV c a b with | .ok y => (y, 0) | .error e => (zeroV, e)) := by
  unfold evalV
  rw [if_pos ⟨mayO_iff.2 ⟨show 3 ≤ 12 by decide, fun x hx => by
    simp only [pairO, List.mem_cons, List.not_mem_nil, or_false] at hx
    rcases hx with rfl | rfl | rfl
    · exact mayP_push ha
    · exact mayP_push hb
    · exact mayP_code (by omega) (by omega)⟩, ex0_may⟩]
  unfold pairO
  rw [runV_cons (stepV_push _ _ _ _ _), runV_cons (stepV_push _ _ _ _ _)]
  have s3 := stepV_top ex0E.f2 false 0 zeroV [] a b (c := c) (by omega) (by omega) (by omega)
  show endV (runV ex0E.f2 false [⟨c, 0, zeroV⟩] ([] ++ [a, b])) = _
  cases ht : twoV c a b with
  | error e => rw [ht] at s3; rw [runV_stop (e := e) (by rw [s3]; simp)]; rfl
  | ok y => rw [ht] at s3; rw [runV_cons s3]; rfl
theorem pairO_holds {a b : SValue} {c : Int} (h2 : 2 ≤ c) (h9 : c < 9) (ha : mayV a = true) (hb : mayV b = true) : holdsV ex0E (pairO a b c) = (match twoV c a b with | .ok y => eqV y (truV true) | .error e => e == 0 && eqV zeroV (truV true)) := by
  unfold holdsV
  rw [pairO_eval h2 h9 ha hb]
  rw [show decide ((pairO a b c).length = 0) = false from rfl, Bool.false_or]
  cases twoV c a b with
  | error e => rfl
  | ok y => rfl
theorem eqV_tru (p : Bool) : eqV (truV p) (truV true) = p := by cases p <;> decide +kernel
theorem lessV_two {a b : SValue} (ha : mayV a = true) (hb : mayV b = true) (he : a.f0 = b.f0) : (lessV a b || (lessV b a || eqV a b)) = true ∧ (lessV a b && lessV b a) = false := by
  unfold lessV
  by_cases h2 : a.f0 = 2
  · have h3 : b.f0 = 2 := he ▸ h2
    rw [if_pos h2, if_pos h3]
    obtain ⟨h4, h5⟩ := bytes_three a.f2.toList b.f2.toList
    have e1 := (mayV_bytes ha h2).1
    have e2 := (mayV_bytes hb h3).1
    cases h6 : Op.bytesLess a.f2.toList b.f2.toList with
    | true => rw [(h4 h6).1]; exact ⟨rfl, rfl⟩
    | false =>
      cases h7 : Op.bytesLess b.f2.toList a.f2.toList with
      | true => exact ⟨rfl, rfl⟩
      | false =>
        refine ⟨?_, rfl⟩
        show eqV a b = true
        rw [eqV_iff]
        obtain ⟨k, n, s⟩ := a
        obtain ⟨k', n', s'⟩ := b
        simp only at he e1 e2
        subst he e1 e2
        have h8 : s = s' := toList_inj (h5 h6 h7)
        rw [h8]
  · have h3 : b.f0 ≠ 2 := fun h => h2 (he.trans h)
    rw [if_neg h2, if_neg h3]
    have t1 := toList_nil (mayV_text ha h2)
    have t2 := toList_nil (mayV_text hb h3)
    have : eqV a b = decide (a.f1 = b.f1) := by
      rw [Bool.eq_iff_iff, eqV_iff, decide_eq_true_eq]
      constructor
      · rintro rfl; rfl
      · intro h
        obtain ⟨k, n, s⟩ := a
        obtain ⟨k', n', s'⟩ := b
        simp only at he h t1 t2
        subst he h t1 t2
        rfl
    rw [this]
    simp only [Bool.or_eq_true, decide_eq_true_eq, Bool.and_eq_false_iff, decide_eq_false_iff_not]
    omega
end Go.Proofs.Ytncllbokeofdjaa.P

namespace Go.Proofs.Ytncllbokeofdjaa.P
open Go.RowKit Go.Proofs.YtncllbokeofdjaaW.PrintWords Go.Proofs.YtncllbokeofdjaaW.PrintLast Go.Proofs.YtncllbokeofdjaaW.PrintMore
attribute [local go_sem] max2_int min2_int max_two min_two max_three min_three max_four min_four   -- for this text's walks alone
set_option linter.unusedVariables false
set_option linter.unusedSimpArgs false
theorem openArg0_ExprLess : Opens Try.prog 38 kValue wfValue := openValue
theorem openArg1_ExprLess : Opens Try.prog 38 kValue wfValue := openValue
def ExprLess.Stmt : Prop := ∀ (W : World) (x0 : SValue) (cs0 : List Value) (K0 : kValue.K W x0 cs0) (w0 : wfValue x0) (x1 : SValue) (cs1 : List Value) (K1 : kValue.K W x1 cs1) (w1 : wfValue x1),
    Calls Try.prog 7 #[.agg cs0.toArray, .agg cs1.toArray] W fun e w' => e = .returned (.bool true) ∧ Below W.heap.size W w'
end Go.Proofs.Ytncllbokeofdjaa.P

namespace Go.Proofs.Ytncllbokeofdjaa.P
open Go.RowKit Go.Proofs.YtncllbokeofdjaaW.PrintWords Go.Proofs.YtncllbokeofdjaaW.PrintLast Go.Proofs.YtncllbokeofdjaaW.PrintMore
set_option linter.unusedVariables false
set_option linter.unusedSimpArgs false
attribute [local go_sem high] eqAValue
set_option maxHeartbeats 40000000 in
set_option maxRecDepth 100000 in
theorem ExprLess.walk : ExprLess.Stmt := by
  intro W x0 cs0 K0 w0 x1 cs1 K1 w1
  obtain rfl := kValue_open K0
  obtain rfl := kValue_open K1
  have HV0 := Aside0.mk (i64V_of w0)
  have HV1 := Aside0.mk (i64V_of w1)
  obtain ⟨m0, hm0⟩ : ∃ m, mayV x0 = m := ⟨_, rfl⟩
  obtain ⟨m1, hm1⟩ : ∃ m, mayV x1 = m := ⟨_, rfl⟩
  have HM0 := Aside0.mk hm0
  have HM1 := Aside0.mk hm1
  clear w0 w1 K0 K1
  by_cases hgo : m0 = true ∧ m1 = true
  · obtain ⟨rfl, rfl⟩ := hgo
    have HO0 := Aside0.mk (show okV x0 from ⟨hm0, HV0.out⟩)
    have HO1 := Aside0.mk (show okV x1 from ⟨hm1, HV1.out⟩)
    have e1 := pairO_eval (c := 5) (by decide) (by decide) hm0 hm1
    have e2 := pairO_holds (c := 5) (by decide) (by decide) hm1 hm0
    have e3 := pairO_eval (c := 6) (by decide) (by decide) hm0 hm1
    unfold twoV at e1 e2 e3
    by_cases he : x0.f0 = x1.f0
    · have he2 : (x0.f0 == x1.f0) = true := beq_iff_eq.2 he
      have he3 : (x0.f0 != x1.f0) = false := by rw [bne, he2]; rfl
      rw [if_neg (fun h => h he), if_neg (show ¬ (5 : Int) = 6 by decide), if_pos rfl] at e1
      rw [if_neg (fun h => h he.symm), if_neg (show ¬ (5 : Int) = 6 by decide), if_pos rfl] at e2
      rw [if_neg (fun h => h he), if_pos rfl] at e3
      obtain ⟨q, hq⟩ : ∃ q, eqV x0 x1 = q := ⟨_, rfl⟩
      obtain ⟨y2, hy2⟩ : ∃ y, truV q = y := ⟨_, rfl⟩
      simp only [hq, hy2] at e3
      have HE3 := Aside0.mk e3
      have hs1 : (y2.f1 == 1) = q := by rw [← hy2]; cases q <;> rfl
      have hs0 : (y2.f0 == 1) = true := by rw [← hy2]; rfl
      have hs0n : (y2.f0 != 1) = false := by rw [← hy2]; rfl
      have heq : (x0.f1 == x1.f1 && x0.f2.toList == x1.f2.toList) = q := by rw [← hq]; unfold eqV; rw [he2, Bool.true_and]
      have HE := Aside0.mk he
      clear e3 hy2
      by_cases hb : x0.f0 = 1
      · have hbb : (x0.f0 == 1) = true := beq_iff_eq.2 hb
        rw [if_pos hb] at e1
        rw [if_pos (show x1.f0 = 1 from he ▸ hb)] at e2
        obtain ⟨y1, hy1⟩ : ∃ y, zeroV = y := ⟨_, rfl⟩
        simp only [hy1] at e1
        have HE1 := Aside0.mk e1
        have HE2 := Aside0.mk (show holdsV ex0E (pairO x1 x0 5) = false from by rw [e2]; rfl)
        clear e1 e2 hy1 hb he hm0 hm1 hq
        cases q
        all_goals
          go_enter Try.func7, Try.ntmps7
          go_wp2_with fail
          go_at_call 11
          refine (awake8_told _).mono ?_
          rintro e w1_ ⟨rfl, hb1_⟩
          have HB1_ := Aside0.mk (below_step (below_alloc (below_alloc (Below.refl _ _) _) _) hb1_)
          have HKx01_ := Aside0.mk (blk_below (blk_alloc (blk_new _ _) _) hb1_)
          obtain ⟨kx01a_, kx01b_, kx01c_, kx01d_⟩ := know HKx01_.out
          have HKx11_ := Aside0.mk (blk_below (blk_new2 _ _ _) hb1_)
          obtain ⟨kx11a_, kx11b_, kx11c_, kx11d_⟩ := know HKx11_.out
          clear hb1_
          go_wp2_with fail
          go_at_call_of 27 (Value.agg #[.int .i64 x0.f0, .int .i64 x0.f1, .string x0.f2])
          refine (mayV_told x0 _ HV0.out HM0.out).mono ?_
          rintro e w2_ ⟨rfl, hb2_⟩
          have HB2_ := Aside0.mk (below_step (HB1_.out) hb2_)
          have HKx02_ := Aside0.mk (blk_below (HKx01_.out) hb2_)
          obtain ⟨kx02a_, kx02b_, kx02c_, kx02d_⟩ := know HKx02_.out
          have HKx12_ := Aside0.mk (blk_below (HKx11_.out) hb2_)
          obtain ⟨kx12a_, kx12b_, kx12c_, kx12d_⟩ := know HKx12_.out
          clear kx01a_ kx01b_ kx01c_ kx01d_ kx11a_ kx11b_ kx11c_ kx11d_
          clear hb2_
          go_wp2_with fail
          go_at_call_of 27 (Value.agg #[.int .i64 x1.f0, .int .i64 x1.f1, .string x1.f2])
          refine (mayV_told x1 _ HV1.out HM1.out).mono ?_
          rintro e w3_ ⟨rfl, hb3_⟩
          have HB3_ := Aside0.mk (below_step (HB2_.out) hb3_)
          have HKx03_ := Aside0.mk (blk_below (HKx02_.out) hb3_)
          obtain ⟨kx03a_, kx03b_, kx03c_, kx03d_⟩ := know HKx03_.out
          have HKx13_ := Aside0.mk (blk_below (HKx12_.out) hb3_)
          obtain ⟨kx13a_, kx13b_, kx13c_, kx13d_⟩ := know HKx13_.out
          clear kx02a_ kx02b_ kx02c_ kx02d_ kx12a_ kx12b_ kx12c_ kx12d_
          clear hb3_
          have hA2 : ∀ o o2 i, ((w3_.alloc o).alloc o2).cell? ⟨W.heap.size + 1, i, none⟩ = (#[.int .i64 x1.f0, .int .i64 x1.f1, .string x1.f2] : Array Value)[i]? := fun o o2 i => blk_cell (blk_alloc (blk_alloc HKx13_.out o) o2) i
          go_wp2_with fail
          go_at_call 17
          refine (eval_told ex0E none 0 (pairO x0 x1 5) (some ⟨w3_.heap.size + 1 + 1 + 1, 0, none⟩) 3 _ (Kd.C_nil _ _) (Nat.le_refl _) ex0_vals (C_ops (T := 50) (pairO x0 x1 5) (blk_new4 _ _ _ _ _) (show 3 ≤ 1000 by decide)) (show 3 ≤ 3 by decide) (pairO_i64 5 HV0.out HV1.out) HE1.out).mono ?_
          rintro e w4_ ⟨rfl, hb4_⟩
          have HB4_ := Aside0.mk (below_step (below_alloc (below_alloc (below_alloc (below_alloc (HB3_.out) _) _) _) _) hb4_)
          have HKx04_ := Aside0.mk (blk_below (blk_alloc (blk_alloc (blk_alloc (blk_alloc (HKx03_.out) _) _) _) _) hb4_)
          obtain ⟨kx04a_, kx04b_, kx04c_, kx04d_⟩ := know HKx04_.out
          have HKx14_ := Aside0.mk (blk_below (blk_alloc (blk_alloc (blk_alloc (blk_alloc (HKx13_.out) _) _) _) _) hb4_)
          obtain ⟨kx14a_, kx14b_, kx14c_, kx14d_⟩ := know HKx14_.out
          have HKe4_ := Aside0.mk (blk_below (blk_alloc (blk_alloc (blk_alloc (blk_new _ _) _) _) _) hb4_)
          obtain ⟨ke4a_, ke4b_, ke4c_, ke4d_⟩ := know HKe4_.out
          have HKa4_ := Aside0.mk (blk_below (blk_alloc (blk_alloc (blk_new2 _ _ _) _) _) hb4_)
          obtain ⟨ka4a_, ka4b_, ka4c_, ka4d_⟩ := know HKa4_.out
          have HKb4_ := Aside0.mk (blk_below (blk_alloc (blk_new3 _ _ _ _) _) hb4_)
          obtain ⟨kb4a_, kb4b_, kb4c_, kb4d_⟩ := know HKb4_.out
          clear kx03a_ kx03b_ kx03c_ kx03d_ kx13a_ kx13b_ kx13c_ kx13d_
          have HRo4_ := Aside0.mk (Kd.C_below (C_ops (T := 50) (pairO x0 x1 5) (blk_new4 _ _ _ _ _) (show 3 ≤ 1000 by decide)) hb4_)
          clear hb4_
          go_wp2_with fail
          go_at_call 25
          refine (holds_told ex0E none 0 (pairO x1 x0 5) (some ⟨w4_.heap.size + 1, 0, none⟩) 3 _ (Kd.C_nil _ _) (Nat.le_refl _) ex0_vals (C_ops (T := 50) (pairO x1 x0 5) (blk_new2 _ _ _) (show 3 ≤ 1000 by decide)) (show 3 ≤ 3 by decide) (pairO_i64 5 HV1.out HV0.out) HE2.out).mono ?_
          rintro e w5_ ⟨rfl, hb5_⟩
          have HB5_ := Aside0.mk (below_step (below_alloc (below_alloc (HB4_.out) _) _) hb5_)
          have HKx05_ := Aside0.mk (blk_below (blk_alloc (blk_alloc (HKx04_.out) _) _) hb5_)
          obtain ⟨kx05a_, kx05b_, kx05c_, kx05d_⟩ := know HKx05_.out
          have HKx15_ := Aside0.mk (blk_below (blk_alloc (blk_alloc (HKx14_.out) _) _) hb5_)
          obtain ⟨kx15a_, kx15b_, kx15c_, kx15d_⟩ := know HKx15_.out
          have HKe5_ := Aside0.mk (blk_below (blk_alloc (blk_alloc (HKe4_.out) _) _) hb5_)
          obtain ⟨ke5a_, ke5b_, ke5c_, ke5d_⟩ := know HKe5_.out
          have HKa5_ := Aside0.mk (blk_below (blk_alloc (blk_alloc (HKa4_.out) _) _) hb5_)
          obtain ⟨ka5a_, ka5b_, ka5c_, ka5d_⟩ := know HKa5_.out
          have HKb5_ := Aside0.mk (blk_below (blk_alloc (blk_alloc (HKb4_.out) _) _) hb5_)
          obtain ⟨kb5a_, kb5b_, kb5c_, kb5d_⟩ := know HKb5_.out
          have HKl5_ := Aside0.mk (blk_below (blk_alloc (blk_new _ _) _) hb5_)
          obtain ⟨kl5a_, kl5b_, kl5c_, kl5d_⟩ := know HKl5_.out
          clear kx04a_ kx04b_ kx04c_ kx04d_ kx14a_ kx14b_ kx14c_ kx14d_ ke4a_ ke4b_ ke4c_ ke4d_ ka4a_ ka4b_ ka4c_ ka4d_ kb4a_ kb4b_ kb4c_ kb4d_
          have HRo5_ := Aside0.mk (Kd.C_below (C_ops (T := 50) (pairO x1 x0 5) (blk_new2 _ _ _) (show 3 ≤ 1000 by decide)) hb5_)
          clear hb5_
          go_wp2_with fail
          go_at_call 17
          refine (eval_told ex0E none 0 (pairO x0 x1 6) (some ⟨w5_.heap.size, 0, none⟩) 3 _ (Kd.C_nil _ _) (Nat.le_refl _) ex0_vals (C_ops (T := 50) (pairO x0 x1 6) (blk_new _ _) (show 3 ≤ 1000 by decide)) (show 3 ≤ 3 by decide) (pairO_i64 6 HV0.out HV1.out) HE3.out).mono ?_
          rintro e w6_ ⟨rfl, hb6_⟩
          have HB6_ := Aside0.mk (below_step (below_alloc (HB5_.out) _) hb6_)
          have HKx06_ := Aside0.mk (blk_below (blk_alloc (HKx05_.out) _) hb6_)
          obtain ⟨kx06a_, kx06b_, kx06c_, kx06d_⟩ := know HKx06_.out
          have HKx16_ := Aside0.mk (blk_below (blk_alloc (HKx15_.out) _) hb6_)
          obtain ⟨kx16a_, kx16b_, kx16c_, kx16d_⟩ := know HKx16_.out
          have HKe6_ := Aside0.mk (blk_below (blk_alloc (HKe5_.out) _) hb6_)
          obtain ⟨ke6a_, ke6b_, ke6c_, ke6d_⟩ := know HKe6_.out
          have HKa6_ := Aside0.mk (blk_below (blk_alloc (HKa5_.out) _) hb6_)
          obtain ⟨ka6a_, ka6b_, ka6c_, ka6d_⟩ := know HKa6_.out
          have HKb6_ := Aside0.mk (blk_below (blk_alloc (HKb5_.out) _) hb6_)
          obtain ⟨kb6a_, kb6b_, kb6c_, kb6d_⟩ := know HKb6_.out
          have HKl6_ := Aside0.mk (blk_below (blk_alloc (HKl5_.out) _) hb6_)
          obtain ⟨kl6a_, kl6b_, kl6c_, kl6d_⟩ := know HKl6_.out
          clear kx05a_ kx05b_ kx05c_ kx05d_ kx15a_ kx15b_ kx15c_ kx15d_ ke5a_ ke5b_ ke5c_ ke5d_ ka5a_ ka5b_ ka5c_ ka5d_ kb5a_ kb5b_ kb5c_ kb5d_ kl5a_ kl5b_ kl5c_ kl5d_
          have HRo6_ := Aside0.mk (Kd.C_below (C_ops (T := 50) (pairO x0 x1 6) (blk_new _ _) (show 3 ≤ 1000 by decide)) hb6_)
          clear hb6_
          obtain ⟨s1_, s2_, s3_, s4_⟩ := know (blk_new w6_ (.cells #[.int .i64 y2.f0, .int .i64 y2.f1, .string y2.f2] 38))
          have hDx0 : ∀ m i, ((w6_.alloc (.cells #[.int .i64 y2.f0, .int .i64 y2.f1, .string y2.f2] 38)).drewN m).cell? ⟨W.heap.size, i, none⟩ = (#[.int .i64 x0.f0, .int .i64 x0.f1, .string x0.f2] : Array Value)[i]? := fun m i => blk_cell (blk_drewN (blk_alloc (HKx06_.out) _) m) i
          have hDx1 : ∀ m i, ((w6_.alloc (.cells #[.int .i64 y2.f0, .int .i64 y2.f1, .string y2.f2] 38)).drewN m).cell? ⟨W.heap.size + 1, i, none⟩ = (#[.int .i64 x1.f0, .int .i64 x1.f1, .string x1.f2] : Array Value)[i]? := fun m i => blk_cell (blk_drewN (blk_alloc (HKx16_.out) _) m) i
          have hDs : ∀ m i, ((w6_.alloc (.cells #[.int .i64 y2.f0, .int .i64 y2.f1, .string y2.f2] 38)).drewN m).cell? ⟨w6_.heap.size, i, none⟩ = (#[.int .i64 y2.f0, .int .i64 y2.f1, .string y2.f2] : Array Value)[i]? := fun m i => blk_cell (blk_drewN (blk_new _ _) m) i
          go_wp2_with fail
          go_quiet (fail)
          go_wp2_with fail
          go_ret
          exact ⟨by first | rfl | simp [*], pw_below_drewN (below_alloc (HB6_.out) _) _⟩
      · have hbb : (x0.f0 == 1) = false := beq_eq_false_iff_ne.2 hb
        rw [if_neg hb] at e1
        rw [if_neg (show ¬ x1.f0 = 1 from fun h => hb (he.trans h))] at e2
        obtain ⟨hT1, hT2⟩ := lessV_two hm0 hm1 he
        rw [hq] at hT1
        obtain ⟨p, hp⟩ : ∃ p, lessV x0 x1 = p := ⟨_, rfl⟩
        obtain ⟨r, hr⟩ : ∃ r, lessV x1 x0 = r := ⟨_, rfl⟩
        obtain ⟨y1, hy1⟩ : ∃ y, truV p = y := ⟨_, rfl⟩
        rw [hp, hr] at hT1 hT2
        simp only [hp, hy1] at e1
        have HE1 := Aside0.mk e1
        have HE2 := Aside0.mk (show holdsV ex0E (pairO x1 x0 5) = r from by rw [e2]; simp only [hr]; exact eqV_tru r)
        have hl1 : (y1.f1 == 1) = p := by rw [← hy1]; cases p <;> rfl
        have HP := Aside0.mk hp
        have HT := Aside0.mk (And.intro hT1 hT2)
        clear e1 e2 hy1 hb he hm0 hm1 hp hr hq hT1 hT2
        cases p <;> cases r <;> cases q
        all_goals first
          | (exfalso; have := HT.out; simp at this; done)
          | skip
        all_goals
          go_enter Try.func7, Try.ntmps7
          go_wp2_with fail
          go_at_call 11
          refine (awake8_told _).mono ?_
          rintro e w1_ ⟨rfl, hb1_⟩
          have HB1_ := Aside0.mk (below_step (below_alloc (below_alloc (Below.refl _ _) _) _) hb1_)
          have HKx01_ := Aside0.mk (blk_below (blk_alloc (blk_new _ _) _) hb1_)
          obtain ⟨kx01a_, kx01b_, kx01c_, kx01d_⟩ := know HKx01_.out
          have HKx11_ := Aside0.mk (blk_below (blk_new2 _ _ _) hb1_)
          obtain ⟨kx11a_, kx11b_, kx11c_, kx11d_⟩ := know HKx11_.out
          clear hb1_
          go_wp2_with fail
          go_at_call_of 27 (Value.agg #[.int .i64 x0.f0, .int .i64 x0.f1, .string x0.f2])
          refine (mayV_told x0 _ HV0.out HM0.out).mono ?_
          rintro e w2_ ⟨rfl, hb2_⟩
          have HB2_ := Aside0.mk (below_step (HB1_.out) hb2_)
          have HKx02_ := Aside0.mk (blk_below (HKx01_.out) hb2_)
          obtain ⟨kx02a_, kx02b_, kx02c_, kx02d_⟩ := know HKx02_.out
          have HKx12_ := Aside0.mk (blk_below (HKx11_.out) hb2_)
          obtain ⟨kx12a_, kx12b_, kx12c_, kx12d_⟩ := know HKx12_.out
          clear kx01a_ kx01b_ kx01c_ kx01d_ kx11a_ kx11b_ kx11c_ kx11d_
          clear hb2_
          go_wp2_with fail
          go_at_call_of 27 (Value.agg #[.int .i64 x1.f0, .int .i64 x1.f1, .string x1.f2])
          refine (mayV_told x1 _ HV1.out HM1.out).mono ?_
          rintro e w3_ ⟨rfl, hb3_⟩
          have HB3_ := Aside0.mk (below_step (HB2_.out) hb3_)
          have HKx03_ := Aside0.mk (blk_below (HKx02_.out) hb3_)
          obtain ⟨kx03a_, kx03b_, kx03c_, kx03d_⟩ := know HKx03_.out
          have HKx13_ := Aside0.mk (blk_below (HKx12_.out) hb3_)
          obtain ⟨kx13a_, kx13b_, kx13c_, kx13d_⟩ := know HKx13_.out
          clear kx02a_ kx02b_ kx02c_ kx02d_ kx12a_ kx12b_ kx12c_ kx12d_
          clear hb3_
          have hA2 : ∀ o o2 i, ((w3_.alloc o).alloc o2).cell? ⟨W.heap.size + 1, i, none⟩ = (#[.int .i64 x1.f0, .int .i64 x1.f1, .string x1.f2] : Array Value)[i]? := fun o o2 i => blk_cell (blk_alloc (blk_alloc HKx13_.out o) o2) i
          go_wp2_with fail
          go_at_call 17
          refine (eval_told ex0E none 0 (pairO x0 x1 5) (some ⟨w3_.heap.size + 1 + 1 + 1, 0, none⟩) 3 _ (Kd.C_nil _ _) (Nat.le_refl _) ex0_vals (C_ops (T := 50) (pairO x0 x1 5) (blk_new4 _ _ _ _ _) (show 3 ≤ 1000 by decide)) (show 3 ≤ 3 by decide) (pairO_i64 5 HV0.out HV1.out) HE1.out).mono ?_
          rintro e w4_ ⟨rfl, hb4_⟩
          have HB4_ := Aside0.mk (below_step (below_alloc (below_alloc (below_alloc (below_alloc (HB3_.out) _) _) _) _) hb4_)
          have HKx04_ := Aside0.mk (blk_below (blk_alloc (blk_alloc (blk_alloc (blk_alloc (HKx03_.out) _) _) _) _) hb4_)
          obtain ⟨kx04a_, kx04b_, kx04c_, kx04d_⟩ := know HKx04_.out
          have HKx14_ := Aside0.mk (blk_below (blk_alloc (blk_alloc (blk_alloc (blk_alloc (HKx13_.out) _) _) _) _) hb4_)
          obtain ⟨kx14a_, kx14b_, kx14c_, kx14d_⟩ := know HKx14_.out
          have HKe4_ := Aside0.mk (blk_below (blk_alloc (blk_alloc (blk_alloc (blk_new _ _) _) _) _) hb4_)
          obtain ⟨ke4a_, ke4b_, ke4c_, ke4d_⟩ := know HKe4_.out
          have HKa4_ := Aside0.mk (blk_below (blk_alloc (blk_alloc (blk_new2 _ _ _) _) _) hb4_)
          obtain ⟨ka4a_, ka4b_, ka4c_, ka4d_⟩ := know HKa4_.out
          have HKb4_ := Aside0.mk (blk_below (blk_alloc (blk_new3 _ _ _ _) _) hb4_)
          obtain ⟨kb4a_, kb4b_, kb4c_, kb4d_⟩ := know HKb4_.out
          clear kx03a_ kx03b_ kx03c_ kx03d_ kx13a_ kx13b_ kx13c_ kx13d_
          have HRo4_ := Aside0.mk (Kd.C_below (C_ops (T := 50) (pairO x0 x1 5) (blk_new4 _ _ _ _ _) (show 3 ≤ 1000 by decide)) hb4_)
          clear hb4_
          go_wp2_with fail
          go_at_call 25
          refine (holds_told ex0E none 0 (pairO x1 x0 5) (some ⟨w4_.heap.size + 1, 0, none⟩) 3 _ (Kd.C_nil _ _) (Nat.le_refl _) ex0_vals (C_ops (T := 50) (pairO x1 x0 5) (blk_new2 _ _ _) (show 3 ≤ 1000 by decide)) (show 3 ≤ 3 by decide) (pairO_i64 5 HV1.out HV0.out) HE2.out).mono ?_
          rintro e w5_ ⟨rfl, hb5_⟩
          have HB5_ := Aside0.mk (below_step (below_alloc (below_alloc (HB4_.out) _) _) hb5_)
          have HKx05_ := Aside0.mk (blk_below (blk_alloc (blk_alloc (HKx04_.out) _) _) hb5_)
          obtain ⟨kx05a_, kx05b_, kx05c_, kx05d_⟩ := know HKx05_.out
          have HKx15_ := Aside0.mk (blk_below (blk_alloc (blk_alloc (HKx14_.out) _) _) hb5_)
          obtain ⟨kx15a_, kx15b_, kx15c_, kx15d_⟩ := know HKx15_.out
          have HKe5_ := Aside0.mk (blk_below (blk_alloc (blk_alloc (HKe4_.out) _) _) hb5_)
          obtain ⟨ke5a_, ke5b_, ke5c_, ke5d_⟩ := know HKe5_.out
          have HKa5_ := Aside0.mk (blk_below (blk_alloc (blk_alloc (HKa4_.out) _) _) hb5_)
          obtain ⟨ka5a_, ka5b_, ka5c_, ka5d_⟩ := know HKa5_.out
          have HKb5_ := Aside0.mk (blk_below (blk_alloc (blk_alloc (HKb4_.out) _) _) hb5_)
          obtain ⟨kb5a_, kb5b_, kb5c_, kb5d_⟩ := know HKb5_.out
          have HKl5_ := Aside0.mk (blk_below (blk_alloc (blk_new _ _) _) hb5_)
          obtain ⟨kl5a_, kl5b_, kl5c_, kl5d_⟩ := know HKl5_.out
          clear kx04a_ kx04b_ kx04c_ kx04d_ kx14a_ kx14b_ kx14c_ kx14d_ ke4a_ ke4b_ ke4c_ ke4d_ ka4a_ ka4b_ ka4c_ ka4d_ kb4a_ kb4b_ kb4c_ kb4d_
          have HRo5_ := Aside0.mk (Kd.C_below (C_ops (T := 50) (pairO x1 x0 5) (blk_new2 _ _ _) (show 3 ≤ 1000 by decide)) hb5_)
          clear hb5_
          go_wp2_with fail
          go_at_call 17
          refine (eval_told ex0E none 0 (pairO x0 x1 6) (some ⟨w5_.heap.size, 0, none⟩) 3 _ (Kd.C_nil _ _) (Nat.le_refl _) ex0_vals (C_ops (T := 50) (pairO x0 x1 6) (blk_new _ _) (show 3 ≤ 1000 by decide)) (show 3 ≤ 3 by decide) (pairO_i64 6 HV0.out HV1.out) HE3.out).mono ?_
          rintro e w6_ ⟨rfl, hb6_⟩
          have HB6_ := Aside0.mk (below_step (below_alloc (HB5_.out) _) hb6_)
          have HKx06_ := Aside0.mk (blk_below (blk_alloc (HKx05_.out) _) hb6_)
          obtain ⟨kx06a_, kx06b_, kx06c_, kx06d_⟩ := know HKx06_.out
          have HKx16_ := Aside0.mk (blk_below (blk_alloc (HKx15_.out) _) hb6_)
          obtain ⟨kx16a_, kx16b_, kx16c_, kx16d_⟩ := know HKx16_.out
          have HKe6_ := Aside0.mk (blk_below (blk_alloc (HKe5_.out) _) hb6_)
          obtain ⟨ke6a_, ke6b_, ke6c_, ke6d_⟩ := know HKe6_.out
          have HKa6_ := Aside0.mk (blk_below (blk_alloc (HKa5_.out) _) hb6_)
          obtain ⟨ka6a_, ka6b_, ka6c_, ka6d_⟩ := know HKa6_.out
          have HKb6_ := Aside0.mk (blk_below (blk_alloc (HKb5_.out) _) hb6_)
          obtain ⟨kb6a_, kb6b_, kb6c_, kb6d_⟩ := know HKb6_.out
          have HKl6_ := Aside0.mk (blk_below (blk_alloc (HKl5_.out) _) hb6_)
          obtain ⟨kl6a_, kl6b_, kl6c_, kl6d_⟩ := know HKl6_.out
          clear kx05a_ kx05b_ kx05c_ kx05d_ kx15a_ kx15b_ kx15c_ kx15d_ ke5a_ ke5b_ ke5c_ ke5d_ ka5a_ ka5b_ ka5c_ ka5d_ kb5a_ kb5b_ kb5c_ kb5d_ kl5a_ kl5b_ kl5c_ kl5d_
          have HRo6_ := Aside0.mk (Kd.C_below (C_ops (T := 50) (pairO x0 x1 6) (blk_new _ _) (show 3 ≤ 1000 by decide)) hb6_)
          clear hb6_
          obtain ⟨s1_, s2_, s3_, s4_⟩ := know (blk_new w6_ (.cells #[.int .i64 y2.f0, .int .i64 y2.f1, .string y2.f2] 38))
          have hDx0 : ∀ m i, ((w6_.alloc (.cells #[.int .i64 y2.f0, .int .i64 y2.f1, .string y2.f2] 38)).drewN m).cell? ⟨W.heap.size, i, none⟩ = (#[.int .i64 x0.f0, .int .i64 x0.f1, .string x0.f2] : Array Value)[i]? := fun m i => blk_cell (blk_drewN (blk_alloc (HKx06_.out) _) m) i
          have hDx1 : ∀ m i, ((w6_.alloc (.cells #[.int .i64 y2.f0, .int .i64 y2.f1, .string y2.f2] 38)).drewN m).cell? ⟨W.heap.size + 1, i, none⟩ = (#[.int .i64 x1.f0, .int .i64 x1.f1, .string x1.f2] : Array Value)[i]? := fun m i => blk_cell (blk_drewN (blk_alloc (HKx16_.out) _) m) i
          have hDs : ∀ m i, ((w6_.alloc (.cells #[.int .i64 y2.f0, .int .i64 y2.f1, .string y2.f2] 38)).drewN m).cell? ⟨w6_.heap.size, i, none⟩ = (#[.int .i64 y2.f0, .int .i64 y2.f1, .string y2.f2] : Array Value)[i]? := fun m i => blk_cell (blk_drewN (blk_new _ _) m) i
          have hDl : ∀ m i, ((w6_.alloc (.cells #[.int .i64 y2.f0, .int .i64 y2.f1, .string y2.f2] 38)).drewN m).cell? ⟨w4_.heap.size, i, none⟩ = (#[.int .i64 y1.f0, .int .i64 y1.f1, .string y1.f2] : Array Value)[i]? := fun m i => blk_cell (blk_drewN (blk_alloc (HKl6_.out) _) m) i
          go_wp2_with fail
          go_quiet (fail)
          go_wp2_with fail
          go_at_call 28
          refine (less_told x0 x1 _ HO0.out HO1.out HE.out HP.out).mono ?_
          rintro e wz_ ⟨rfl, hbz_⟩
          have hbZ := below_step (pw_below_drewN (below_alloc (HB6_.out) _) _) hbz_
          have hZs : ∀ i, wz_.cell? ⟨w6_.heap.size, i, none⟩ = (#[.int .i64 y2.f0, .int .i64 y2.f1, .string y2.f2] : Array Value)[i]? := fun i => blk_cell (blk_below (blk_drewN (blk_new _ _) _) hbz_) i
          have hZl : ∀ i, wz_.cell? ⟨w4_.heap.size, i, none⟩ = (#[.int .i64 y1.f0, .int .i64 y1.f1, .string y1.f2] : Array Value)[i]? := fun i => blk_cell (blk_below (blk_drewN (blk_alloc (HKl6_.out) _) _) hbz_) i
          go_wp2_with fail
          go_ret
          exact ⟨by first | rfl | simp [*], hbZ⟩
    · have he2 : (x0.f0 == x1.f0) = false := beq_eq_false_iff_ne.2 he
      have he3 : (x0.f0 != x1.f0) = true := bne_iff_ne.2 he
      rw [if_pos he] at e1
      rw [if_pos (fun h => he h.symm)] at e2
      rw [if_pos he] at e3
      obtain ⟨y1, hy1⟩ : ∃ y, zeroV = y := ⟨_, rfl⟩
      obtain ⟨y2, hy2⟩ : ∃ y, zeroV = y := ⟨_, rfl⟩
      have HE1 := Aside0.mk (show evalV ex0E (pairO x0 x1 5) = (y1, 5) from by rw [e1, ← hy1])
      have HE2 := Aside0.mk (show holdsV ex0E (pairO x1 x0 5) = false from by rw [e2]; rfl)
      have HE3 := Aside0.mk (show evalV ex0E (pairO x0 x1 6) = (y2, 5) from by rw [e3, ← hy2])
      have heq : (y1.f0 == 0 && (y1.f1 == 0 && y1.f2.toList.isEmpty)) = true := by rw [← hy1]; decide +kernel
      clear e1 e2 e3 hy1 hy2 he hm0 hm1
      go_enter Try.func7, Try.ntmps7
      go_wp2_with fail
      go_at_call 11
      refine (awake8_told _).mono ?_
      rintro e w1_ ⟨rfl, hb1_⟩
      have HB1_ := Aside0.mk (below_step (below_alloc (below_alloc (Below.refl _ _) _) _) hb1_)
      have HKx01_ := Aside0.mk (blk_below (blk_alloc (blk_new _ _) _) hb1_)
      obtain ⟨kx01a_, kx01b_, kx01c_, kx01d_⟩ := know HKx01_.out
      have HKx11_ := Aside0.mk (blk_below (blk_new2 _ _ _) hb1_)
      obtain ⟨kx11a_, kx11b_, kx11c_, kx11d_⟩ := know HKx11_.out
      clear hb1_
      go_wp2_with fail
      go_at_call_of 27 (Value.agg #[.int .i64 x0.f0, .int .i64 x0.f1, .string x0.f2])
      refine (mayV_told x0 _ HV0.out HM0.out).mono ?_
      rintro e w2_ ⟨rfl, hb2_⟩
      have HB2_ := Aside0.mk (below_step (HB1_.out) hb2_)
      have HKx02_ := Aside0.mk (blk_below (HKx01_.out) hb2_)
      obtain ⟨kx02a_, kx02b_, kx02c_, kx02d_⟩ := know HKx02_.out
      have HKx12_ := Aside0.mk (blk_below (HKx11_.out) hb2_)
      obtain ⟨kx12a_, kx12b_, kx12c_, kx12d_⟩ := know HKx12_.out
      clear kx01a_ kx01b_ kx01c_ kx01d_ kx11a_ kx11b_ kx11c_ kx11d_
      clear hb2_
      go_wp2_with fail
      go_at_call_of 27 (Value.agg #[.int .i64 x1.f0, .int .i64 x1.f1, .string x1.f2])
      refine (mayV_told x1 _ HV1.out HM1.out).mono ?_
      rintro e w3_ ⟨rfl, hb3_⟩
      have HB3_ := Aside0.mk (below_step (HB2_.out) hb3_)
      have HKx03_ := Aside0.mk (blk_below (HKx02_.out) hb3_)
      obtain ⟨kx03a_, kx03b_, kx03c_, kx03d_⟩ := know HKx03_.out
      have HKx13_ := Aside0.mk (blk_below (HKx12_.out) hb3_)
      obtain ⟨kx13a_, kx13b_, kx13c_, kx13d_⟩ := know HKx13_.out
      clear kx02a_ kx02b_ kx02c_ kx02d_ kx12a_ kx12b_ kx12c_ kx12d_
      clear hb3_
      have hA2 : ∀ o o2 i, ((w3_.alloc o).alloc o2).cell? ⟨W.heap.size + 1, i, none⟩ = (#[.int .i64 x1.f0, .int .i64 x1.f1, .string x1.f2] : Array Value)[i]? := fun o o2 i => blk_cell (blk_alloc (blk_alloc HKx13_.out o) o2) i
      go_wp2_with fail
      go_at_call 17
      refine (eval_told ex0E none 0 (pairO x0 x1 5) (some ⟨w3_.heap.size + 1 + 1 + 1, 0, none⟩) 3 _ (Kd.C_nil _ _) (Nat.le_refl _) ex0_vals (C_ops (T := 50) (pairO x0 x1 5) (blk_new4 _ _ _ _ _) (show 3 ≤ 1000 by decide)) (show 3 ≤ 3 by decide) (pairO_i64 5 HV0.out HV1.out) HE1.out).mono ?_
      rintro e w4_ ⟨rfl, hb4_⟩
      have HB4_ := Aside0.mk (below_step (below_alloc (below_alloc (below_alloc (below_alloc (HB3_.out) _) _) _) _) hb4_)
      have HKx04_ := Aside0.mk (blk_below (blk_alloc (blk_alloc (blk_alloc (blk_alloc (HKx03_.out) _) _) _) _) hb4_)
      obtain ⟨kx04a_, kx04b_, kx04c_, kx04d_⟩ := know HKx04_.out
      have HKx14_ := Aside0.mk (blk_below (blk_alloc (blk_alloc (blk_alloc (blk_alloc (HKx13_.out) _) _) _) _) hb4_)
      obtain ⟨kx14a_, kx14b_, kx14c_, kx14d_⟩ := know HKx14_.out
      have HKe4_ := Aside0.mk (blk_below (blk_alloc (blk_alloc (blk_alloc (blk_new _ _) _) _) _) hb4_)
      obtain ⟨ke4a_, ke4b_, ke4c_, ke4d_⟩ := know HKe4_.out
      have HKa4_ := Aside0.mk (blk_below (blk_alloc (blk_alloc (blk_new2 _ _ _) _) _) hb4_)
      obtain ⟨ka4a_, ka4b_, ka4c_, ka4d_⟩ := know HKa4_.out
      have HKb4_ := Aside0.mk (blk_below (blk_alloc (blk_new3 _ _ _ _) _) hb4_)
      obtain ⟨kb4a_, kb4b_, kb4c_, kb4d_⟩ := know HKb4_.out
      clear kx03a_ kx03b_ kx03c_ kx03d_ kx13a_ kx13b_ kx13c_ kx13d_
      have HRo4_ := Aside0.mk (Kd.C_below (C_ops (T := 50) (pairO x0 x1 5) (blk_new4 _ _ _ _ _) (show 3 ≤ 1000 by decide)) hb4_)
      clear hb4_
      go_wp2_with fail
      go_at_call 25
      refine (holds_told ex0E none 0 (pairO x1 x0 5) (some ⟨w4_.heap.size + 1, 0, none⟩) 3 _ (Kd.C_nil _ _) (Nat.le_refl _) ex0_vals (C_ops (T := 50) (pairO x1 x0 5) (blk_new2 _ _ _) (show 3 ≤ 1000 by decide)) (show 3 ≤ 3 by decide) (pairO_i64 5 HV1.out HV0.out) HE2.out).mono ?_
      rintro e w5_ ⟨rfl, hb5_⟩
      have HB5_ := Aside0.mk (below_step (below_alloc (below_alloc (HB4_.out) _) _) hb5_)
      have HKx05_ := Aside0.mk (blk_below (blk_alloc (blk_alloc (HKx04_.out) _) _) hb5_)
      obtain ⟨kx05a_, kx05b_, kx05c_, kx05d_⟩ := know HKx05_.out
      have HKx15_ := Aside0.mk (blk_below (blk_alloc (blk_alloc (HKx14_.out) _) _) hb5_)
      obtain ⟨kx15a_, kx15b_, kx15c_, kx15d_⟩ := know HKx15_.out
      have HKe5_ := Aside0.mk (blk_below (blk_alloc (blk_alloc (HKe4_.out) _) _) hb5_)
      obtain ⟨ke5a_, ke5b_, ke5c_, ke5d_⟩ := know HKe5_.out
      have HKa5_ := Aside0.mk (blk_below (blk_alloc (blk_alloc (HKa4_.out) _) _) hb5_)
      obtain ⟨ka5a_, ka5b_, ka5c_, ka5d_⟩ := know HKa5_.out
      have HKb5_ := Aside0.mk (blk_below (blk_alloc (blk_alloc (HKb4_.out) _) _) hb5_)
      obtain ⟨kb5a_, kb5b_, kb5c_, kb5d_⟩ := know HKb5_.out
      have HKl5_ := Aside0.mk (blk_below (blk_alloc (blk_new _ _) _) hb5_)
      obtain ⟨kl5a_, kl5b_, kl5c_, kl5d_⟩ := know HKl5_.out
      clear kx04a_ kx04b_ kx04c_ kx04d_ kx14a_ kx14b_ kx14c_ kx14d_ ke4a_ ke4b_ ke4c_ ke4d_ ka4a_ ka4b_ ka4c_ ka4d_ kb4a_ kb4b_ kb4c_ kb4d_
      have HRo5_ := Aside0.mk (Kd.C_below (C_ops (T := 50) (pairO x1 x0 5) (blk_new2 _ _ _) (show 3 ≤ 1000 by decide)) hb5_)
      clear hb5_
      go_wp2_with fail
      go_at_call 17
      refine (eval_told ex0E none 0 (pairO x0 x1 6) (some ⟨w5_.heap.size, 0, none⟩) 3 _ (Kd.C_nil _ _) (Nat.le_refl _) ex0_vals (C_ops (T := 50) (pairO x0 x1 6) (blk_new _ _) (show 3 ≤ 1000 by decide)) (show 3 ≤ 3 by decide) (pairO_i64 6 HV0.out HV1.out) HE3.out).mono ?_
      rintro e w6_ ⟨rfl, hb6_⟩
      have HB6_ := Aside0.mk (below_step (below_alloc (HB5_.out) _) hb6_)
      have HKx06_ := Aside0.mk (blk_below (blk_alloc (HKx05_.out) _) hb6_)
      obtain ⟨kx06a_, kx06b_, kx06c_, kx06d_⟩ := know HKx06_.out
      have HKx16_ := Aside0.mk (blk_below (blk_alloc (HKx15_.out) _) hb6_)
      obtain ⟨kx16a_, kx16b_, kx16c_, kx16d_⟩ := know HKx16_.out
      have HKe6_ := Aside0.mk (blk_below (blk_alloc (HKe5_.out) _) hb6_)
      obtain ⟨ke6a_, ke6b_, ke6c_, ke6d_⟩ := know HKe6_.out
      have HKa6_ := Aside0.mk (blk_below (blk_alloc (HKa5_.out) _) hb6_)
      obtain ⟨ka6a_, ka6b_, ka6c_, ka6d_⟩ := know HKa6_.out
      have HKb6_ := Aside0.mk (blk_below (blk_alloc (HKb5_.out) _) hb6_)
      obtain ⟨kb6a_, kb6b_, kb6c_, kb6d_⟩ := know HKb6_.out
      have HKl6_ := Aside0.mk (blk_below (blk_alloc (HKl5_.out) _) hb6_)
      obtain ⟨kl6a_, kl6b_, kl6c_, kl6d_⟩ := know HKl6_.out
      clear kx05a_ kx05b_ kx05c_ kx05d_ kx15a_ kx15b_ kx15c_ kx15d_ ke5a_ ke5b_ ke5c_ ke5d_ ka5a_ ka5b_ ka5c_ ka5d_ kb5a_ kb5b_ kb5c_ kb5d_ kl5a_ kl5b_ kl5c_ kl5d_
      have HRo6_ := Aside0.mk (Kd.C_below (C_ops (T := 50) (pairO x0 x1 6) (blk_new _ _) (show 3 ≤ 1000 by decide)) hb6_)
      clear hb6_
      obtain ⟨s1_, s2_, s3_, s4_⟩ := know (blk_new w6_ (.cells #[.int .i64 y2.f0, .int .i64 y2.f1, .string y2.f2] 38))
      go_wp2_with fail
      go_ret
      exact ⟨by first | rfl | simp [*], below_alloc (HB6_.out) _⟩
  · cases m0
    · clear hgo hm0 hm1
      go_enter Try.func7, Try.ntmps7
      go_wp2_with fail
      go_at_call 11
      refine (awake8_told _).mono ?_
      rintro e w1_ ⟨rfl, hb1_⟩
      have HB1_ := Aside0.mk (below_step (below_alloc (below_alloc (Below.refl _ _) _) _) hb1_)
      have HKx01_ := Aside0.mk (blk_below (blk_alloc (blk_new _ _) _) hb1_)
      obtain ⟨kx01a_, kx01b_, kx01c_, kx01d_⟩ := know HKx01_.out
      have HKx11_ := Aside0.mk (blk_below (blk_new2 _ _ _) hb1_)
      obtain ⟨kx11a_, kx11b_, kx11c_, kx11d_⟩ := know HKx11_.out
      clear hb1_
      go_wp2_with fail
      go_at_call_of 27 (Value.agg #[.int .i64 x0.f0, .int .i64 x0.f1, .string x0.f2])
      refine (mayV_told x0 _ HV0.out HM0.out).mono ?_
      rintro e w2_ ⟨rfl, hb2_⟩
      have HB2_ := Aside0.mk (below_step (HB1_.out) hb2_)
      have HKx02_ := Aside0.mk (blk_below (HKx01_.out) hb2_)
      obtain ⟨kx02a_, kx02b_, kx02c_, kx02d_⟩ := know HKx02_.out
      have HKx12_ := Aside0.mk (blk_below (HKx11_.out) hb2_)
      obtain ⟨kx12a_, kx12b_, kx12c_, kx12d_⟩ := know HKx12_.out
      clear kx01a_ kx01b_ kx01c_ kx01d_ kx11a_ kx11b_ kx11c_ kx11d_
      clear hb2_
      go_wp2_with fail
      go_ret
      exact ⟨rfl, HB2_.out⟩
    · cases m1
      rotate_left 1
      · exact absurd ⟨rfl, rfl⟩ hgo
      clear hgo hm0 hm1
      go_enter Try.func7, Try.ntmps7
      go_wp2_with fail
      go_at_call 11
      refine (awake8_told _).mono ?_
      rintro e w1_ ⟨rfl, hb1_⟩
      have HB1_ := Aside0.mk (below_step (below_alloc (below_alloc (Below.refl _ _) _) _) hb1_)
      have HKx01_ := Aside0.mk (blk_below (blk_alloc (blk_new _ _) _) hb1_)
      obtain ⟨kx01a_, kx01b_, kx01c_, kx01d_⟩ := know HKx01_.out
      have HKx11_ := Aside0.mk (blk_below (blk_new2 _ _ _) hb1_)
      obtain ⟨kx11a_, kx11b_, kx11c_, kx11d_⟩ := know HKx11_.out
      clear hb1_
      go_wp2_with fail
      go_at_call_of 27 (Value.agg #[.int .i64 x0.f0, .int .i64 x0.f1, .string x0.f2])
      refine (mayV_told x0 _ HV0.out HM0.out).mono ?_
      rintro e w2_ ⟨rfl, hb2_⟩
      have HB2_ := Aside0.mk (below_step (HB1_.out) hb2_)
      have HKx02_ := Aside0.mk (blk_below (HKx01_.out) hb2_)
      obtain ⟨kx02a_, kx02b_, kx02c_, kx02d_⟩ := know HKx02_.out
      have HKx12_ := Aside0.mk (blk_below (HKx11_.out) hb2_)
      obtain ⟨kx12a_, kx12b_, kx12c_, kx12d_⟩ := know HKx12_.out
      clear kx01a_ kx01b_ kx01c_ kx01d_ kx11a_ kx11b_ kx11c_ kx11d_
      clear hb2_
      go_wp2_with fail
      go_at_call_of 27 (Value.agg #[.int .i64 x1.f0, .int .i64 x1.f1, .string x1.f2])
      refine (mayV_told x1 _ HV1.out HM1.out).mono ?_
      rintro e w3_ ⟨rfl, hb3_⟩
      have HB3_ := Aside0.mk (below_step (HB2_.out) hb3_)
      have HKx03_ := Aside0.mk (blk_below (HKx02_.out) hb3_)
      obtain ⟨kx03a_, kx03b_, kx03c_, kx03d_⟩ := know HKx03_.out
      have HKx13_ := Aside0.mk (blk_below (HKx12_.out) hb3_)
      obtain ⟨kx13a_, kx13b_, kx13c_, kx13d_⟩ := know HKx13_.out
      clear kx02a_ kx02b_ kx02c_ kx02d_ kx12a_ kx12b_ kx12c_ kx12d_
      clear hb3_
      go_wp2_with fail
      go_ret
      exact ⟨rfl, HB3_.out⟩
end Go.Proofs.Ytncllbokeofdjaa.P
