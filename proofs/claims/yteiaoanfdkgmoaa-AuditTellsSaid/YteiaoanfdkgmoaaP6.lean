/- The functions that the laws of this seat reach, as plain Lean functions, and for each the contract of its call: no condition but those that each theorem names. -/
import Derived.Test.YteiaoanfdkgmoaaP0
namespace Go.Proofs.Yteiaoanfdkgmoaa.P
open Go.RowKit Go.Proofs.YteiaoanfdkgmoaaW.PrintWords Go.Proofs.YteiaoanfdkgmoaaW.PrintLast Go.Proofs.YteiaoanfdkgmoaaW.PrintMore
attribute [local go_sem] max2_int min2_int max_two min_two max_three min_three max_four min_four   -- for this text's walks alone
set_option linter.unusedVariables false
set_option linter.unusedSimpArgs false

/-! ### audit_look_all: function 28 -/
theorem notes1_told (x : SRes) (B : Nat) (sub : Int) (w : World) (hB : B < w.heap.size) (hc : w.cell? ⟨B, 0, none⟩ = some (.int .i64 sub)) :
    Calls Try.prog 27 #[.agg #[.bool x.f0, .int .i64 x.f1, .int .i64 x.f2, .int .u64 x.f3, .int .i64 x.f4.f0, .int .i64 x.f4.f1, .int .i64 x.f4.f2, .int .i64 x.f4.f3.f0, .int .i64 x.f4.f3.f1, .int .i64 x.f4.f3.f2, .bool x.f4.f3.f3], .pointer (some ⟨B, 0, none⟩)] w (boolPost (x.f0 && x.f4.f0 == sub) w) := by
  cases h : x.f0 with
  | true =>
    go_enter Try.func27, Try.ntmps27
    go_wp2
    go_ret
    exact ⟨by simp, (Below.refl _ _).alloc (Nat.le_refl _) _⟩
  | false =>
    go_enter Try.func27, Try.ntmps27
    go_wp2
    go_ret
    exact ⟨by simp, (Below.refl _ _).alloc (Nat.le_refl _) _⟩

/-- The notes of a subscription. -/
def notesOf (l : List SRes) (sub : Int) : List SNote := (l.filter fun x => x.f0 && x.f4.f0 == sub).map (·.f4)
theorem notesOf_snoc (l : List SRes) (x : SRes) (sub : Int) : notesOf (l ++ [x]) sub = notesOf l sub ++ (if (x.f0 && x.f4.f0 == sub) = true then [x.f4] else []) := by
  unfold notesOf
  rw [List.filter_append, List.map_append]
  cases h : (x.f0 && x.f4.f0 == sub) <;> simp [h, List.filter_cons]
theorem notesOf_len (l : List SRes) (sub : Int) : (notesOf l sub).length ≤ l.length := by
  unfold notesOf
  rw [List.length_map]
  exact List.length_filter_le _ _
def allPost (l0 : List SRes) (sub : Int) (w : World) (e : Ending) (w' : World) : Prop := ∃ v0_ : Value, e = .returned v0_ ∧ Kd.R kNote 27 w' w.heap.size (fun _ => True) v0_ (notesOf l0 sub) ∧ Below w.heap.size w w'
def allRel (l0 : List SRes) (sub : Int) (B : Nat) (w : World) (k : Nat) (v5 : Value) (w' : World) : Prop :=
  k ≤ l0.length ∧ Kd.R kNote 27 w' w.heap.size (fun k_ => k_ ≠ w.heap.size) v5 (notesOf (l0.take k) sub) ∧ Below w.heap.size w w' ∧ w'.heap[w.heap.size]? = some (.cells #[.func (.func 27) #[] #[.pointer (some ⟨B, 0, none⟩)]] 67 (0, 0))

set_option maxHeartbeats 1000000 in
theorem all_told (B : Nat) (sub : Int) (A0 : Option Addr) (c0 : Nat) (l0 : List SRes) (w : World) (hB : B < w.heap.size) (hc : w.cell? ⟨B, 0, none⟩ = some (.int .i64 sub)) (hr0 : Kd.C kRes w A0 l0.length l0) (hc0 : l0.length ≤ c0) (hm : l0.length < 2513169434916) :
    Calls Try.prog 28 #[.agg #[.func (.func 27) #[] #[.pointer (some ⟨B, 0, none⟩)]], .slice A0 l0.length c0] w (allPost l0 sub w) := by
  have HR0 := Aside0.mk hr0
  have HC0 := Aside0.mk hc0
  have HC := Aside0.mk hc
  clear hr0 hc0 hc
  go_enter Try.func28, Try.ntmps28
  go_wp2
  go_loopw [5, 7, 10] (fun v5 v7 v10 w' => ∃ k : Nat, v10 = .int .i64 k ∧ allRel l0 sub B w k v5 w') (fun _ _ i _ => l0.length - (intOf i).toNat)
  case atStart => exact ⟨0, rfl, Nat.zero_le _, Kd.R_nil _ _ _ _ _, (Below.refl _ _).alloc (Nat.le_refl _) _, blk_new _ _⟩
  case round =>
    obtain ⟨k, rfl, HK⟩ := hrel
    have HK := Aside0.mk HK
    obtain ⟨_, ho, hb, hblk⟩ := HK.out
    have HO := Aside0.mk ho
    have HB := Aside0.mk hb
    have HBLK := Aside0.mk hblk
    clear ho hb hblk
    by_cases hlt : k < l0.length
    · obtain ⟨ad, e, hx0, hx1, hx2, hx3, hx4, hx5, hx6, hx7, hx8, hx9, hx10⟩ := at_TRes (Kd.C_below HR0.out HB.out) (k : Int) (by omega) (by omega)
      cases e
      simp only [Int.toNat_natCast] at hx0 hx1 hx2 hx3 hx4 hx5 hx6 hx7 hx8 hx9 hx10
      have hbox : wr.cell? ⟨w.heap.size, 0, none⟩ = some (.func (.func 27) #[] #[.pointer (some ⟨B, 0, none⟩)]) := (blk_cell HBLK.out 0).trans rfl
      have hsz : w.heap.size < wr.heap.size := blk_lt HBLK.out
      have hcB : wr.cell? ⟨B, 0, none⟩ = some (.int .i64 sub) := (HB.out.cell (p := ⟨B, 0, none⟩) hB).trans HC.out
      have hBr : B < wr.heap.size := by omega
      have hsn := notesOf_snoc (l0.take k) (l0.getD k zRes) sub
      rw [← take_snoc zRes l0 k hlt] at hsn
      have HSN := Aside0.mk hsn
      have hln := notesOf_len (l0.take k) sub
      have hlt2 : (l0.take k).length ≤ k := List.length_take_le _ _
      clear hsn
      have hx : rd_TRes l0 (k : Int) = l0.getD k zRes := rfl
      rw [hx] at hx0 hx1 hx2 hx3 hx4 hx5 hx6 hx7 hx8 hx9 hx10
      clear hx
      generalize l0.getD k zRes = x at *
      cases hp : (x.f0 && x.f4.f0 == sub) with
      | true =>
        have HP := Aside0.mk hp; clear hp
        go_wp2_with (first | ((go_at_call 27; refine (notes1_told x B sub _ (Nat.lt_of_lt_of_le hBr (by simp)) (cell_past _ hcB)).mono ?_; rintro e w1 ⟨rfl, hb1⟩; rw [HP.out]; have hk1 := blk_below (blk_new _ _) hb1; have hS1 : w.heap.size < w1.heap.size := by { have h_ := hb1.size; rw [World.size_alloc] at h_; omega }; have hd4 : w1.cell? ⟨wr.heap.size, 4, none⟩ = some (.int .i64 x.f4.f0) := (blk_cell hk1 4).trans rfl; have hd5 : w1.cell? ⟨wr.heap.size, 5, none⟩ = some (.int .i64 x.f4.f1) := (blk_cell hk1 5).trans rfl; have hd6 : w1.cell? ⟨wr.heap.size, 6, none⟩ = some (.int .i64 x.f4.f2) := (blk_cell hk1 6).trans rfl; have hd7 : w1.cell? ⟨wr.heap.size, 7, none⟩ = some (.int .i64 x.f4.f3.f0) := (blk_cell hk1 7).trans rfl; have hd8 : w1.cell? ⟨wr.heap.size, 8, none⟩ = some (.int .i64 x.f4.f3.f1) := (blk_cell hk1 8).trans rfl; have hd9 : w1.cell? ⟨wr.heap.size, 9, none⟩ = some (.int .i64 x.f4.f3.f2) := (blk_cell hk1 9).trans rfl; have hd10 : w1.cell? ⟨wr.heap.size, 10, none⟩ = some (.bool x.f4.f3.f3) := (blk_cell hk1 10).trans rfl; clear hk1)) | ((with_reducible refine gate_builtin (b := .append) (xs := #[.tmp 18, .tmp 21]) rfl ?_); at_builtin; refine Kd.R_append kNote (w0 := w) w.heap.size rfl (.tmp 18) (.tmp 21) 22 27 (.agg #[(.int .i64 0), (.int .i64 0), (.int .i64 0), (.int .i64 0), (.int .i64 0), (.int .i64 0), (.bool false)]) 56 rfl Try.underlying22 infoNote rfl (by decide) (by omega) u5 (notesOf (l0.take k) sub) x.f4 [.int .i64 x.f4.f0, .int .i64 x.f4.f1, .int .i64 x.f4.f2, .int .i64 x.f4.f3.f0, .int .i64 x.f4.f3.f1, .int .i64 x.f4.f3.f2, .bool x.f4.f3.f3] (fun k_ => k_ ≠ w.heap.size) (fun _ => False) rfl rfl ?aP (fun _ hk => hk.elim) ?aF ?aO ?aB ?aS ?aL ?_; (case aP => exact kNote_mkM _ _ _ x.f4); (case aF => exact fun k_ hk => by omega); (case aO => exact Kd.R_below (Kd.R_alloc HO.out _) hb1); (case aB => exact below_step (below_alloc HB.out _) hb1); (case aS => omega); (case aL => omega); intro v1 w2 ho hb hg hat))
        go_roundw
        case rel => exact ⟨k + 1, by go_num, by omega, by rw [HSN.out, HP.out]; exact ho, hb, blk_grown (blk_below (blk_alloc HBLK.out _) hb1) hg (Kd.R_away HO.out (fun _ h => h))⟩
        case measure => simp [intOf]; omega
      | false =>
        have HP := Aside0.mk hp; clear hp
        go_wp2_with ((go_at_call 27; refine (notes1_told x B sub _ (Nat.lt_of_lt_of_le hBr (by simp)) (cell_past _ hcB)).mono ?_; rintro e w1 ⟨rfl, hb1⟩; rw [HP.out]))
        have hb2 := below_step (below_alloc HB.out _) hb1
        go_roundw
        case rel => exact ⟨k + 1, by go_num, by omega, Kd.R_below (Kd.R_alloc (by rw [HSN.out, HP.out]; simpa using HO.out) _) hb1, hb2, blk_below (blk_alloc HBLK.out _) hb1⟩
        case measure => simp [intOf]; omega
    · go_wp2
      go_ret
      exact ⟨_, rfl, Kd.R_mono (by have h := HO.out; rw [List.take_of_length_le (by omega)] at h; exact h) (fun _ _ => trivial), HB.out⟩

end Go.Proofs.Yteiaoanfdkgmoaa.P
