/- The functions that the laws of this seat reach, as plain Lean functions, and for each the contract of its call: no condition but those that each theorem names. -/
import Derived.Test.YtbgdamlidohfhaaP0
import Derived.Test.YtbgdamlidohfhaaP2
import Derived.Test.YtbgdamlidohfhaaP4
namespace Go.Proofs.Ytbgdamlidohfhaa.P
open Go.RowKit Go.Proofs.YtbgdamlidohfhaaW.PrintWords Go.Proofs.YtbgdamlidohfhaaW.PrintLast Go.Proofs.YtbgdamlidohfhaaW.PrintMore
attribute [local go_sem] max2_int min2_int max_two min_two max_three min_three max_four min_four   -- for this text's walks alone
set_option linter.unusedVariables false
set_option linter.unusedSimpArgs false

/-! ### schema_May: function 28 -/
theorem may1_told (nm : ByteArray) (B : Nat) (w : World) (hB : B < w.heap.size) (hc : w.cell? ⟨B, 0, none⟩ = some (.string nm)) :
    Tells Try.prog kField 45 #[.pointer (some ⟨B, 0, none⟩)] (fun x : SField => x.f0.toList == nm.toList) w := by
  intro x cs W hW hK
  obtain rfl := kField_open hK
  have hc2 : W.cell? ⟨B, 0, none⟩ = some (.string nm) := (hW.cell (p := ⟨B, 0, none⟩) hB).trans hc
  have hB2 : B < W.heap.size := Nat.lt_of_lt_of_le hB hW.size
  clear hc hW hK hB
  show Calls _ _ #[.agg #[.string x.f0, .int .i64 x.f1], .pointer (some ⟨B, 0, none⟩)] W (boolPost (x.f0.toList == nm.toList) W)
  go_enter Try.func45, Try.ntmps45
  go_wp2
  go_ret
  exact ⟨rfl, (Below.refl _ _).alloc (Nat.le_refl _) _⟩
theorem name_told {s : ByteArray} {b : Bool} (h : nameB s = b) (W : World) : Calls Try.prog 30 #[.string s] W (boolPost b W) := schema_Name.calls s b W (by rw [← h]; rfl)
/-- Is field i as it must be? -/
def fieldOK (F : List SField) (i : Nat) : Bool := !((F.take i).any (fun x => x.f0.toList == (F.getD i zField).f0.toList)) && (nameB (F.getD i zField).f0 && (decide (0 ≤ (F.getD i zField).f1) && decide ((F.getD i zField).f1 < 4)))
def mayB (nm : ByteArray) (ver : Int) (F : List SField) : Bool := nameB nm && (decide (1 ≤ ver) && (decide (ver ≤ 1000) && (decide (F.length ≤ 6) && (List.range F.length).all (fieldOK F))))
def schema_May.f (a0_0 : ByteArray) (a0_1 : Int) (l0_2 : List SField) : Option Bool := some (mayB a0_0 a0_1 l0_2)
theorem may_twice (nm : ByteArray) (B k : Nat) (ad : Addr) (c : Nat) (l : List SField) (W : World) (hB : B < W.heap.size) (hc : W.cell? ⟨B, 0, none⟩ = some (.string nm)) (hr : Kd.C kField W (some ad) l.length l) (hk : k ≤ l.length) (hlc : l.length ≤ c) :
    Calls Try.prog 44 #[.slice (some ad) k c, .func (.func 45) #[] #[.pointer (some ⟨B, 0, none⟩)]] W (boolPost ((l.take k).any fun x : SField => x.f0.toList == nm.toList) W) := by
  have h := slices_ContainsFunc_api_Field.told 45 #[.pointer (some ⟨B, 0, none⟩)] (fun x : SField => x.f0.toList == nm.toList) (some ad) c (l.take k) W (enters_of Try.func45 (by kernel_rfl) rfl) (may1_told nm B W hB hc) (Kd.C_take hr hk) (by rw [List.length_take]; omega)
  rwa [List.length_take, Nat.min_eq_left hk] at h
theorem may_hit {nm : ByteArray} {ver : Int} {F : List SField} (k : Nat) (hk : k < F.length) (h : fieldOK F k = false) : mayB nm ver F = false := by
  unfold mayB
  rw [range_all_hit _ _ k hk h]
  simp
theorem may_all {nm : ByteArray} {ver : Int} {F : List SField} (h : ∀ i, i < F.length → fieldOK F i = true) : mayB nm ver F = (nameB nm && (decide (1 ≤ ver) && (decide (ver ≤ 1000) && decide (F.length ≤ 6)))) := by
  unfold mayB
  rw [range_all_none _ _ h, Bool.and_true]
def mayRel (nm : ByteArray) (ver : Int) (A : Option Addr) (c : Nat) (F : List SField) (w : World) (k : Nat) (w' : World) : Prop :=
  k ≤ F.length ∧ (∀ i, i < k → fieldOK F i = true) ∧ Below w.heap.size w w' ∧ w'.heap[w.heap.size]? = some (.cells #[.string nm, .int .i64 ver, .slice A F.length c] 25 (0, 0))
set_option maxHeartbeats 2000000 in
set_option maxRecDepth 20000 in
theorem schema_May.calls (a0_0 : ByteArray) (a0_1 : Int) (A0_2 : Option Addr) (c0_2 : Nat) (l0_2 : List SField) (r : Bool) (w : World) (hr0_2 : Kd.C kField w A0_2 l0_2.length l0_2) (hc0_2 : l0_2.length ≤ c0_2) (h : schema_May.f a0_0 a0_1 l0_2 = some r) :
    Calls Try.prog 28 #[.agg #[.string a0_0, .int .i64 a0_1, .slice A0_2 l0_2.length c0_2]] w fun e w' => e = .returned (.bool r) ∧ Below w.heap.size w w' := by
  obtain rfl := Option.some.inj h
  clear h
  have hm := hr0_2.2.1
  show Calls _ _ _ _ (boolPost (mayB a0_0 a0_1 l0_2) w)
  have HR := Aside0.mk hr0_2
  have HC := Aside0.mk hc0_2
  clear hr0_2 hc0_2
  obtain ⟨q, hq⟩ : ∃ q, mayB a0_0 a0_1 l0_2 = q := ⟨_, rfl⟩
  have HQ := Aside0.mk hq
  rw [hq]
  unfold mayB at hq
  cases hn : nameB a0_0 with
  | false =>
    rw [hn, Bool.false_and] at hq
    have HN := Aside0.mk hn
    subst hq
    clear hn
    go_enter Try.func28, Try.ntmps28
    go_wp2_with (go_at_call 30; refine (name_told HN.out _).mono ?_; rintro e w1 ⟨rfl, hb1⟩)
    go_ret
    exact ⟨rfl, below_step ((Below.refl _ _).alloc (Nat.le_refl _) _) hb1⟩
  | true =>
    rw [hn, Bool.true_and] at hq
    have HN := Aside0.mk hn
    have HQ2 := Aside0.mk hq
    clear hn hq
    go_enter Try.func28, Try.ntmps28
    go_wp2_with (go_at_call 30; refine (name_told HN.out _).mono ?_; rintro e w1 ⟨rfl, hb1⟩; have hk1 := blk_below (blk_new _ _) hb1; have hS1 : w.heap.size < w1.heap.size := by { have h_ := hb1.size; rw [World.size_alloc] at h_; omega }; have hd1 : w1.cell? ⟨w.heap.size, 1, none⟩ = some (.int .i64 a0_1) := (blk_cell hk1 1).trans rfl; have hd2 : w1.cell? ⟨w.heap.size, 2, none⟩ = some (.slice A0_2 l0_2.length c0_2) := (blk_cell hk1 2).trans rfl; have HK1 := Aside0.mk hk1; clear hk1)
    any_goals (go_ret; exact ⟨by rw [show q = false from by rw [← HQ2.out]; simp only [Bool.and_eq_false_iff, decide_eq_false_iff_not]; omega]; rfl, below_step ((Below.refl _ _).alloc (Nat.le_refl _) _) hb1⟩)
    go_loopw [3, 4, 5, 29] (fun _ _ _ v29 w' => ∃ k : Nat, v29 = .int .i64 k ∧ mayRel a0_0 a0_1 A0_2 c0_2 l0_2 w k w') (fun _ _ _ i _ => l0_2.length - (intOf i).toNat)
    case atStart => exact ⟨0, rfl, Nat.zero_le _, fun i hi => by omega, below_step ((Below.refl _ _).alloc (Nat.le_refl _) _) hb1, HK1.out⟩
    case round =>
      obtain ⟨k, rfl, HK⟩ := hrel
      obtain ⟨hkl, hall, hb, hblk⟩ := HK
      have HALL := Aside0.mk hall
      have HB := Aside0.mk hb
      have HBLK := Aside0.mk hblk
      clear hall hb hblk
      by_cases hlt : k < l0_2.length
      · obtain ⟨ad, e, hx0, hx1⟩ := at_TField (Kd.C_below HR.out HB.out) (k : Int) (by omega) (by omega)
        cases e
        simp only [Int.toNat_natCast] at hx0 hx1
        rw [show rd_TField l0_2 (k : Int) = l0_2.getD k zField from rfl] at hx0 hx1
        have HF : Aside0 (fieldOK l0_2 k = (!((l0_2.take k).any (fun x => x.f0.toList == (l0_2.getD k zField).f0.toList)) && (nameB (l0_2.getD k zField).f0 && (decide (0 ≤ (l0_2.getD k zField).f1) && decide ((l0_2.getD k zField).f1 < 4))))) := ⟨rfl⟩
        generalize l0_2.getD k zField = x at *
        have hsz : w.heap.size < wr.heap.size := blk_lt HBLK.out
        have hlc := HC.out
        have hc2 : wr.cell? ⟨w.heap.size, 2, none⟩ = some (.slice (some ad) l0_2.length c0_2) := (blk_cell HBLK.out 2).trans rfl
        cases ht : (l0_2.take k).any (fun y => y.f0.toList == x.f0.toList) with
        | true =>
          have HT := Aside0.mk ht
          clear ht
          go_wp2_with (go_at_call 44; refine (may_twice x.f0 wr.heap.size k ad c0_2 l0_2 _ (by simp) ((blk_cell (blk_new _ _) 0).trans rfl) (Kd.C_alloc (Kd.C_below HR.out HB.out) _) (by omega) HC.out).mono ?_; rintro e w2 ⟨rfl, hb2⟩; rw [HT.out])
          go_ret
          exact ⟨by rw [← HQ.out, may_hit k hlt (by rw [HF.out, HT.out]; rfl)]; rfl, below_step (below_alloc HB.out _) hb2⟩
        | false =>
          have HT := Aside0.mk ht
          clear ht
          cases hn2 : nameB x.f0 with
          | false =>
            have HN2 := Aside0.mk hn2
            clear hn2
            go_wp2_with (first | (go_at_call 44; refine (may_twice x.f0 wr.heap.size k ad c0_2 l0_2 _ (by simp) ((blk_cell (blk_new _ _) 0).trans rfl) (Kd.C_alloc (Kd.C_below HR.out HB.out) _) (by omega) HC.out).mono ?_; rintro e w2 ⟨rfl, hb2⟩; rw [HT.out]; have hk2 := blk_below (blk_new _ _) hb2; have hS2 : wr.heap.size < w2.heap.size := blk_lt hk2; have hd0 : w2.cell? ⟨wr.heap.size, 0, none⟩ = some (.string x.f0) := (blk_cell hk2 0).trans rfl; have hd1 : w2.cell? ⟨wr.heap.size, 1, none⟩ = some (.int .i64 x.f1) := (blk_cell hk2 1).trans rfl; have HK2 := Aside0.mk hk2; clear hk2) | (go_at_call 30; refine (name_told HN2.out _).mono ?_; rintro e w3 ⟨rfl, hb3⟩))
            go_ret
            exact ⟨by rw [← HQ.out, may_hit k hlt (by rw [HF.out, HT.out, HN2.out]; rfl)]; rfl, below_step (below_step (below_alloc HB.out _) hb2) hb3⟩
          | true =>
            have HN2 := Aside0.mk hn2
            clear hn2
            by_cases hkd : 0 ≤ x.f1 ∧ x.f1 < 4
            · obtain ⟨hkd1, hkd2⟩ := hkd
              have HOK : Aside0 (fieldOK l0_2 k = true) := ⟨by rw [HF.out, HT.out, HN2.out, decide_eq_true hkd1, decide_eq_true hkd2]; rfl⟩
              go_wp2_with (first | (go_at_call 44; refine (may_twice x.f0 wr.heap.size k ad c0_2 l0_2 _ (by simp) ((blk_cell (blk_new _ _) 0).trans rfl) (Kd.C_alloc (Kd.C_below HR.out HB.out) _) (by omega) HC.out).mono ?_; rintro e w2 ⟨rfl, hb2⟩; rw [HT.out]; have hk2 := blk_below (blk_new _ _) hb2; have hS2 : wr.heap.size < w2.heap.size := blk_lt hk2; have hd0 : w2.cell? ⟨wr.heap.size, 0, none⟩ = some (.string x.f0) := (blk_cell hk2 0).trans rfl; have hd1 : w2.cell? ⟨wr.heap.size, 1, none⟩ = some (.int .i64 x.f1) := (blk_cell hk2 1).trans rfl; have HK2 := Aside0.mk hk2; clear hk2) | (go_at_call 30; refine (name_told HN2.out _).mono ?_; rintro e w3 ⟨rfl, hb3⟩; have hk3 := blk_below HK2.out hb3; have hS3 : wr.heap.size < w3.heap.size := blk_lt hk3; have he1 : w3.cell? ⟨wr.heap.size, 1, none⟩ = some (.int .i64 x.f1) := (blk_cell hk3 1).trans rfl; clear hk3))
              have hb5 := below_step (below_step (below_alloc HB.out _) hb2) hb3
              have hm5 : w3.heap[w.heap.size]? = some (.cells #[.string a0_0, .int .i64 a0_1, .slice (some ad) l0_2.length c0_2] 25 (0, 0)) := blk_below (blk_below (blk_alloc HBLK.out _) hb2) hb3
              go_roundw
              case rel => exact ⟨k + 1, by go_num, by omega, all_next HALL.out HOK.out, hb5, hm5⟩
              case measure => simp [intOf]; omega
            · have HOK : Aside0 (fieldOK l0_2 k = false) := ⟨by rw [HF.out, HT.out, HN2.out]; simp only [Bool.not_false, Bool.true_and, Bool.and_eq_false_iff, decide_eq_false_iff_not]; omega⟩
              go_wp2_with (first | (go_at_call 44; refine (may_twice x.f0 wr.heap.size k ad c0_2 l0_2 _ (by simp) ((blk_cell (blk_new _ _) 0).trans rfl) (Kd.C_alloc (Kd.C_below HR.out HB.out) _) (by omega) HC.out).mono ?_; rintro e w2 ⟨rfl, hb2⟩; rw [HT.out]; have hk2 := blk_below (blk_new _ _) hb2; have hS2 : wr.heap.size < w2.heap.size := blk_lt hk2; have hd0 : w2.cell? ⟨wr.heap.size, 0, none⟩ = some (.string x.f0) := (blk_cell hk2 0).trans rfl; have hd1 : w2.cell? ⟨wr.heap.size, 1, none⟩ = some (.int .i64 x.f1) := (blk_cell hk2 1).trans rfl; have HK2 := Aside0.mk hk2; clear hk2) | (go_at_call 30; refine (name_told HN2.out _).mono ?_; rintro e w3 ⟨rfl, hb3⟩; have hk3 := blk_below HK2.out hb3; have hS3 : wr.heap.size < w3.heap.size := blk_lt hk3; have he1 : w3.cell? ⟨wr.heap.size, 1, none⟩ = some (.int .i64 x.f1) := (blk_cell hk3 1).trans rfl; clear hk3))
              all_goals first
                | (exfalso; omega)
                | (go_ret; exact ⟨by rw [← HQ.out, may_hit k hlt HOK.out]; rfl, below_step (below_step (below_alloc HB.out _) hb2) hb3⟩)
      · have hq2 := may_all (nm := a0_0) (ver := a0_1) (fun i hi => HALL.out i (by omega))
        have hq3 : q = true := by
          rw [← HQ.out, hq2, HN.out]
          simp only [Bool.true_and, Bool.and_eq_true, decide_eq_true_eq]
          omega
        clear hq2
        subst hq3
        go_wp2
        go_ret
        exact ⟨rfl, HB.out⟩

end Go.Proofs.Ytbgdamlidohfhaa.P
