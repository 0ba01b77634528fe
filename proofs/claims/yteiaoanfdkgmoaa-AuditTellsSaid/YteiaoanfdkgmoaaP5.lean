/- The functions that the laws of this seat reach, as plain Lean functions, and for each the contract of its call: no condition but those that each theorem names. -/
import Derived.Test.YteiaoanfdkgmoaaP0
import Derived.Test.YteiaoanfdkgmoaaP4
namespace Go.Proofs.Yteiaoanfdkgmoaa.P
open Go.RowKit Go.Proofs.YteiaoanfdkgmoaaW.PrintWords Go.Proofs.YteiaoanfdkgmoaaW.PrintLast Go.Proofs.YteiaoanfdkgmoaaW.PrintMore
attribute [local go_sem] max2_int min2_int max_two min_two max_three min_three max_four min_four   -- for this text's walks alone
set_option linter.unusedVariables false
set_option linter.unusedSimpArgs false

/-! ### audit_Line: function 11 -/
/-- Is note number i as it must be, where n is the first one that tells an end? -/
def lineStep (l : List SNote) (from_ n : Int) (i : Nat) : Bool :=
  !((decide (n ≤ (i : Int)) != ((l.getD i zNote).f2 != 0)) || (!(decide (n ≤ (i : Int))) && ((l.getD i zNote).f1 != wrap64 (wrap64 (from_ + (i : Int)) + 1))))
def lineN (l : List SNote) : Int := if idx (fun x : SNote => x.f2 != 0) l < 0 then (l.length : Int) else idx (fun x : SNote => x.f2 != 0) l
def lineOf (l : List SNote) (from_ : Int) : Bool := (List.range l.length).all (lineStep l from_ (lineN l))
def audit_Line.f (l0 : List SNote) (a1 : Int) : Option Bool := some (lineOf l0 a1)
theorem range_all_hit (p : Nat → Bool) (n k : Nat) (hk : k < n) (hp : p k = false) : (List.range n).all p = false := by
  rw [List.all_eq_false]
  exact ⟨k, List.mem_range.2 hk, by rw [hp]; simp⟩
theorem range_all_none (p : Nat → Bool) (n : Nat) (h : ∀ i, i < n → p i = true) : (List.range n).all p = true :=
  List.all_eq_true.2 fun i hi => h i (List.mem_range.1 hi)
theorem line1_told (w : World) : Tells Try.prog kNote 26 #[] (fun x : SNote => x.f2 != 0) w := by
  intro x cs W _ hK
  obtain rfl := kNote_open hK
  show Calls _ _ #[.agg #[.int .i64 x.f0, .int .i64 x.f1, .int .i64 x.f2, .int .i64 x.f3.f0, .int .i64 x.f3.f1, .int .i64 x.f3.f2, .bool x.f3.f3]] W (boolPost (x.f2 != 0) W)
  go_enter Try.func26, Try.ntmps26
  go_wp2
  go_ret
  exact ⟨rfl, (Below.refl _ _).alloc (Nat.le_refl _) _⟩
def lineRel (l0 : List SNote) (a1 n : Int) (k : Nat) : Prop := k ≤ l0.length ∧ ∀ i, i < k → lineStep l0 a1 n i = true
set_option maxHeartbeats 1000000 in
theorem line_loop (l0 : List SNote) (a1 n : Int) (ad : Addr) (w : World) (k : Nat) (hlt : k < l0.length) (hr : Kd.C kNote w (some ad) l0.length l0) :
    w.cell? ⟨(ad.add (k * 7)).block, (ad.add (k * 7)).off + 1, none⟩ = some (.int .i64 (l0.getD k zNote).f1) ∧ w.cell? ⟨(ad.add (k * 7)).block, (ad.add (k * 7)).off + 2, none⟩ = some (.int .i64 (l0.getD k zNote).f2) := by
  obtain ⟨ad', e, hx0, hx1, hx2, _⟩ := at_TNote hr (k : Int) (by omega) (by omega)
  cases e
  simp only [Int.toNat_natCast] at hx1 hx2
  exact ⟨hx1, hx2⟩
set_option maxHeartbeats 1000000 in
theorem audit_Line.calls (A0 : Option Addr) (c0 : Nat) (l0 : List SNote) (a1 : Int) (r : Bool) (w : World) (hr0 : Kd.C kNote w A0 l0.length l0) (hc0 : l0.length ≤ c0) (h : audit_Line.f l0 a1 = some r) :
    Calls Try.prog 11 #[.slice A0 l0.length c0, .int .i64 a1] w fun e w' => e = .returned (.bool r) ∧ Below w.heap.size w w' := by
  obtain rfl := Option.some.inj h
  clear h
  have hm := hr0.2.1
  have HC1 := Aside0.mk (slices_IndexFunc_api_Note.told 26 #[] (fun x : SNote => x.f2 != 0) A0 c0 l0 w (enters_of Try.func26 (by kernel_rfl) rfl) (line1_told w) hr0 hc0)
  have HR := Aside0.mk hr0
  clear hr0 hc0
  show Calls _ _ _ _ (boolPost (lineOf l0 a1) w)
  obtain ⟨n, hn⟩ : ∃ n, n = lineN l0 := ⟨_, rfl⟩
  have HN := Aside0.mk hn
  unfold lineN at hn
  by_cases hi : idx (fun x : SNote => x.f2 != 0) l0 < 0
  · rw [if_pos hi] at hn
    subst hn
    go_enter Try.func11, Try.ntmps11
    go_wp2_with (go_at_call 25; refine HC1.out.mono ?_; rintro e w1 ⟨rfl, hb1⟩)
    clear hi HC1
    go_loop [6, 7, 16] (fun v6 v7 v16 => ∃ k : Nat, v16 = .int .i64 k ∧ lineRel l0 a1 (l0.length : Int) k) (fun _ _ i => l0.length - (intOf i).toNat)
    case atStart => exact ⟨0, rfl, Nat.zero_le _, fun i hi => by omega⟩
    case round =>
      obtain ⟨k, rfl, HK⟩ := hrel
      have HK := Aside0.mk HK
      by_cases hlt : k < l0.length
      · obtain ⟨ad, _, e, _⟩ := Kd.C_get HR.out zNote (k : Int) (by omega) (by omega)
        cases e
        obtain ⟨hx1, hx2⟩ := line_loop l0 a1 (l0.length : Int) ad w1 k hlt (Kd.C_below HR.out hb1)
        have HS := Aside0.mk (show lineStep l0 a1 (l0.length : Int) k = !((decide ((l0.length : Int) ≤ (k : Int)) != ((l0.getD k zNote).f2 != 0)) || (!(decide ((l0.length : Int) ≤ (k : Int))) && ((l0.getD k zNote).f1 != wrap64 (wrap64 (a1 + (k : Int)) + 1)))) from rfl)
        generalize l0.getD k zNote = x at *
        cases hE : (x.f2 != 0) <;> cases hQ : (x.f1 != wrap64 (wrap64 (a1 + (k : Int)) + 1)) <;> cases hO : decide ((l0.length : Int) ≤ (k : Int))
        all_goals try (exact absurd (of_decide_eq_true hO) (by omega))
        all_goals
          have hs2 := HS.out
          rw [hE, hQ, hO] at hs2
          have HS2 := Aside0.mk hs2
          clear hs2
          go_wp2
        all_goals first
          | (go_ret; exact ⟨by rw [show lineOf l0 a1 = false from by unfold lineOf; rw [← HN.out]; exact range_all_hit _ _ k hlt (HS2.out.trans rfl)] <;> rfl, hb1⟩)
          | exact ⟨⟨k + 1, by go_num, by omega, fun i hi => by rcases Nat.lt_succ_iff_lt_or_eq.1 hi with h | rfl; exact HK.out.2 i h; exact HS2.out.trans rfl⟩, by simp [intOf]; omega⟩
      · go_wp2
        go_ret
        exact ⟨by rw [show lineOf l0 a1 = true from by unfold lineOf; rw [← HN.out]; exact range_all_none _ _ (fun i hi => HK.out.2 i (by omega))] <;> rfl, hb1⟩
  · rw [if_neg hi] at hn
    have HN2 := Aside0.mk hn; clear hn
    go_enter Try.func11, Try.ntmps11
    go_wp2_with (go_at_call 25; refine HC1.out.mono ?_; rintro e w1 ⟨rfl, hb1⟩)
    rw [← HN2.out]
    clear hi HC1
    go_loop [6, 7, 16] (fun v6 v7 v16 => ∃ k : Nat, v16 = .int .i64 k ∧ lineRel l0 a1 n k) (fun _ _ i => l0.length - (intOf i).toNat)
    case atStart => exact ⟨0, rfl, Nat.zero_le _, fun i hi => by omega⟩
    case round =>
      obtain ⟨k, rfl, HK⟩ := hrel
      have HK := Aside0.mk HK
      by_cases hlt : k < l0.length
      · obtain ⟨ad, _, e, _⟩ := Kd.C_get HR.out zNote (k : Int) (by omega) (by omega)
        cases e
        obtain ⟨hx1, hx2⟩ := line_loop l0 a1 n ad w1 k hlt (Kd.C_below HR.out hb1)
        have HS := Aside0.mk (show lineStep l0 a1 n k = !((decide (n ≤ (k : Int)) != ((l0.getD k zNote).f2 != 0)) || (!(decide (n ≤ (k : Int))) && ((l0.getD k zNote).f1 != wrap64 (wrap64 (a1 + (k : Int)) + 1)))) from rfl)
        generalize l0.getD k zNote = x at *
        cases hE : (x.f2 != 0) <;> cases hQ : (x.f1 != wrap64 (wrap64 (a1 + (k : Int)) + 1)) <;> cases hO : decide (n ≤ (k : Int))
        all_goals
          have hs2 := HS.out
          rw [hE, hQ, hO] at hs2
          have HS2 := Aside0.mk hs2
          clear hs2
          go_wp2
        all_goals first
          | (go_ret; exact ⟨by rw [show lineOf l0 a1 = false from by unfold lineOf; rw [← HN.out]; exact range_all_hit _ _ k hlt (HS2.out.trans rfl)] <;> rfl, hb1⟩)
          | exact ⟨⟨k + 1, by go_num, by omega, fun i hi => by rcases Nat.lt_succ_iff_lt_or_eq.1 hi with h | rfl; exact HK.out.2 i h; exact HS2.out.trans rfl⟩, by simp [intOf]; omega⟩
      · go_wp2
        go_ret
        exact ⟨by rw [show lineOf l0 a1 = true from by unfold lineOf; rw [← HN.out]; exact range_all_none _ _ (fun i hi => HK.out.2 i (by omega))] <;> rfl, hb1⟩

end Go.Proofs.Yteiaoanfdkgmoaa.P
