/- The functions that the laws of this seat reach, as plain Lean functions, and for each the contract of its call: no condition but those that each theorem names. -/
import Derived.Test.YteiaoanfdkgmoaaP0
namespace Go.Proofs.Yteiaoanfdkgmoaa.P
open Go.RowKit Go.Proofs.YteiaoanfdkgmoaaW.PrintWords Go.Proofs.YteiaoanfdkgmoaaW.PrintLast Go.Proofs.YteiaoanfdkgmoaaW.PrintMore
attribute [local go_sem] max2_int min2_int max_two min_two max_three min_three max_four min_four   -- for this text's walks alone
set_option linter.unusedVariables false
set_option linter.unusedSimpArgs false

/-! ### towncrierref21_Shift: function 19 -/
def shiftBy (a1 : Int) (x : SMatch) : SMatch := ⟨wrap64 (x.f0 + a1), wrap64 (x.f1 + a1), x.f2, x.f3⟩
def towncrierref21_Shift.f (l0 : List SMatch) (a1 : Int) : Option (List SMatch) := if l0.length < 4398046511104 then some (l0.map (shiftBy a1)) else none
def shiftRel (l0 : List SMatch) (a1 : Int) (w : World) (k : Nat) (v5 : Value) (w' : World) : Prop :=
  k ≤ l0.length ∧ Kd.R kMatch 25 w' w.heap.size (fun _ => True) v5 ((l0.take k).map (shiftBy a1)) ∧ Below w.heap.size w w'
set_option maxHeartbeats 1000000 in
theorem towncrierref21_Shift.calls (A0 : Option Addr) (c0 : Nat) (l0 : List SMatch) (a1 : Int) (r : List SMatch) (w : World) (hr0 : Kd.C kMatch w A0 l0.length l0) (hc0 : l0.length ≤ c0) (h : towncrierref21_Shift.f l0 a1 = some r) :
    Calls Try.prog 19 #[.slice A0 l0.length c0, .int .i64 a1] w fun e w' => ∃ v0_ : Value, e = .returned v0_ ∧ Kd.R kMatch 25 w' w.heap.size (fun _ => True) v0_ r ∧ Below w.heap.size w w' := by
  unfold towncrierref21_Shift.f at h
  by_cases hm : l0.length < 4398046511104
  · rw [if_pos hm] at h
    obtain rfl := Option.some.inj h
    clear h
    show Calls _ _ _ _ (rowPost kMatch 25 (l0.map (shiftBy a1)) w)
    have HR0 := Aside0.mk hr0
    clear hr0 hc0
    go_enter Try.func19, Try.ntmps19
    go_wp2
    go_loopw [5, 6, 7] (fun v5 v6 v7 w' => ∃ k : Nat, v6 = .int .i64 k ∧ shiftRel l0 a1 w k v5 w') (fun _ i _ _ => l0.length - (intOf i).toNat)
    case atStart => exact ⟨0, rfl, Nat.zero_le _, Kd.R_nil _ _ _ _ _, Below.refl _ _⟩
    case round =>
      obtain ⟨k, rfl, HK⟩ := hrel
      have HK := Aside0.mk HK
      obtain ⟨_, ho, hb⟩ := HK.out
      have HO := Aside0.mk ho
      have HB := Aside0.mk hb
      clear ho hb
      by_cases hlt : k < l0.length
      · obtain ⟨ad, e, hx0, hx1, hx2, hx3⟩ := at_TMatch (Kd.C_below HR0.out HB.out) (k : Int) (by omega) (by omega)
        cases e
        simp only [Int.toNat_natCast] at hx0 hx1 hx2 hx3
        have hsz := HB.out.size
        have HSN := Aside0.mk (show (l0.take (k + 1)).map (shiftBy a1) = (l0.take k).map (shiftBy a1) ++ [shiftBy a1 (l0.getD k zMatch)] from by rw [take_snoc zMatch l0 k hlt, List.map_append]; rfl)
        have hln : ((l0.take k).map (shiftBy a1)).length ≤ k := by rw [List.length_map]; exact List.length_take_le _ _
        have hx : rd_TMatch l0 (k : Int) = l0.getD k zMatch := rfl
        rw [hx] at hx0 hx1 hx2 hx3
        clear hx
        generalize l0.getD k zMatch = x at *
        go_wp2_with ((with_reducible refine gate_builtin (b := .append) (xs := #[.tmp 28, .tmp 30]) rfl ?_); at_builtin; refine Kd.R_append kMatch (w0 := w) w.heap.size rfl (.tmp 28) (.tmp 30) 34 25 (.agg #[(.int .i64 0), (.int .i64 0), (.int .i64 0), (.bool false)]) 32 rfl Try.underlying34 infoMatch rfl (by decide) (by omega) u5 ((l0.take k).map (shiftBy a1)) (shiftBy a1 x) [.int .i64 (wrap64 (x.f0 + a1)), .int .i64 (wrap64 (x.f1 + a1)), .int .i64 x.f2, .bool x.f3] (fun _ => True) (fun _ => False) rfl (by first | (go_simp; done) | (go_simp; rfl)) ?aP (fun _ hk => hk.elim) (fun _ _ => trivial) ?aO ?aB ?aS ?aL ?_; (case aP => exact kMatch_mkM _ _ _ (shiftBy a1 x)); (case aO => exact Kd.R_alloc HO.out _); (case aB => exact below_alloc HB.out _); (case aS => simp; omega); (case aL => omega); intro v1 w2 ho hb hg hat)
        go_roundw
        case rel => exact ⟨k + 1, by go_num, by omega, by rw [HSN.out]; exact ho, hb⟩
        case measure => simp [intOf]; omega
      · go_wp2
        go_ret
        exact ⟨_, rfl, by have h := HO.out; rw [List.take_of_length_le (by omega)] at h; exact h, HB.out⟩
  · rw [if_neg hm] at h
    exact absurd h (by simp)

end Go.Proofs.Yteiaoanfdkgmoaa.P
