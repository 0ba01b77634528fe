/- The functions that the laws of this seat reach, as plain Lean functions, and for each the contract of its call: no condition but those that each theorem names. -/
import Derived.Test.YteiaoanfdkgmoaaP0
namespace Go.Proofs.Yteiaoanfdkgmoaa.P
open Go.RowKit Go.Proofs.YteiaoanfdkgmoaaW.PrintWords Go.Proofs.YteiaoanfdkgmoaaW.PrintLast Go.Proofs.YteiaoanfdkgmoaaW.PrintMore
attribute [local go_sem] max2_int min2_int max_two min_two max_three min_three max_four min_four   -- for this text's walks alone
set_option linter.unusedVariables false
set_option linter.unusedSimpArgs false

/-! ### slices_Clone_api_Match: function 29 -/
def slices_Clone_api_Match.f (l0 : List (SMatch)) : Option (List (SMatch)) := if l0.length < 4398046511104 then some l0 else none
set_option maxHeartbeats 400000 in
theorem slices_Clone_api_Match.calls (A0 : Option Addr) (c0 : Nat) (l0 : List (SMatch)) (r : List (SMatch)) (w : World) (hr0 : Kd.C kMatch w A0 l0.length l0) (hc0 : l0.length ≤ c0) (h : slices_Clone_api_Match.f l0 = some r) :
    Calls Try.prog 29 #[.slice A0 l0.length c0] w fun e w' => ∃ v0_ : Value, e = .returned v0_ ∧ Kd.R kMatch 25 w' w.heap.size (fun _ => True) v0_ r ∧ Below w.heap.size w w' := by
  unfold slices_Clone_api_Match.f at h
  by_cases hm : l0.length < 4398046511104
  · rw [if_pos hm] at h
    obtain rfl := Option.some.inj h
    clear h
    show Calls _ _ _ _ (rowPost kMatch 25 l0 w)
    have hu := Try.underlying34
    cases A0 with
    | none =>
      obtain rfl := C_none hr0
      have hq := fun (W : World) (c : Nat) => Go.Lib.run_eql_slice_nil (P := Try.prog) W 34 25 none 0 c 0 0 hu
      go_enter Try.func29, Try.ntmps29
      go_wp2
      go_ret
      exact ⟨_, rfl, Kd.R_nil _ _ _ _ _, Below.refl _ _⟩
    | some ad =>
      have HR := Aside0.mk hr0
      clear hr0
      have hq := fun (W : World) (m c : Nat) => Go.Lib.run_eql_slice_nil (P := Try.prog) W 34 25 (some ad) m c 0 0 hu
      go_enter Try.func29, Try.ntmps29
      go_wp2_with ((with_reducible refine gate_builtin (b := .append) (xs := #[.tmp 5, .tmp 6]) rfl ?_); at_builtin; refine Kd.R_append_rows kMatch (Rr := Kd.K kMatch (w.alloc (.cells #[] 25))) (w0 := w) w.heap.size rfl (.tmp 5) (.tmp 6) 34 25 (.agg #[(.int .i64 0), (.int .i64 0), (.int .i64 0), (.bool false)]) 32 rfl Try.underlying34 infoMatch rfl (by decide) (by omega) (.slice (some ⟨w.heap.size, 0, none⟩) 0 0) [] l0 (some ad) l0.length c0 (fun _ => True) (fun _ => False) rfl rfl ?aO ?aR ?aK (fun _ h => h.elim) (fun _ _ => trivial) ?aB ?aS ?aL ?_; (case aO => exact Kd.R_empty _ _ _ _ (Nat.le_refl _)); (case aR => exact Kd.C_below HR.out ((Below.refl _ _).alloc (Nat.le_refl _) _)); (case aB => exact (Below.refl _ _).alloc (Nat.le_refl _) _); (case aK => exact (fun x cs h => by obtain rfl := kMatch_open h; exact kMatch_mkM _ _ _ x)); (case aS => simp); (case aL => simp; omega); intro v1 w2 ho hb hg hat)
      have HO := Aside0.mk ho
      clear ho hg hat
      go_wp2
      go_ret
      exact ⟨_, rfl, HO.out, hb⟩
  · rw [if_neg hm] at h
    exact absurd h (by simp)

end Go.Proofs.Yteiaoanfdkgmoaa.P
