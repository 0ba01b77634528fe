/- The functions that the laws of this seat reach, as plain Lean functions, and for each the contract of its call: no condition but those that each theorem names. -/
import Derived.Test.YtbgdamlidohfhaaP0
namespace Go.Proofs.Ytbgdamlidohfhaa.P
open Go.RowKit Go.Proofs.YtbgdamlidohfhaaW.PrintWords Go.Proofs.YtbgdamlidohfhaaW.PrintLast Go.Proofs.YtbgdamlidohfhaaW.PrintMore
attribute [local go_sem] max2_int min2_int max_two min_two max_three min_three max_four min_four   -- for this text's walks alone
set_option linter.unusedVariables false
set_option linter.unusedSimpArgs false

/-! ### slices_Clone_api_Field: function 58 -/
def slices_Clone_api_Field.f (l0 : List (SField)) : Option (List (SField)) := if l0.length < 5864062014805 then some l0 else none
set_option maxHeartbeats 400000 in
theorem slices_Clone_api_Field.calls (A0 : Option Addr) (c0 : Nat) (l0 : List (SField)) (r : List (SField)) (w : World) (hr0 : Kd.C kField w A0 l0.length l0) (hc0 : l0.length ≤ c0) (h : slices_Clone_api_Field.f l0 = some r) :
    Calls Try.prog 58 #[.slice A0 l0.length c0] w fun e w' => ∃ v0_ : Value, e = .returned v0_ ∧ Kd.R kField 39 w' w.heap.size (fun _ => True) v0_ r ∧ Below w.heap.size w w' := by
  unfold slices_Clone_api_Field.f at h
  by_cases hm : l0.length < 5864062014805
  · rw [if_pos hm] at h
    obtain rfl := Option.some.inj h
    clear h
    show Calls _ _ _ _ (rowPost kField 39 l0 w)
    have hu := Try.underlying23
    cases A0 with
    | none =>
      obtain rfl := C_none hr0
      have hq := fun (W : World) (c : Nat) => Go.Lib.run_eql_slice_nil (P := Try.prog) W 23 39 none 0 c 0 0 hu
      go_enter Try.func58, Try.ntmps58
      go_wp2
      go_ret
      exact ⟨_, rfl, Kd.R_nil _ _ _ _ _, Below.refl _ _⟩
    | some ad =>
      have HR := Aside0.mk hr0
      clear hr0
      have hq := fun (W : World) (m c : Nat) => Go.Lib.run_eql_slice_nil (P := Try.prog) W 23 39 (some ad) m c 0 0 hu
      go_enter Try.func58, Try.ntmps58
      go_wp2_with ((with_reducible refine gate_builtin (b := .append) (xs := #[.tmp 5, .tmp 6]) rfl ?_); at_builtin; refine Kd.R_append_rows kField (Rr := Kd.K kField (w.alloc (.cells #[] 39))) (w0 := w) w.heap.size rfl (.tmp 5) (.tmp 6) 23 39 (.agg #[(.string ⟨#[]⟩), (.int .i64 0)]) 24 rfl Try.underlying23 infoField rfl (by decide) (by omega) (.slice (some ⟨w.heap.size, 0, none⟩) 0 0) [] l0 (some ad) l0.length c0 (fun _ => True) (fun _ => False) rfl rfl ?aO ?aR ?aK (fun _ h => h.elim) (fun _ _ => trivial) ?aB ?aS ?aL ?_; (case aO => exact Kd.R_empty _ _ _ _ (Nat.le_refl _)); (case aR => exact Kd.C_below HR.out ((Below.refl _ _).alloc (Nat.le_refl _) _)); (case aB => exact (Below.refl _ _).alloc (Nat.le_refl _) _); (case aK => exact (fun x cs h => by obtain rfl := kField_open h; exact kField_mkM _ _ _ x)); (case aS => simp); (case aL => simp; omega); intro v1 w2 ho hb hg hat)
      have HO := Aside0.mk ho
      clear ho hg hat
      go_wp2
      go_ret
      exact ⟨_, rfl, HO.out, hb⟩
  · rw [if_neg hm] at h
    exact absurd h (by simp)

end Go.Proofs.Ytbgdamlidohfhaa.P
