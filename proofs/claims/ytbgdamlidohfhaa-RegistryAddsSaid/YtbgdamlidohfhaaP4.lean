/- The functions that the laws of this seat reach, as plain Lean functions, and for each the contract of its call: no condition but those that each theorem names. -/
import Derived.Test.YtbgdamlidohfhaaP0
import Derived.Test.YtbgdamlidohfhaaP3
namespace Go.Proofs.Ytbgdamlidohfhaa.P
open Go.RowKit Go.Proofs.YtbgdamlidohfhaaW.PrintWords Go.Proofs.YtbgdamlidohfhaaW.PrintLast Go.Proofs.YtbgdamlidohfhaaW.PrintMore
attribute [local go_sem] max2_int min2_int max_two min_two max_three min_three max_four min_four   -- for this text's walks alone
set_option linter.unusedVariables false
set_option linter.unusedSimpArgs false

/-! ### slices_ContainsFunc_api_Field: function 44 -/
set_option maxHeartbeats 400000 in
theorem slices_ContainsFunc_api_Field.told (g : Nat) (caps : Array Value) (p : SField → Bool) (A0 : Option Addr) (cp : Nat) (l0 : List SField) (w : World) (eg : ∀ args w, (callFunc g args).run Try.prog w = .ok (.enter g args) w) (hp : Tells Try.prog kField g caps p w) (hr0 : Kd.C kField w A0 l0.length l0) (hc0 : l0.length ≤ cp) :
    Calls Try.prog 44 #[.slice A0 l0.length cp, .func (.func g) #[] caps] w (boolPost (l0.any p) w) := by
  obtain ⟨ha, hn⟩ := idx_any p l0
  have HA := Aside0.mk ha
  have HC := Aside0.mk (slices_IndexFunc_api_Field.told g caps p A0 cp l0 w eg hp hr0 hc0)
  clear ha hn eg hp hr0
  go_enter Try.func44, Try.ntmps44
  go_wp2_with (go_at_call 59; refine HC.out.mono ?_; rintro e w1 ⟨rfl, hb1⟩)
  go_ret
  exact ⟨by rw [← HA.out]; rfl, hb1⟩

end Go.Proofs.Ytbgdamlidohfhaa.P
