/- The functions that the laws of this seat reach, as plain Lean functions, and for each the contract of its call: no condition but those that each theorem names. -/
import Derived.Test.YtbgdamlidohfhaaP0
import Derived.Test.YtbgdamlidohfhaaP9
import Derived.Test.YtbgdamlidohfhaaP10
import Derived.Test.YtbgdamlidohfhaaP16
namespace Go.Proofs.Ytbgdamlidohfhaa.P
open Go.RowKit Go.Proofs.YtbgdamlidohfhaaW.PrintWords Go.Proofs.YtbgdamlidohfhaaW.PrintLast Go.Proofs.YtbgdamlidohfhaaW.PrintMore
attribute [local go_sem] max2_int min2_int max_two min_two max_three min_three max_four min_four   -- for this text's walks alone
set_option linter.unusedVariables false
set_option linter.unusedSimpArgs false

/-! ### registry_Same: function 26 -/
def eqField (x y : SField) : Bool := x.f0.toList == y.f0.toList && x.f1 == y.f1
/-- Are two schemas the same? -/
def eqSchema (x y : SSchema) : Bool := decide (x.f0.toList = y.f0.toList) && (decide (x.f1 = y.f1) && eqf eqField zField x.f2 y.f2)
theorem equal_fields_loop (a b : List SField) (hl : a.length ≤ 9223372036854775807) (he : a.length = b.length) : ∀ (d i k : Nat), i + d = a.length → d < k → (∀ j, j < i → eqField (a.getD j zField) (b.getD j zField) = true) →
    slices_Equal_api_Field.l0 k a b (a.length : Int) (i : Int) = some (eqf eqField zField a b) := by
  intro d
  induction d with
  | zero =>
    intro i k hi hk h
    obtain ⟨k, rfl⟩ := rounds_of hk
    simp only [slices_Equal_api_Field.l0]
    rw [if_neg (by omega), eqf_all he (fun j hj => h j (by omega))]
  | succ d ih =>
    intro i k hi hk h
    obtain ⟨k, rfl⟩ := rounds_of hk
    simp only [slices_Equal_api_Field.l0]
    rw [if_pos (by omega), if_pos (by omega), if_pos (by omega), if_pos (by omega), wrap_succ (by omega)]
    rw [show rd_TField a (i : Int) = a.getD i zField from rfl, show rd_TField b (i : Int) = b.getD i zField from rfl]
    cases hq : eqField (a.getD i zField) (b.getD i zField) with
    | true =>
      have hq2 := hq
      unfold eqField at hq
      rw [Bool.and_eq_true] at hq
      rw [hq.1, hq.2]
      exact ih (i + 1) k (by omega) (by omega) (all_next h hq2)
    | false =>
      rw [eqf_hit i (by omega) hq]
      unfold eqField at hq
      rw [Bool.and_eq_false_iff] at hq
      rcases hq with hq | hq <;> (rw [hq, if_pos (by simp)])
theorem equal_fields (a b : List SField) (hl : a.length ≤ 9223372036854775807) {k : Nat} (hk : a.length < k) : slices_Equal_api_Field.f k a b = some (eqf eqField zField a b) := by
  unfold slices_Equal_api_Field.f
  by_cases he : a.length = b.length
  · rw [if_pos (by omega)]
    exact equal_fields_loop a b hl he a.length 0 k (by omega) hk (fun j hj => by omega)
  · rw [if_neg (by omega), eqf_len he]
theorem schema_Same_is (x y : SSchema) (hl : x.f2.length ≤ 9223372036854775807) {k : Nat} (hk : x.f2.length < k) : schema_Same.f k x.f0 x.f1 x.f2 y.f0 y.f1 y.f2 = some (eqSchema x y) := by
  unfold schema_Same.f eqSchema
  by_cases h1 : x.f0.toList = y.f0.toList
  · rw [if_pos h1, decide_eq_true h1]
    by_cases h2 : x.f1 = y.f1
    · rw [if_pos h2, decide_eq_true h2, equal_fields _ _ hl hk]
      rfl
    · rw [if_neg h2, decide_eq_false h2]
      rfl
  · rw [if_neg h1, decide_eq_false h1]
    rfl
theorem same_told (w : World) : Tells2 Try.prog kSchema 27 #[] eqSchema w := by
  intro x y cs ds W _ hx hy
  obtain ⟨A2, c2, rfl, hl2, hc2⟩ := kSchema_open hx
  obtain ⟨A3, c3, rfl, hl3, hc3⟩ := kSchema_open hy
  exact schema_Same.calls (x.f2.length + 1) x.f0 x.f1 A2 c2 x.f2 y.f0 y.f1 A3 c3 y.f2 (eqSchema x y) W hc2 hl2 hc3 hl3 (schema_Same_is x y hc2.2.1 (by omega))
/-- Are two rows of schemas the same? -/
def registry_Same.f (l0 : List SSchema) (l1 : List SSchema) : Option Bool := some (eqf eqSchema zSchema l0 l1)
theorem registry_Same.calls (A0 : Option Addr) (c0 : Nat) (l0 : List SSchema) (A1 : Option Addr) (c1 : Nat) (l1 : List SSchema) (r : Bool) (w : World) (hr0 : Kd.C kSchema w A0 l0.length l0) (hc0 : l0.length ≤ c0) (hr1 : Kd.C kSchema w A1 l1.length l1) (hc1 : l1.length ≤ c1) (h : registry_Same.f l0 l1 = some r) :
    Calls Try.prog 26 #[.slice A0 l0.length c0, .slice A1 l1.length c1] w fun e w' => e = .returned (.bool r) ∧ Below w.heap.size w w' := by
  obtain rfl := Option.some.inj h
  clear h
  have HC1 := Aside0.mk (slices_EqualFunc_api_Schema.told 27 #[] eqSchema A0 c0 l0 A1 c1 l1 w (enters_of Try.func27 (by kernel_rfl) rfl) (same_told w) hr0 hc0 hr1 hc1)
  clear hr0 hc0 hr1 hc1
  go_enter Try.func26, Try.ntmps26
  go_wp2_with (go_at_call 42; refine HC1.out.mono ?_; rintro e w1 ⟨rfl, hb1⟩)
  go_ret
  exact ⟨rfl, hb1⟩

end Go.Proofs.Ytbgdamlidohfhaa.P
