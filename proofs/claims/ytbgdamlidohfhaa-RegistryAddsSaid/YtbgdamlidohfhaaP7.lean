/- The functions that the laws of this seat reach, as plain Lean functions, and for each the contract of its call: no condition but those that each theorem names. -/
import Derived.Test.YtbgdamlidohfhaaP0
import Derived.Test.YtbgdamlidohfhaaP6
namespace Go.Proofs.Ytbgdamlidohfhaa.P
open Go.RowKit Go.Proofs.YtbgdamlidohfhaaW.PrintWords Go.Proofs.YtbgdamlidohfhaaW.PrintLast Go.Proofs.YtbgdamlidohfhaaW.PrintMore
attribute [local go_sem] max2_int min2_int max_two min_two max_three min_three max_four min_four   -- for this text's walks alone
set_option linter.unusedVariables false
set_option linter.unusedSimpArgs false

/-! ### registry_at: function 39 -/
theorem at1_told (nm : ByteArray) (B : Nat) (w : World) (hB : B < w.heap.size) (hc : w.cell? ⟨B, 0, none⟩ = some (.string nm)) :
    Tells Try.prog kSchema 57 #[.pointer (some ⟨B, 0, none⟩)] (fun x : SSchema => x.f0.toList == nm.toList) w := by
  intro x cs W hW hK
  obtain ⟨A2, c2, rfl, _, _⟩ := kSchema_open hK
  have hc2 : W.cell? ⟨B, 0, none⟩ = some (.string nm) := (hW.cell (p := ⟨B, 0, none⟩) hB).trans hc
  have hB2 : B < W.heap.size := Nat.lt_of_lt_of_le hB hW.size
  clear hc hW hK hB
  show Calls _ _ #[.agg #[.string x.f0, .int .i64 x.f1, .slice A2 x.f2.length c2], .pointer (some ⟨B, 0, none⟩)] W (boolPost (x.f0.toList == nm.toList) W)
  go_enter Try.func57, Try.ntmps57
  go_wp2
  go_ret
  exact ⟨rfl, (Below.refl _ _).alloc (Nat.le_refl _) _⟩
/-- Where the one of a name is; -1: nowhere. -/
def registry_at.f (l0 : List SSchema) (a1 : ByteArray) : Option Int := some (idx (fun x : SSchema => x.f0.toList == a1.toList) l0)
set_option maxHeartbeats 1000000 in
theorem registry_at.calls (A0 : Option Addr) (c0 : Nat) (l0 : List SSchema) (a1 : ByteArray) (r : Int) (w : World) (hr0 : Kd.C kSchema w A0 l0.length l0) (hc0 : l0.length ≤ c0) (h : registry_at.f l0 a1 = some r) :
    Calls Try.prog 39 #[.slice A0 l0.length c0, .string a1] w fun e w' => e = .returned (.int .i64 r) ∧ Below w.heap.size w w' := by
  obtain rfl := Option.some.inj h
  clear h
  have hb0 : Below w.heap.size w (w.alloc (.cells #[.string a1] 9)) := (Below.refl _ _).alloc (Nat.le_refl _) _
  have HC1 := Aside0.mk (slices_IndexFunc_api_Schema.told 57 #[.pointer (some ⟨w.heap.size, 0, none⟩)] (fun x : SSchema => x.f0.toList == a1.toList) A0 c0 l0 (w.alloc (.cells #[.string a1] 9)) (enters_of Try.func57 (by kernel_rfl) rfl) (at1_told a1 w.heap.size _ (by simp) ((blk_cell (blk_new _ _) 0).trans rfl)) (Kd.C_below hr0 hb0) hc0)
  clear hr0 hc0
  go_enter Try.func39, Try.ntmps39
  go_wp2_with (go_at_call 56; refine HC1.out.mono ?_; rintro e w1 ⟨rfl, hb1⟩)
  go_ret
  exact ⟨rfl, below_step hb0 hb1⟩

end Go.Proofs.Ytbgdamlidohfhaa.P
