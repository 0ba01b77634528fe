/- The functions that the laws of this seat reach, as plain Lean functions, and for each the contract of its call: no condition but those that each theorem names. -/
import Derived.Test.YtbgdamlidohfhaaP0
namespace Go.Proofs.Ytbgdamlidohfhaa.P
open Go.RowKit Go.Proofs.YtbgdamlidohfhaaW.PrintWords Go.Proofs.YtbgdamlidohfhaaW.PrintLast Go.Proofs.YtbgdamlidohfhaaW.PrintMore
attribute [local go_sem] max2_int min2_int max_two min_two max_three min_three max_four min_four   -- for this text's walks alone
set_option linter.unusedVariables false
set_option linter.unusedSimpArgs false

/-! ### slices_IndexFunc_api_Schema: function 56 -/
set_option maxHeartbeats 400000 in
theorem slices_IndexFunc_api_Schema.told (g : Nat) (caps : Array Value) (p : SSchema → Bool) (A0 : Option Addr) (cp : Nat) (l0 : List SSchema) (w : World) (eg : ∀ args w, (callFunc g args).run Try.prog w = .ok (.enter g args) w) (hp : Tells Try.prog kSchema g caps p w) (hr0 : Kd.C kSchema w A0 l0.length l0) (hc0 : l0.length ≤ cp) :
    Calls Try.prog 56 #[.slice A0 l0.length cp, .func (.func g) #[] caps] w (idxPost p l0 w) := by
  have HR0 := Aside0.mk hr0
  have HC0 := Aside0.mk hc0
  have HP := Aside0.mk hp
  have hm := hr0.2.1
  clear hr0 hc0 hp
  go_enter Try.func56, Try.ntmps56
  go_wp2
  go_loopw [4, 5, 8] (fun v4 v5 v8 w' => ∃ k : Nat, v8 = .int .i64 k ∧ idxRel p l0 zSchema w k w') (fun _ _ i _ => l0.length - (intOf i).toNat)
  case atStart => exact ⟨0, rfl, Nat.zero_le _, fun i hi => by omega, Below.refl _ _⟩
  case round =>
    obtain ⟨k, rfl, HK⟩ := hrel
    have HK := Aside0.mk HK
    by_cases hlt : k < l0.length
    · obtain ⟨ad, cs, e, hl, hK, hcell⟩ := Kd.C_get (Kd.C_below HR0.out HK.out.2.2) zSchema (k : Int) (by omega) (by omega)
      cases e
      simp only [Int.toNat_natCast] at hK hcell
      obtain ⟨c0, c1, c2, rfl⟩ := cells3 cs hl
      have hx0 : wr.cell? (ad.add (k * 3)) = some c0 := hcell 0 _ rfl
      have hx1 : wr.cell? ⟨(ad.add (k * 3)).block, (ad.add (k * 3)).off + 1, none⟩ = some c1 := by rw [← add_field _ _ 1 (by omega)]; exact hcell 1 _ rfl
      have hx2 : wr.cell? ⟨(ad.add (k * 3)).block, (ad.add (k * 3)).off + 2, none⟩ = some c2 := by rw [← add_field _ _ 2 (by omega)]; exact hcell 2 _ rfl
      have hcall := HP.out (l0.getD k zSchema) _ wr HK.out.2.2 hK
      clear hcell hK hl
      cases hp : p (l0.getD k zSchema) with
      | true =>
        rw [hp] at hcall
        have HQ := Aside0.mk hp; clear hp
        go_wp2_with (go_at_fn g; refine hcall.mono ?_; rintro e w1 ⟨rfl, hb1⟩)
        go_ret
        exact ⟨by rw [idx_skip p zSchema l0 k HK.out.2.1 hlt HQ.out]; rfl, below_step HK.out.2.2 hb1⟩
      | false =>
        rw [hp] at hcall
        have HQ := Aside0.mk hp; clear hp
        go_wp2_with (go_at_fn g; refine hcall.mono ?_; rintro e w1 ⟨rfl, hb1⟩)
        go_roundw
        case rel => exact ⟨k + 1, by go_num, by omega, fun i hi => by rcases Nat.lt_succ_iff_lt_or_eq.1 hi with h | rfl; exact HK.out.2.1 i h; exact HQ.out, below_step HK.out.2.2 hb1⟩
        case measure => simp [intOf]; omega
    · go_wp2
      go_ret
      exact ⟨by rw [idx_none p zSchema l0 (fun i hi => HK.out.2.1 i (by omega))]; rfl, HK.out.2.2⟩

end Go.Proofs.Ytbgdamlidohfhaa.P
