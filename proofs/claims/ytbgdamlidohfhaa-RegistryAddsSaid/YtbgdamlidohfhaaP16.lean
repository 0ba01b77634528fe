/- The functions that the laws of this seat reach, as plain Lean functions, and for each the contract of its call: no condition but those that each theorem names. -/
import Derived.Test.YtbgdamlidohfhaaP0
namespace Go.Proofs.Ytbgdamlidohfhaa.P
open Go.RowKit Go.Proofs.YtbgdamlidohfhaaW.PrintWords Go.Proofs.YtbgdamlidohfhaaW.PrintLast Go.Proofs.YtbgdamlidohfhaaW.PrintMore
attribute [local go_sem] max2_int min2_int max_two min_two max_three min_three max_four min_four   -- for this text's walks alone
set_option linter.unusedVariables false
set_option linter.unusedSimpArgs false

/-! ### slices_EqualFunc_api_Schema: function 42 -/
def slices_EqualFunc_api_Schema.rel (p : SSchema → SSchema → Bool) (l0 l1 : List SSchema) (w : World) (k : Nat) (w' : World) : Prop := k ≤ l0.length ∧ (∀ i, i < k → p (l0.getD i zSchema) (l1.getD i zSchema) = true) ∧ Below w.heap.size w w'
set_option maxHeartbeats 1000000 in
theorem slices_EqualFunc_api_Schema.told (g : Nat) (caps : Array Value) (p : SSchema → SSchema → Bool) (A0 : Option Addr) (cp0 : Nat) (l0 : List SSchema) (A1 : Option Addr) (cp1 : Nat) (l1 : List SSchema) (w : World) (eg : ∀ args w, (callFunc g args).run Try.prog w = .ok (.enter g args) w) (hp : Tells2 Try.prog kSchema g caps p w) (hr0 : Kd.C kSchema w A0 l0.length l0) (hc0 : l0.length ≤ cp0) (hr1 : Kd.C kSchema w A1 l1.length l1) (hc1 : l1.length ≤ cp1) :
    Calls Try.prog 42 #[.slice A0 l0.length cp0, .slice A1 l1.length cp1, .func (.func g) #[] caps] w (boolPost (eqf p zSchema l0 l1) w) := by
  have HR0 := Aside0.mk hr0
  have HC0 := Aside0.mk hc0
  have HR1 := Aside0.mk hr1
  have HC1 := Aside0.mk hc1
  have HP := Aside0.mk hp
  have hm := hr0.2.1
  clear hr0 hc0 hr1 hc1 hp
  by_cases hlen : l0.length = l1.length
  · have HLEN := Aside0.mk hlen
    go_enter Try.func42, Try.ntmps42
    go_wp2
    go_loopw [7, 8, 9, 17] (fun _ _ _ v17 w' => ∃ k : Nat, v17 = .int .i64 k ∧ slices_EqualFunc_api_Schema.rel p l0 l1 w k w') (fun _ _ _ i _ => l0.length - (intOf i).toNat)
    case atStart => exact ⟨0, rfl, Nat.zero_le _, fun i hi => by omega, Below.refl _ _⟩
    case round =>
      obtain ⟨k, rfl, HK⟩ := hrel
      have HK := Aside0.mk HK
      clear hlen
      by_cases hlt : k < l0.length
      · have hlt2 : k < l1.length := by have := HLEN.out; omega
        obtain ⟨ad, cs, e, hl, hK, hcell⟩ := Kd.C_get (Kd.C_below HR0.out HK.out.2.2) zSchema (k : Int) (by omega) (by omega)
        cases e
        obtain ⟨ad2, ds, e, hl2, hK2, hcell2⟩ := Kd.C_get (Kd.C_below HR1.out HK.out.2.2) zSchema (k : Int) (by omega) (by omega)
        cases e
        simp only [Int.toNat_natCast] at hK hcell hK2 hcell2
        obtain ⟨x, HX⟩ : ∃ x, Aside0 (l0.getD k zSchema = x) := ⟨_, ⟨rfl⟩⟩
        obtain ⟨y, HY⟩ : ∃ y, Aside0 (l1.getD k zSchema = y) := ⟨_, ⟨rfl⟩⟩
        rw [HX.out] at hK
        rw [HY.out] at hK2
        have hK0 := hK
        have hK20 := hK2
        obtain ⟨A2p, c2p, rfl, _⟩ := kSchema_open hK0
        have hp0 := hcell 0 _ rfl
        (try simp only [show kSchema.sz = 3 from rfl, Nat.mul_one, Nat.add_zero] at hp0)
        have hp0z := fun (o : Obj) => cell_later o hp0
        have hp1 := hcell 1 _ rfl
        (try simp only [show kSchema.sz = 3 from rfl, Nat.mul_one, Nat.add_zero] at hp1)
        rw [add_field _ _ 1 (by omega)] at hp1
        have hp1z := fun (o : Obj) => cell_later o hp1
        have hp2 := hcell 2 _ rfl
        (try simp only [show kSchema.sz = 3 from rfl, Nat.mul_one, Nat.add_zero] at hp2)
        rw [add_field _ _ 2 (by omega)] at hp2
        have hp2z := fun (o : Obj) => cell_later o hp2
        obtain ⟨A2q, c2q, rfl, _⟩ := kSchema_open hK20
        have hq0 := hcell2 0 _ rfl
        (try simp only [show kSchema.sz = 3 from rfl, Nat.mul_one, Nat.add_zero] at hq0)
        have hq0z := fun (o : Obj) => cell_later o hq0
        have hq1 := hcell2 1 _ rfl
        (try simp only [show kSchema.sz = 3 from rfl, Nat.mul_one, Nat.add_zero] at hq1)
        rw [add_field _ _ 1 (by omega)] at hq1
        have hq1z := fun (o : Obj) => cell_later o hq1
        have hq2 := hcell2 2 _ rfl
        (try simp only [show kSchema.sz = 3 from rfl, Nat.mul_one, Nat.add_zero] at hq2)
        rw [add_field _ _ 2 (by omega)] at hq2
        have hq2z := fun (o : Obj) => cell_later o hq2
        have hcall := Aside0.mk (fun (W : World) (hW : Below wr.heap.size wr W) => HP.out x y _ _ W (below_step HK.out.2.2 hW) (kSchema.K_below hW hK) (kSchema.K_below hW hK2))
        clear hcell hK hl hcell2 hK2 hl2 hK0 hK20
        cases hp : p x y with
        | true =>
          rw [hp] at hcall
          have HQ := Aside0.mk hp; clear hp
          go_wp2_with (go_at_fn g; refine (hcall.out _ (below_alloc (below_alloc (Below.refl _ _) _) _)).mono ?_; rintro e w1 ⟨rfl, hb1⟩)
          have hb2 := below_step HK.out.2.2 (below_step (below_alloc (below_alloc (Below.refl _ _) _) _) hb1)
          go_roundw
          case rel => exact ⟨k + 1, by go_num, by omega, all_next HK.out.2.1 (by rw [HX.out, HY.out]; exact HQ.out), hb2⟩
          case measure => simp [intOf]; omega
        | false =>
          rw [hp] at hcall
          have HQ := Aside0.mk hp; clear hp
          go_wp2_with (go_at_fn g; refine (hcall.out _ (below_alloc (below_alloc (Below.refl _ _) _) _)).mono ?_; rintro e w1 ⟨rfl, hb1⟩)
          go_ret
          exact ⟨by rw [eqf_hit k hlt (by rw [HX.out, HY.out]; exact HQ.out)]; rfl, below_step HK.out.2.2 (below_step (below_alloc (below_alloc (Below.refl _ _) _) _) hb1)⟩
      · have hlt2 : ¬ k < l1.length := by have := HLEN.out; omega
        go_wp2
        go_ret
        exact ⟨by rw [eqf_all HLEN.out (fun i hi => HK.out.2.1 i (by omega))]; rfl, HK.out.2.2⟩
  · have HE := Aside0.mk (eqf_len (p := p) (z := zSchema) hlen)
    go_enter Try.func42, Try.ntmps42
    go_wp2
    go_ret
    exact ⟨by rw [HE.out]; rfl, Below.refl _ _⟩

end Go.Proofs.Ytbgdamlidohfhaa.P
