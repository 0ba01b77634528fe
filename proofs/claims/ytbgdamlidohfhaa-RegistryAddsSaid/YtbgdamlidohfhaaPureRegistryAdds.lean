/- RegistryAdds, about lists alone: schemas that may be stay so; what is added is found; each other one is as it was; added twice it is there already; no condition. -/
import Derived.Test.YtbgdamlidohfhaaQRegistryAdds
import Derived.Test.YtbgdamlidohfhaaF7
namespace Go.Proofs.Ytbgdamlidohfhaa.P
open Go.RowKit Go.Proofs.YtbgdamlidohfhaaW.PrintWords Go.Proofs.YtbgdamlidohfhaaW.PrintLast Go.Proofs.YtbgdamlidohfhaaW.PrintMore

theorem awake07 {k : Nat} (h : 100 ≤ k) : towncrierlaw07_awake.f k = some true :=
  at_rounds (fun k => towncrierlaw07_awake.mono k) h (by decide +kernel)
theorem addOf_zero {l : List SSchema} {s : SSchema} (h : (addOf l s).2 ≠ 0) : (addOf l s).1 = [] := by
  unfold addOf at h ⊢
  repeat' split
  all_goals simp_all
/-- What is added is found in its place; it may be, and each other one is as it was. -/
theorem adds_all {l : List SSchema} {s : SSchema} (h : (addOf l s).2 = 0) : mayAll (addOf l s).1 = true ∧ l.length ≤ (addOf l s).1.length ∧ (addOf l s).1.length ≤ l.length + 1 ∧ (∃ i : Nat, atOf (addOf l s).1 s.f0 = (i : Int) ∧ i < (addOf l s).1.length ∧ (addOf l s).1.getD i zSchema = s) ∧ ∀ i, i < l.length → (((addOf l s).1.getD i zSchema).f0.toList = (l.getD i zSchema).f0.toList ∧ ((l.getD i zSchema).f0.toList ≠ s.f0.toList → (addOf l s).1.getD i zSchema = l.getD i zSchema)) := by
  obtain ⟨hm, hs, ⟨h1, h2, h3, h4⟩ | ⟨i, h1, h2, h3, h5, h4⟩⟩ := addOf_ok h
  · rw [h4]
    have hall := (mayAll_iff.1 hm).2
    have hno := atOf_none h1
    have hL : ∀ n, n < l.length → (l ++ [s]).getD n zSchema = l.getD n zSchema := fun n hn => getD_left _ _ _ hn
    have hE : (l ++ [s]).getD l.length zSchema = s := getD_snoc _ _ _
    have hat : atOf (l ++ [s]) s.f0 = (l.length : Int) := atOf_is (by simp) (by rw [hE]) (fun j hj => by rw [hL j hj]; exact hno j hj)
    refine ⟨mayAll_iff.2 ⟨by simp; omega, fun i hi => ?_⟩, by simp, by simp, ⟨l.length, hat, by simp, hE⟩, fun i hi => ⟨by rw [hL i hi], fun _ => hL i hi⟩⟩
    simp only [List.length_append, List.length_singleton] at hi
    by_cases hi2 : i < l.length
    · rw [hL i hi2]
      exact ⟨(hall i hi2).1, (atOf_snoc (hall i hi2).2).1⟩
    · obtain rfl : i = l.length := by omega
      rw [hE]
      exact ⟨hs, hat⟩
  · rw [h4]
    have hall := (mayAll_iff.1 hm).2
    have hG : ∀ n, (l.set i s).getD n zSchema = if n = i then s else l.getD n zSchema := fun n => getD_set _ _ _ _ _ h2
    have hat : ∀ nm, atOf (l.set i s) nm = atOf l nm := fun nm => atOf_set h2 h3
    refine ⟨mayAll_iff.2 ⟨by rw [List.length_set]; exact (mayAll_iff.1 hm).1, fun n hn => ?_⟩, by simp, by simp, ⟨i, by rw [hat]; exact h1, by simpa using h2, by rw [hG, if_pos rfl]⟩, fun n hn => ⟨?_, fun hne => ?_⟩⟩
    · rw [List.length_set] at hn
      rw [hat, hG]
      by_cases e : n = i
      · rw [if_pos e, e]
        exact ⟨hs, h1⟩
      · rw [if_neg e]
        exact hall n hn
    · rw [hG]
      by_cases e : n = i
      · rw [if_pos e, e, h3]
      · rw [if_neg e]
    · rw [hG, if_neg]
      rintro rfl
      exact hne h3
theorem adds_twice {l : List SSchema} {s : SSchema} (h : (addOf l s).2 = 0) : (addOf (addOf l s).1 s).2 = 4 := by
  obtain ⟨hm, hs, _⟩ := addOf_ok h
  obtain ⟨h1, _, _, ⟨i, h2, h3, h4⟩, _⟩ := adds_all h
  generalize (addOf l s).1 = L at *
  unfold addOf
  rw [if_pos ⟨h1, hs⟩, h2, if_neg (by omega), Int.toNat_natCast, h4, if_pos (eqSchema_refl s)]
theorem adds_loop (l L : List SSchema) (s : SSchema) (hl : l.length ≤ 12) (hL : l.length ≤ L.length) (hw : ∀ y ∈ l, wfSchema y) (h : ∀ i, i < l.length → ((L.getD i zSchema).f0.toList = (l.getD i zSchema).f0.toList ∧ ((l.getD i zSchema).f0.toList ≠ s.f0.toList → L.getD i zSchema = l.getD i zSchema))) : ∀ (d i k : Nat), i + d = l.length → d + 6000000000000 < k →
    towncrierlaw07_RegistryAdds.l0 k l L (i : Int) s.f0 s.f1 s.f2 = some true := by
  intro d
  induction d with
  | zero =>
    intro i k hi hk
    obtain ⟨k, rfl⟩ := rounds_of (show 0 < k from by omega)
    simp only [towncrierlaw07_RegistryAdds.l0]
    rw [if_neg (by omega)]
  | succ d ih =>
    intro i k hi hk
    obtain ⟨k, rfl⟩ := rounds_of (show 0 < k from by omega)
    simp only [towncrierlaw07_RegistryAdds.l0]
    obtain ⟨e1, e2⟩ := h i (by omega)
    have hf := fields_few (getD_mem hw zSchema (show i < l.length from by omega))
    rw [if_pos (by omega), if_pos (by omega), wrap_succ (by omega), show rd_TSchema l (i : Int) = l.getD i zSchema from rfl, show rd_TSchema L (i : Int) = L.getD i zSchema from rfl]
    by_cases hn : (l.getD i zSchema).f0.toList = s.f0.toList
    · rw [if_pos hn, if_pos (by omega), if_pos e1]
      exact ih (i + 1) k (by omega) (by omega)
    · rw [if_neg hn, if_pos (by omega), e2 hn, schema_Same_is _ _ (by omega) (by omega), eqSchema_refl]
      simp only [Option.bind_some, if_true]
      exact ih (i + 1) k (by omega) (by omega)
theorem RegistryAdds : RegistryAdds.Pure := by
  intro x0 x1 w0 w1
  obtain ⟨m, hmm⟩ : ∃ m : Nat, m = 7000000000998 := ⟨_, rfl⟩
  refine ⟨m + 2, ?_⟩
  obtain ⟨b0, hb0, hl0⟩ := few7_some x0 (k := (m + 2)) (by omega)
  obtain ⟨b1, hb1, _⟩ := few5_some x1.f0 x1.f1 x1.f2 (k := (m + 2)) (by omega)
  have hj : ∀ t, t = true → towncrierlaw07_RegistryAdds.j0 (m + 2) x0 true t x1.f0 x1.f1 x1.f2 = some true := by
    intro t ht
    subst ht
    rfl
  unfold towncrierlaw07_RegistryAdds.f
  rw [awake07 (by omega), hb0, hb1]
  simp only [Option.bind_some, if_true]
  cases b0 with
  | false => exact hj _ rfl
  | true =>
    rw [if_pos rfl]
    have hl := hl0 rfl
    cases b1 with
    | false => exact hj _ rfl
    | true =>
      simp only [towncrierlaw07_RegistryAdds.j0, Bool.not_true, Bool.false_eq_true, if_false]
      rw [add_is x0 x1 (by omega) w0.2 w1 (by omega)]
      simp only [Option.bind_some]
      by_cases h3 : (addOf x0 x1).2 = 0
      · rw [if_pos h3]
        have hw2 := addOf_wf w0.2 w1
        have h4 := adds_twice h3
        obtain ⟨h5, h6, h7, ⟨i, h8, h9, h10⟩, h11⟩ := adds_all h3
        generalize (addOf x0 x1).1 = L at *
        have hfx := fields_few w1
        rw [find_some hw2 h8 h9, h10, add_is L x1 (by omega) hw2 w1 (by omega), may_is L (by omega) (by omega), h5]
        simp only [Option.bind_some, if_true]
        rw [schema_Same_is x1 x1 (by omega) (k := m + 1) (by omega), eqSchema_refl]
        simp only [Option.bind_some, if_true]
        rw [if_pos h4, if_neg (by unfold wrap64; omega), decide_eq_false (by omega)]
        simp only [towncrierlaw07_RegistryAdds.j1, Bool.false_eq_true, if_false]
        exact adds_loop x0 L x1 hl h6 w0.2 h11 x0.length 0 m (by omega) (by omega)
      · rw [if_neg h3, addOf_zero h3]
        rfl
end Go.Proofs.Ytbgdamlidohfhaa.P
