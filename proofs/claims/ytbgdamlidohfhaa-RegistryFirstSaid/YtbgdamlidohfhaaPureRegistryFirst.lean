/- RegistryFirst, about lists alone: of a name that is not there just version 1 is added, as long as there is room; no condition. -/
import Derived.Test.YtbgdamlidohfhaaQRegistryFirst
import Derived.Test.YtbgdamlidohfhaaF7
namespace Go.Proofs.Ytbgdamlidohfhaa.P
open Go.RowKit Go.Proofs.YtbgdamlidohfhaaW.PrintWords Go.Proofs.YtbgdamlidohfhaaW.PrintLast Go.Proofs.YtbgdamlidohfhaaW.PrintMore

theorem awake07 {k : Nat} (h : 100 ≤ k) : towncrierlaw07_awake.f k = some true :=
  at_rounds (fun k => towncrierlaw07_awake.mono k) h (by decide +kernel)
theorem RegistryFirst : RegistryFirst.Pure := by
  intro x0 x1 w0 w1
  obtain ⟨m, hm⟩ : ∃ m, m + 1 = 6000000001000 := ⟨6000000000999, by omega⟩
  refine ⟨6000000001000, ?_⟩
  obtain ⟨b0, hb0, hl0⟩ := few7_some x0 (k := 6000000001000) (by omega)
  obtain ⟨b1, hb1, _⟩ := few5_some x1.f0 x1.f1 x1.f2 (k := 6000000001000) (by omega)
  have hf : ∃ q, registry_Find.f x0 x1.f0 = some q ∧ (q.2.2.2 = false → atOf x0 x1.f0 < 0) := by
    by_cases h : atOf x0 x1.f0 < 0
    · exact ⟨_, find_none h, fun _ => h⟩
    · obtain ⟨i, e, hi, _⟩ := atOf_some (by omega : 0 ≤ atOf x0 x1.f0)
      exact ⟨_, find_some w0.2 e hi, fun h2 => by simp at h2⟩
  obtain ⟨q, hq, hq2⟩ := hf
  have hj : ∀ t, t = true → towncrierlaw07_RegistryFirst.j0 6000000001000 x0 true t x1.f0 x1.f1 x1.f2 = some true := by
    intro t ht
    subst ht
    rw [← hm]
    rfl
  unfold towncrierlaw07_RegistryFirst.f
  rw [awake07 (by omega), hb0, hb1, hq]
  simp only [Option.bind_some, if_true]
  cases b0 with
  | false => exact hj _ rfl
  | true =>
    rw [if_pos rfl]
    have hl := hl0 rfl
    cases b1 with
    | false => exact hj _ rfl
    | true =>
      rw [if_pos rfl]
      by_cases h4 : q.2.2.2 = true
      · rw [if_pos h4]; exact hj _ rfl
      · rw [if_neg h4, may_is x0 (by omega) (by omega)]
        have hat := hq2 (by simpa using h4)
        simp only [Option.bind_some]
        cases h5 : mayAll x0 with
        | false => exact hj _ rfl
        | true =>
          rw [if_pos rfl]
          unfold schema_May.f
          simp only [Option.bind_some]
          cases h6 : mayB x1.f0 x1.f1 x1.f2 with
          | false => exact hj _ rfl
          | true =>
            have h6' : mayS x1 = true := h6
            rw [← hm]
            simp only [towncrierlaw07_RegistryFirst.j0, Bool.not_true, Bool.false_eq_true, if_false]
            rw [add_is x0 x1 (by omega) w0.2 w1 (by omega)]
            simp only [Option.bind_some]
            have hA : addOf x0 x1 = (if x1.f1 = 1 then (if x0.length = 8 then ([], 7) else (x0 ++ [x1], 0)) else ([], 5)) := by
              unfold addOf
              rw [if_pos ⟨h5, h6'⟩, if_pos hat]
            rw [hA]
            have h8 := (mayAll_iff.1 h5).1
            by_cases h7 : x1.f1 = 1
            · simp only [if_pos h7]
              by_cases h9 : x0.length = 8
              · simp [h9]
              · simp only [if_neg h9]
                have e : wrap64 ((x0.length : Int) + 1) = (x0.length : Int) + 1 := by unfold wrap64; omega
                rw [e, if_pos (by simp), if_pos (by simp), if_pos (by omega)]
            · simp only [if_neg h7]
              rfl
end Go.Proofs.Ytbgdamlidohfhaa.P
