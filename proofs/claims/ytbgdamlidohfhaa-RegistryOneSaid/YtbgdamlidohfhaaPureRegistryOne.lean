/- RegistryOne, about lists alone: schemas that may be are one of each name; the one of a name is of it, and may be; of no other name there is one; no condition. -/
import Derived.Test.YtbgdamlidohfhaaQRegistryOne
import Derived.Test.YtbgdamlidohfhaaF7
namespace Go.Proofs.Ytbgdamlidohfhaa.P
open Go.RowKit Go.Proofs.YtbgdamlidohfhaaW.PrintWords Go.Proofs.YtbgdamlidohfhaaW.PrintLast Go.Proofs.YtbgdamlidohfhaaW.PrintMore

theorem awake07 {k : Nat} (h : 100 ≤ k) : towncrierlaw07_awake.f k = some true :=
  at_rounds (fun k => towncrierlaw07_awake.mono k) h (by decide +kernel)
theorem one_loop (l : List SSchema) (nm : ByteArray) (hl : l.length ≤ 12) (hw : ∀ y ∈ l, wfSchema y) (hm : mayAll l = true) : ∀ (d i k : Nat) (n : Int), i + d = l.length → d < k → n = (if 0 ≤ atOf l nm ∧ atOf l nm < (i : Int) then 1 else 0) →
    towncrierlaw07_RegistryOne.l0 k l nm n (i : Int) = some true := by
  have hall := (mayAll_iff.1 hm).2
  intro d
  induction d with
  | zero =>
    intro i k n hi hk hn
    obtain ⟨k, rfl⟩ := rounds_of hk
    simp only [towncrierlaw07_RegistryOne.l0]
    rw [if_neg (by omega)]
    by_cases h : atOf l nm < 0
    · rw [if_neg (by omega)] at hn
      subst hn
      rw [find_none h]
      simp [ByteArray.toList_eq]
    · obtain ⟨j, e, hj, hn1, _⟩ := atOf_some (by omega : 0 ≤ atOf l nm)
      rw [if_pos (by omega)] at hn
      subst hn
      rw [find_some hw e hj]
      have h1 := (hall j hj).1
      unfold mayS at h1
      simp only [Option.bind_some]
      rw [if_pos (by omega), if_pos (by decide), if_pos (by simp), if_pos hn1]
      unfold schema_May.f
      simp only [Option.bind_some]
      rw [if_pos h1]
  | succ d ih =>
    intro i k n hi hk hn
    obtain ⟨k, rfl⟩ := rounds_of hk
    simp only [towncrierlaw07_RegistryOne.l0]
    rw [if_pos (by omega), if_pos (by omega), wrap_succ (by omega), show rd_TSchema l (i : Int) = l.getD i zSchema from rfl]
    by_cases h : (l.getD i zSchema).f0.toList = nm.toList
    · have e : atOf l nm = (i : Int) := by rw [← atOf_name h]; exact (hall i (by omega)).2
      rw [if_pos h]
      rw [if_neg (by omega)] at hn
      subst hn
      exact ih (i + 1) k _ (by omega) (by omega) (by rw [if_pos (by omega)]; decide +kernel)
    · rw [if_neg h]
      refine ih (i + 1) k n (by omega) (by omega) ?_
      have e : atOf l nm ≠ (i : Int) := by
        intro e
        obtain ⟨j, e2, _, hn1, _⟩ := atOf_some (by omega : 0 ≤ atOf l nm)
        rw [e] at e2
        obtain rfl : i = j := by omega
        exact h hn1
      rw [hn]
      by_cases h2 : 0 ≤ atOf l nm ∧ atOf l nm < (i : Int)
      · rw [if_pos h2, if_pos (by omega)]
      · rw [if_neg h2, if_neg (by omega)]
theorem RegistryOne : RegistryOne.Pure := by
  intro x0 x1 w0 w1
  obtain ⟨m, hm⟩ : ∃ m, m + 1 = 1000 := ⟨999, by omega⟩
  refine ⟨1000, ?_⟩
  obtain ⟨b0, hb0, hl0⟩ := few7_some x0 (k := 1000) (by omega)
  have hj : ∀ t, t = true → towncrierlaw07_RegistryOne.j0 1000 x0 x1 true t = some true := by
    intro t ht
    subst ht
    rfl
  unfold towncrierlaw07_RegistryOne.f
  rw [awake07 (by omega), hb0]
  simp only [Option.bind_some, if_true]
  cases b0 with
  | false => exact hj _ rfl
  | true =>
    rw [if_pos rfl]
    have hl := hl0 rfl
    by_cases h1 : (x1.size : Int) > 60
    · rw [if_pos h1]; exact hj _ rfl
    · rw [if_neg h1, may_is x0 (by omega) (by omega)]
      simp only [Option.bind_some]
      cases h5 : mayAll x0 with
      | false => exact hj _ rfl
      | true =>
        rw [← hm]
        simp only [towncrierlaw07_RegistryOne.j0, Bool.not_true, Bool.false_eq_true, if_false]
        refine one_loop x0 x1 hl w0.2 h5 x0.length 0 m 0 (by omega) (by omega) ?_
        rw [if_neg (by omega)]
end Go.Proofs.Ytbgdamlidohfhaa.P
