/- RegistryGrows, about lists alone: what is found of a name is found again, behind one more, with as many fields, or more, which begin by the same ones; no condition. -/
import Derived.Test.YtbgdamlidohfhaaQRegistryGrows
import Derived.Test.YtbgdamlidohfhaaF7
namespace Go.Proofs.Ytbgdamlidohfhaa.P
open Go.RowKit Go.Proofs.YtbgdamlidohfhaaW.PrintWords Go.Proofs.YtbgdamlidohfhaaW.PrintLast Go.Proofs.YtbgdamlidohfhaaW.PrintMore

theorem awake07 {k : Nat} (h : 100 ≤ k) : towncrierlaw07_awake.f k = some true :=
  at_rounds (fun k => towncrierlaw07_awake.mono k) h (by decide +kernel)
theorem grows_loop (o : SSchema) (n : SSchema) (hl : o.f2.length ≤ n.f2.length) (hb : o.f2.length < 4611686018427387904) (h : ∀ i, i < o.f2.length → eqField (o.f2.getD i zField) (n.f2.getD i zField) = true) : ∀ (d i k : Nat), i + d = o.f2.length → d < k →
    towncrierlaw07_RegistryGrows.l0 k (i : Int) o.f0 o.f1 o.f2 n.f0 n.f1 n.f2 = some true := by
  intro d
  induction d with
  | zero =>
    intro i k hi hk
    obtain ⟨k, rfl⟩ := rounds_of hk
    simp only [towncrierlaw07_RegistryGrows.l0]
    rw [if_neg (by omega)]
  | succ d ih =>
    intro i k hi hk
    obtain ⟨k, rfl⟩ := rounds_of hk
    simp only [towncrierlaw07_RegistryGrows.l0]
    obtain ⟨e1, e2⟩ := eqField_iff.1 (h i (by omega))
    rw [if_pos (by omega), if_pos (by omega), if_pos (by omega), wrap_succ (by omega), show rd_TField n.f2 (i : Int) = n.f2.getD i zField from rfl, show rd_TField o.f2 (i : Int) = o.f2.getD i zField from rfl, e1, e2, if_neg (by simp)]
    exact ih (i + 1) k (by omega) (by omega)
theorem grows_end (o n : SSchema) (hv : o.f1 ≤ n.f1) (hl : o.f2.length ≤ n.f2.length) (hb : o.f2.length < 5864062014805) (h : ∀ i, i < o.f2.length → eqField (o.f2.getD i zField) (n.f2.getD i zField) = true) {k : Nat} (hk : 5900000000000 < k) :
    towncrierlaw07_RegistryGrows.j1 k true false o.f0 o.f1 o.f2 n.f0 n.f1 n.f2 = some true := by
  obtain ⟨k, rfl⟩ : ∃ m, k = m + 2 := ⟨k - 2, by omega⟩
  simp only [towncrierlaw07_RegistryGrows.j1, Bool.false_eq_true, if_false, if_true]
  rw [if_neg (by omega), decide_eq_false (by omega)]
  simp only [towncrierlaw07_RegistryGrows.j2, Bool.false_eq_true, if_false]
  exact grows_loop o n hl (by omega) h o.f2.length 0 k (by omega) (by omega)
theorem grows_not (b : Bool) (x1 x4 : ByteArray) (x2 x5 : Int) (x3 x6 : List SField) {k : Nat} (hk : 0 < k) : towncrierlaw07_RegistryGrows.j1 k b true x1 x2 x3 x4 x5 x6 = some true := by
  obtain ⟨k, rfl⟩ := rounds_of hk
  rfl
theorem RegistryGrows : RegistryGrows.Pure := by
  intro x0 x1 x2 w0 w1 w2
  obtain ⟨m, hm⟩ : ∃ m, m + 1 = 7000000001000 := ⟨7000000000999, by omega⟩
  refine ⟨7000000001000, ?_⟩
  obtain ⟨b0, hb0, hl0⟩ := few7_some x0 (k := 7000000001000) (by omega)
  obtain ⟨b1, hb1, _⟩ := few5_some x1.f0 x1.f1 x1.f2 (k := 7000000001000) (by omega)
  have hj : ∀ t, t = true → towncrierlaw07_RegistryGrows.j0 7000000001000 x0 x2 true t x1.f0 x1.f1 x1.f2 = some true := by
    intro t ht
    subst ht
    rw [← hm]
    rfl
  unfold towncrierlaw07_RegistryGrows.f
  rw [awake07 (by omega), hb0, hb1]
  simp only [Option.bind_some, if_true]
  cases b0 with
  | false => exact hj _ rfl
  | true =>
    rw [if_pos rfl]
    have hl := hl0 rfl
    cases b1 with
    | false => exact hj _ rfl
    | true =>
      rw [if_pos rfl]
      by_cases h1 : (x2.size : Int) > 60
      · rw [decide_eq_true h1]; exact hj _ rfl
      · rw [decide_eq_false h1, ← hm]
        simp only [towncrierlaw07_RegistryGrows.j0, Bool.false_eq_true, if_false]
        rw [add_is x0 x1 (by omega) w0.2 w1 (by omega)]
        simp only [Option.bind_some]
        have hw2 := addOf_wf w0.2 w1
        have hf : ∀ L : List SSchema, (∀ y ∈ L, wfSchema y) → ∃ q, registry_Find.f L x2 = some q := by
          intro L hL
          by_cases h : atOf L x2 < 0
          · exact ⟨_, find_none h⟩
          · obtain ⟨i, e, hi, _⟩ := atOf_some (by omega : 0 ≤ atOf L x2)
            exact ⟨_, find_some hL e hi⟩
        obtain ⟨q2, hq2⟩ := hf _ hw2
        by_cases h2 : atOf x0 x2 < 0
        · rw [find_none h2, hq2]
          simp only [Option.bind_some]
          split
          · exact grows_not _ _ _ _ _ _ _ (by omega)
          · exact grows_not _ _ _ _ _ _ _ (by omega)
        · obtain ⟨j, e, hjl, hjn, _⟩ := atOf_some (by omega : 0 ≤ atOf x0 x2)
          have hwj := getD_mem w0.2 zSchema hjl
          have hfj := fields_few hwj
          by_cases h3 : (addOf x0 x1).2 = 0
          · obtain ⟨_, _, ⟨_, _, _, h4⟩ | ⟨i, h4, h5, h6, h7, h8⟩⟩ := addOf_ok h3
            · obtain ⟨e2, e3⟩ := atOf_snoc (s := x1) e
              rw [h4] at hw2 ⊢
              rw [find_some w0.2 e hjl, find_some hw2 e2 (by simp; omega), e3]
              simp only [Option.bind_some, if_true, Bool.not_true]
              exact grows_end _ _ (by omega) (by omega) hfj (fun _ _ => eqField_iff.2 ⟨rfl, rfl⟩) (by omega)
            · have e2 : atOf (x0.set i x1) x2 = (j : Int) := by rw [atOf_set h5 h6]; exact e
              rw [h8] at hw2 ⊢
              rw [find_some w0.2 e hjl, find_some hw2 e2 (by simpa using hjl), getD_set _ _ _ _ _ h5]
              simp only [Option.bind_some, if_true, Bool.not_true]
              by_cases h9 : j = i
              · subst h9
                simp only [if_true]
                obtain ⟨_, _, g1, _, g2, g3⟩ := fitsB_iff.1 h7
                exact grows_end _ x1 (by omega) g1 hfj g3 (by omega)
              · rw [if_neg h9]
                exact grows_end _ _ (by omega) (by omega) hfj (fun _ _ => eqField_iff.2 ⟨rfl, rfl⟩) (by omega)
          · rw [find_some w0.2 e hjl, hq2]
            simp only [Option.bind_some]
            rw [if_neg h3]
            exact grows_not _ _ _ _ _ _ _ (by omega)
end Go.Proofs.Ytbgdamlidohfhaa.P
