/- Plain facts on the schemas' and the registry's functions (layers 5 and 7), about lists alone; each under the conditions that it names. -/
import Derived.Test.YtbgdamlidohfhaaF0
import Derived.Test.YtbgdamlidohfhaaK
import Derived.Test.YtbgdamlidohfhaaP11
import Derived.Test.YtbgdamlidohfhaaP14
import Derived.Test.YtbgdamlidohfhaaP15
import Derived.Test.YtbgdamlidohfhaaP17
import Derived.Test.YtbgdamlidohfhaaP19
import Derived.Test.YtbgdamlidohfhaaP20
import Derived.Test.YtbgdamlidohfhaaP5
import Derived.Test.YtbgdamlidohfhaaP8
namespace Go.Proofs.Ytbgdamlidohfhaa.P
open Go.RowKit Go.Proofs.YtbgdamlidohfhaaW.PrintWords Go.Proofs.YtbgdamlidohfhaaW.PrintLast Go.Proofs.YtbgdamlidohfhaaW.PrintMore

/-! ### Where one is -/
theorem idx_spec {α : Type} (p : α → Bool) (z : α) : ∀ (l : List α), 0 ≤ idx p l → ∃ i : Nat, idx p l = (i : Int) ∧ i < l.length ∧ p (l.getD i z) = true ∧ ∀ j, j < i → p (l.getD j z) = false
  | [], h => by simp [idx] at h
  | x :: l, h => by
    have e : idx p (x :: l) = if p x then 0 else if idx p l < 0 then -1 else idx p l + 1 := rfl
    rw [e] at h ⊢
    by_cases hp : p x = true
    · rw [if_pos hp]
      exact ⟨0, rfl, by simp, by simpa using hp, fun j hj => by omega⟩
    · rw [if_neg hp] at h ⊢
      by_cases h2 : idx p l < 0
      · rw [if_pos h2] at h; omega
      · rw [if_neg h2]
        obtain ⟨i, h3, h4, h5, h6⟩ := idx_spec p z l (by omega)
        refine ⟨i + 1, by omega, by simpa using h4, by simpa using h5, fun j hj => ?_⟩
        cases j with
        | zero => simpa using hp
        | succ j => simpa using h6 j (by omega)
theorem idx_neg {α : Type} (p : α → Bool) (z : α) (l : List α) (h : idx p l < 0) : ∀ i, i < l.length → p (l.getD i z) = false := by
  intro i hi
  cases hp : p (l.getD i z) with
  | false => rfl
  | true =>
    have h2 := (idx_any p l).1
    rw [decide_eq_false (by omega)] at h2
    have h3 : l.any p = true := List.any_eq_true.2 ⟨l.getD i z, by simp [List.getD, hi], hp⟩
    rw [h3] at h2
    exact absurd h2 (by simp)
theorem idx_at {α : Type} (p : α → Bool) (z : α) (l : List α) (i : Nat) (hi : i < l.length) (hp : p (l.getD i z) = true) (hj : ∀ j, j < i → p (l.getD j z) = false) : idx p l = (i : Int) := idx_skip p z l i hj hi hp
/-- Where one of a name is. -/
def atOf (l : List SSchema) (nm : ByteArray) : Int := idx (fun x : SSchema => x.f0.toList == nm.toList) l
theorem atOf_name {l : List SSchema} {a b : ByteArray} (h : a.toList = b.toList) : atOf l a = atOf l b := by unfold atOf; rw [h]
theorem atOf_some {l : List SSchema} {nm : ByteArray} (h : 0 ≤ atOf l nm) : ∃ i : Nat, atOf l nm = (i : Int) ∧ i < l.length ∧ (l.getD i zSchema).f0.toList = nm.toList ∧ ∀ j, j < i → (l.getD j zSchema).f0.toList ≠ nm.toList := by
  obtain ⟨i, h1, h2, h3, h4⟩ := idx_spec _ zSchema l h
  exact ⟨i, h1, h2, by simpa using h3, fun j hj => by have := h4 j hj; simpa using this⟩
theorem atOf_none {l : List SSchema} {nm : ByteArray} (h : atOf l nm < 0) : ∀ i, i < l.length → (l.getD i zSchema).f0.toList ≠ nm.toList := by
  intro i hi
  have := idx_neg _ zSchema l h i hi
  simpa using this
theorem atOf_is {l : List SSchema} {nm : ByteArray} {i : Nat} (hi : i < l.length) (h : (l.getD i zSchema).f0.toList = nm.toList) (hj : ∀ j, j < i → (l.getD j zSchema).f0.toList ≠ nm.toList) : atOf l nm = (i : Int) :=
  idx_at _ zSchema l i hi (by simpa using h) (fun j hj2 => by have := hj j hj2; simpa using this)
theorem atOf_not {l : List SSchema} {nm : ByteArray} (h : ∀ i, i < l.length → (l.getD i zSchema).f0.toList ≠ nm.toList) : atOf l nm = -1 :=
  idx_none _ zSchema l (fun i hi => by have := h i hi; simpa using this)

/-! ### May, and Find -/
def mayS (x : SSchema) : Bool := mayB x.f0 x.f1 x.f2
/-- May these be all schemas? -/
def mayAll (l : List SSchema) : Bool := decide (l.length ≤ 8) && (List.range l.length).all fun i => mayS (l.getD i zSchema) && decide (atOf l (l.getD i zSchema).f0 = (i : Int))
theorem mayAll_iff {l : List SSchema} : mayAll l = true ↔ l.length ≤ 8 ∧ ∀ i, i < l.length → mayS (l.getD i zSchema) = true ∧ atOf l (l.getD i zSchema).f0 = (i : Int) := by
  unfold mayAll
  simp only [Bool.and_eq_true, decide_eq_true_eq, List.all_eq_true, List.mem_range]
theorem may_loop (l : List SSchema) (hl : l.length < 4611686018427387904) : ∀ (d i k : Nat), i + d = l.length → d < k → (∀ j, j < i → (mayS (l.getD j zSchema) && decide (atOf l (l.getD j zSchema).f0 = (j : Int))) = true) →
    registry_May.l0 k l l (l.length : Int) (i : Int) = some (mayAll l) := by
  intro d
  induction d with
  | zero =>
    intro i k hi hk h
    obtain ⟨k, rfl⟩ := rounds_of hk
    simp only [registry_May.l0]
    rw [if_neg (by omega)]
    unfold mayAll
    rw [range_all_none _ _ (fun j hj => h j (by omega)), Bool.and_true]
    exact congrArg some (decide_eq_decide.2 (by omega))
  | succ d ih =>
    intro i k hi hk h
    obtain ⟨k, rfl⟩ := rounds_of hk
    simp only [registry_May.l0]
    rw [if_pos (by omega), if_pos (by omega), if_pos (by omega), wrap_succ (by omega)]
    rw [show rd_TSchema l (i : Int) = l.getD i zSchema from rfl]
    have hf : ∀ b, (mayS (l.getD i zSchema) && decide (atOf l (l.getD i zSchema).f0 = (i : Int))) = b → b = false → some false = some (mayAll l) := by
      intro b hb hb2
      subst hb2
      unfold mayAll
      rw [range_all_hit _ _ i (by omega) hb, Bool.and_false]
    unfold schema_May.f registry_at.f
    simp only [Option.bind_some]
    cases h1 : mayB (l.getD i zSchema).f0 (l.getD i zSchema).f1 (l.getD i zSchema).f2 with
    | false => exact hf false (by unfold mayS; rw [h1, Bool.false_and]) rfl
    | true =>
      rw [if_pos rfl]
      by_cases h2 : atOf l (l.getD i zSchema).f0 = (i : Int)
      · have h2' := h2
        unfold atOf at h2'
        rw [if_pos h2']
        exact ih (i + 1) k (by omega) (by omega) (all_next h (by unfold mayS; rw [h1, decide_eq_true h2]; rfl))
      · have h2' := h2
        unfold atOf at h2'
        rw [if_neg h2']
        exact hf false (by rw [decide_eq_false h2, Bool.and_false]) rfl
theorem may_is (l : List SSchema) (hl : l.length < 4611686018427387904) {k : Nat} (hk : l.length < k) : registry_May.f k l = some (mayAll l) :=
  may_loop l hl l.length 0 k (by omega) hk (fun j hj => by omega)
theorem fields_few {x : SSchema} (h : wfSchema x) : x.f2.length < 5864062014805 := by obtain ⟨_, _, h, _⟩ := h; omega
theorem own_is (x : SSchema) (h : wfSchema x) : registry_own.f x.f0 x.f1 x.f2 = some (x.f0, x.f1, x.f2) := by
  unfold registry_own.f slices_Clone_api_Field.f
  rw [if_pos (fields_few h)]
  rfl
theorem getD_mem {α : Type} {P : α → Prop} {l : List α} (h : ∀ y ∈ l, P y) (z : α) {i : Nat} (hi : i < l.length) : P (l.getD i z) := h _ (by simp [List.getD, hi])
theorem find_none {l : List SSchema} {nm : ByteArray} (h : atOf l nm < 0) : registry_Find.f l nm = some ((⟨#[]⟩ : ByteArray), 0, [], false) := by
  unfold registry_Find.f registry_at.f
  unfold atOf at h
  simp only [Option.bind_some]
  rw [if_pos h]
theorem find_some {l : List SSchema} {nm : ByteArray} {i : Nat} (hw : ∀ y ∈ l, wfSchema y) (h : atOf l nm = (i : Int)) (hi : i < l.length) : registry_Find.f l nm = some ((l.getD i zSchema).f0, (l.getD i zSchema).f1, (l.getD i zSchema).f2, true) := by
  unfold registry_Find.f registry_at.f
  unfold atOf at h
  simp only [Option.bind_some]
  rw [h, if_neg (by omega), if_pos (by omega), if_pos (by omega), show rd_TSchema l (i : Int) = l.getD i zSchema from rfl, own_is _ (getD_mem hw zSchema hi)]
  rfl

/-! ### Fits, and Add -/
def fitsB (x y : SSchema) : Bool := mayS x && (mayS y && (decide (x.f2.length ≤ y.f2.length) && eqSchema x ⟨y.f0, wrap64 (y.f1 - 1), y.f2.take x.f2.length⟩))
theorem fits_is (x y : SSchema) (hx : x.f2.length < 4611686018427387904) (hy : y.f2.length < 4611686018427387904) {k : Nat} (hk : x.f2.length < k) : schema_Fits.f k x.f0 x.f1 x.f2 y.f0 y.f1 y.f2 = some (fitsB x y) := by
  unfold schema_Fits.f schema_May.f fitsB mayS
  simp only [Option.bind_some]
  cases mayB x.f0 x.f1 x.f2
  · simp
  · rw [if_pos rfl]
    cases mayB y.f0 y.f1 y.f2
    · simp
    · rw [if_pos rfl]
      by_cases h : x.f2.length ≤ y.f2.length
      · rw [if_neg (by omega), if_pos (by omega), if_pos (by omega), decide_eq_true h, Int.toNat_natCast]
        have := schema_Same_is x ⟨y.f0, wrap64 (y.f1 - 1), y.f2.take x.f2.length⟩ (by omega) hk
        rw [this]
        rfl
      · rw [if_pos (by omega), decide_eq_false h]
        rfl
/-- What they are with one more, or why not. -/
def addOf (l : List SSchema) (s : SSchema) : List SSchema × Int :=
  if mayAll l = true ∧ mayS s = true then
    (if atOf l s.f0 < 0 then (if s.f1 = 1 then (if l.length = 8 then ([], 7) else (l ++ [s], 0)) else ([], 5))
     else if eqSchema (l.getD (atOf l s.f0).toNat zSchema) s = true then ([], 4)
     else if fitsB (l.getD (atOf l s.f0).toNat zSchema) s = true then (l.set (atOf l s.f0).toNat s, 0) else ([], 5))
  else ([], 1)
theorem add_loop (l : List SSchema) (s : SSchema) (a : Int) (hl : l.length < 2000000000) (hw : ∀ y ∈ l, wfSchema y) (hs : wfSchema s) (ha : a < (l.length : Int)) : ∀ (d i k : Nat), i + d = l.length → d < k →
    registry_Add.l0 k a (l.take i) l (l.length : Int) (i : Int) s.f0 s.f1 s.f2 = some (if a < 0 then l ++ [s] else l.set a.toNat s, 0) := by
  intro d
  induction d with
  | zero =>
    intro i k hi hk
    obtain ⟨k, rfl⟩ := rounds_of hk
    simp only [registry_Add.l0]
    rw [if_neg (by omega), List.take_of_length_le (by omega), own_is s hs]
    simp only [Option.bind_some]
    by_cases h : a < 0
    · rw [if_pos h, if_pos h, if_pos (by omega)]
    · rw [if_neg h, if_neg h, if_pos (by omega), if_pos (by omega)]
  | succ d ih =>
    intro i k hi hk
    obtain ⟨k, rfl⟩ := rounds_of hk
    simp only [registry_Add.l0]
    rw [if_pos (by omega), if_pos (by omega), if_pos (by omega), wrap_succ (by omega), show rd_TSchema l (i : Int) = l.getD i zSchema from rfl, own_is _ (getD_mem hw zSchema (by omega))]
    simp only [Option.bind_some]
    rw [if_pos (by rw [List.length_take]; omega)]
    have h := ih (i + 1) k (by omega) (by omega)
    rw [take_snoc zSchema l i (by omega)] at h
    exact h
theorem add_is (l : List SSchema) (s : SSchema) (hl : l.length < 2000000000) (hw : ∀ y ∈ l, wfSchema y) (hs : wfSchema s) {k : Nat} (hk : 6000000000000 < k) : registry_Add.f k l s.f0 s.f1 s.f2 = some (addOf l s) := by
  obtain ⟨k, rfl⟩ : ∃ m, k = m + 5 := ⟨k - 5, by omega⟩
  unfold registry_Add.f addOf
  rw [may_is l (by omega) (by omega)]
  simp only [Option.bind_some]
  cases h1 : mayAll l with
  | false => simp [registry_Add.j0]
  | true =>
    rw [if_pos rfl]
    unfold schema_May.f
    simp only [Option.bind_some]
    cases h2 : mayS s with
    | false =>
      have h2' := h2
      unfold mayS at h2'
      rw [h2']
      simp [registry_Add.j0]
    | true =>
      have h2' := h2
      unfold mayS at h2'
      rw [h2']
      rw [if_pos (by simp)]
      have ea : registry_at.f l s.f0 = some (atOf l s.f0) := rfl
      simp only [registry_Add.j0, Bool.not_true, Bool.false_eq_true, if_false, ea, Option.bind_some]
      by_cases h3 : atOf l s.f0 < 0
      · rw [if_pos h3, if_pos h3]
        simp only [registry_Add.j1]
        by_cases h4 : s.f1 = 1
        · rw [if_neg (by simp [h4]), if_pos h3, if_pos h4]
          simp only [registry_Add.j2]
          by_cases h5 : l.length = 8
          · rw [if_pos (by simp [h5]), if_pos h5]
          · rw [if_neg (by simp; omega), if_neg h5, if_neg (by omega)]
            simp only [registry_Add.j3, Bool.false_eq_true, if_false]
            rw [if_neg (by omega)]
            simp only [registry_Add.j4]
            have := add_loop l s (atOf l s.f0) hl hw hs (by omega) l.length 0 k (by omega) (by omega)
            rw [if_pos h3] at this
            exact this
        · rw [if_pos (by simpa using h4), if_neg h4]
      · rw [if_neg h3, if_neg h3]
        obtain ⟨i, e, hi, hn, _⟩ := atOf_some (by omega : 0 ≤ atOf l s.f0)
        rw [e] at h3 ⊢
        rw [Int.toNat_natCast]
        have hwi := getD_mem hw zSchema hi
        have hfi := fields_few hwi
        have hfs := fields_few hs
        simp only [registry_Add.j1, Bool.false_eq_true, if_false]
        rw [if_neg h3]
        simp only [registry_Add.j2, Bool.false_eq_true, if_false]
        rw [if_pos (by omega), if_pos (by omega), if_pos (by omega), show rd_TSchema l (i : Int) = l.getD i zSchema from rfl, schema_Same_is _ s (by omega) (by omega)]
        simp only [Option.bind_some, registry_Add.j3]
        cases h5 : eqSchema (l.getD i zSchema) s with
        | true => rfl
        | false =>
          simp only [Bool.false_eq_true, if_false]
          rw [if_pos (by omega), if_pos (by omega), if_pos (by omega), show rd_TSchema l (i : Int) = l.getD i zSchema from rfl, fits_is _ s (by omega) (by omega) (by omega)]
          simp only [Option.bind_some]
          cases h6 : fitsB (l.getD i zSchema) s with
          | false => rfl
          | true =>
            rw [if_pos rfl, if_pos rfl]
            simp only [registry_Add.j4]
            have := add_loop l s (i : Int) hl hw hs (by omega) l.length 0 (k + 0) (by omega) (by omega)
            rw [if_neg (by omega), Int.toNat_natCast] at this
            exact this

/-! ### What is the same, fits, and is added -/
theorem eqf_iff {α : Type} {p : α → α → Bool} {z : α} {a b : List α} : eqf p z a b = true ↔ a.length = b.length ∧ ∀ i, i < a.length → p (a.getD i z) (b.getD i z) = true := by
  unfold eqf
  simp only [Bool.and_eq_true, decide_eq_true_eq, List.all_eq_true, List.mem_range]
theorem eqField_iff {x y : SField} : eqField x y = true ↔ x.f0.toList = y.f0.toList ∧ x.f1 = y.f1 := by
  unfold eqField
  simp only [Bool.and_eq_true, beq_iff_eq]
theorem eqSchema_iff {x y : SSchema} : eqSchema x y = true ↔ x.f0.toList = y.f0.toList ∧ x.f1 = y.f1 ∧ x.f2.length = y.f2.length ∧ ∀ i, i < x.f2.length → eqField (x.f2.getD i zField) (y.f2.getD i zField) = true := by
  unfold eqSchema
  simp only [Bool.and_eq_true, decide_eq_true_eq, eqf_iff]
theorem eqSchema_refl (x : SSchema) : eqSchema x x = true := eqSchema_iff.2 ⟨rfl, rfl, rfl, fun _ _ => eqField_iff.2 ⟨rfl, rfl⟩⟩
theorem mayS_iff {x : SSchema} : mayS x = true ↔ nameB x.f0 = true ∧ 1 ≤ x.f1 ∧ x.f1 ≤ 1000 ∧ x.f2.length ≤ 6 ∧ ∀ i, i < x.f2.length → fieldOK x.f2 i = true := by
  unfold mayS mayB
  simp only [Bool.and_eq_true, decide_eq_true_eq, List.all_eq_true, List.mem_range]
theorem getD_take {α : Type} (l : List α) (z : α) (n i : Nat) (h : i < n) : (l.take n).getD i z = l.getD i z := by
  simp only [List.getD_eq_getElem?_getD, List.getElem?_take, if_pos h]
theorem fitsB_iff {x y : SSchema} : fitsB x y = true ↔ mayS x = true ∧ mayS y = true ∧ x.f2.length ≤ y.f2.length ∧ x.f0.toList = y.f0.toList ∧ x.f1 + 1 = y.f1 ∧ ∀ i, i < x.f2.length → eqField (x.f2.getD i zField) (y.f2.getD i zField) = true := by
  unfold fitsB
  simp only [Bool.and_eq_true, decide_eq_true_eq, eqSchema_iff]
  constructor
  · rintro ⟨h1, h2, h3, h4, h5, _, h7⟩
    obtain ⟨_, hy1, hy2, _⟩ := mayS_iff.1 h2
    refine ⟨h1, h2, h3, h4, ?_, fun i hi => ?_⟩
    · have h5 : x.f1 = wrap64 (y.f1 - 1) := h5
      unfold wrap64 at h5; omega
    · have := h7 i hi
      rwa [getD_take _ _ _ _ hi] at this
  · rintro ⟨h1, h2, h3, h4, h5, h7⟩
    obtain ⟨_, hy1, hy2, _⟩ := mayS_iff.1 h2
    refine ⟨h1, h2, h3, h4, ?_, ?_, fun i hi => ?_⟩
    · show x.f1 = wrap64 (y.f1 - 1)
      unfold wrap64; omega
    · show x.f2.length = (y.f2.take x.f2.length).length
      rw [List.length_take]; omega
    · show eqField (x.f2.getD i zField) ((y.f2.take x.f2.length).getD i zField) = true
      rw [getD_take _ _ _ _ hi]
      exact h7 i hi
theorem getD_set {α : Type} (l : List α) (z s : α) (i n : Nat) (hi : i < l.length) : (l.set i s).getD n z = if n = i then s else l.getD n z := by
  simp only [List.getD_eq_getElem?_getD, List.getElem?_set]
  by_cases h : i = n
  · subst h; simp [hi]
  · rw [if_neg h, if_neg (fun e => h e.symm)]
theorem getD_snoc {α : Type} (l : List α) (z s : α) : (l ++ [s]).getD l.length z = s := by simp
/-- What is added: behind all, or in its own name's place, which it fits. -/
theorem addOf_ok {l : List SSchema} {s : SSchema} (h : (addOf l s).2 = 0) : mayAll l = true ∧ mayS s = true ∧ ((atOf l s.f0 < 0 ∧ s.f1 = 1 ∧ l.length < 8 ∧ addOf l s = (l ++ [s], 0)) ∨ ∃ i : Nat, atOf l s.f0 = (i : Int) ∧ i < l.length ∧ (l.getD i zSchema).f0.toList = s.f0.toList ∧ fitsB (l.getD i zSchema) s = true ∧ addOf l s = (l.set i s, 0)) := by
  unfold addOf at h ⊢
  by_cases h1 : mayAll l = true ∧ mayS s = true
  · rw [if_pos h1] at h ⊢
    refine ⟨h1.1, h1.2, ?_⟩
    have h8 := (mayAll_iff.1 h1.1).1
    by_cases h2 : atOf l s.f0 < 0
    · rw [if_pos h2] at h ⊢
      left
      by_cases h3 : s.f1 = 1
      · rw [if_pos h3] at h ⊢
        by_cases h4 : l.length = 8
        · rw [if_pos h4] at h; simp at h
        · rw [if_neg h4] at h ⊢
          exact ⟨h2, h3, by omega, rfl⟩
      · rw [if_neg h3] at h; simp at h
    · rw [if_neg h2] at h ⊢
      right
      obtain ⟨i, e, hi, hn, _⟩ := atOf_some (by omega : 0 ≤ atOf l s.f0)
      rw [e, Int.toNat_natCast] at h ⊢
      by_cases h3 : eqSchema (l.getD i zSchema) s = true
      · rw [if_pos h3] at h; simp at h
      · rw [if_neg h3] at h ⊢
        by_cases h4 : fitsB (l.getD i zSchema) s = true
        · rw [if_pos h4] at h ⊢
          exact ⟨i, rfl, hi, hn, h4, rfl⟩
        · rw [if_neg h4] at h; simp at h
  · rw [if_neg h1] at h; simp at h
/-- What is added has the wished form, too. -/
theorem addOf_wf {l : List SSchema} {s : SSchema} (hw : ∀ y ∈ l, wfSchema y) (hs : wfSchema s) : ∀ y ∈ (addOf l s).1, wfSchema y := by
  unfold addOf
  repeat' split
  all_goals first
    | (intro y hy; simp at hy; done)
    | (intro y hy; simp at hy; rcases hy with hy | rfl; exact hw y hy; exact hs)
    | (intro y hy; rcases List.mem_or_eq_of_mem_set hy with hy | rfl; exact hw y hy; exact hs)
theorem atOf_snoc {l : List SSchema} {s : SSchema} {nm : ByteArray} {j : Nat} (h : atOf l nm = (j : Int)) : atOf (l ++ [s]) nm = (j : Int) ∧ (l ++ [s]).getD j zSchema = l.getD j zSchema := by
  obtain ⟨i, e, hi, hn, hj⟩ := atOf_some (l := l) (nm := nm) (by omega)
  obtain rfl : i = j := by omega
  have h1 : ∀ n, n < l.length → (l ++ [s]).getD n zSchema = l.getD n zSchema := fun n hn => getD_left _ _ _ hn
  refine ⟨atOf_is (by simp; omega) (by rw [h1 _ hi]; exact hn) (fun j hj2 => by rw [h1 _ (by omega)]; exact hj j hj2), h1 _ hi⟩
theorem atOf_set {l : List SSchema} {s : SSchema} {nm : ByteArray} {i : Nat} (hi : i < l.length) (he : (l.getD i zSchema).f0.toList = s.f0.toList) : atOf (l.set i s) nm = atOf l nm := by
  have h1 : ∀ n, ((l.set i s).getD n zSchema).f0.toList = (l.getD n zSchema).f0.toList := by
    intro n
    rw [getD_set _ _ _ _ _ hi]
    split
    · rename_i h; rw [h, he]
    · rfl
  by_cases h : atOf l nm < 0
  · have h2 := atOf_none h
    rw [atOf_not (l := l.set i s) (fun n hn => by rw [h1]; exact h2 n (by simpa using hn)), atOf_not h2]
  · obtain ⟨j, e, hj, hn, hjj⟩ := atOf_some (by omega : 0 ≤ atOf l nm)
    rw [e]
    exact atOf_is (by simpa using hj) (by rw [h1]; exact hn) (fun n hn => by rw [h1]; exact hjj n hn)

/-! ### Few -/
theorem few5_loop (x1 : ByteArray) (x2 : Int) (l : List SField) (hl : l.length < 4611686018427387904) : ∀ (d i k : Nat), i + d = l.length → d < k → ∃ b, towncrierlaw05_Few.l0 k (i : Int) x1 x2 l = some b := by
  intro d
  induction d with
  | zero =>
    intro i k hi hk
    obtain ⟨k, rfl⟩ := rounds_of hk
    simp only [towncrierlaw05_Few.l0]
    rw [if_neg (by omega)]
    exact ⟨_, rfl⟩
  | succ d ih =>
    intro i k hi hk
    obtain ⟨k, rfl⟩ := rounds_of hk
    simp only [towncrierlaw05_Few.l0]
    rw [if_pos (by omega), if_pos (by omega), wrap_succ (by omega)]
    split
    · exact ⟨_, rfl⟩
    · exact ih (i + 1) k (by omega) (by omega)
/-- At most 10 fields, if it is few. -/
theorem few5_some (x1 : ByteArray) (x2 : Int) (l : List SField) {k : Nat} (hk : 20 ≤ k) : ∃ b, towncrierlaw05_Few.f k x1 x2 l = some b ∧ (b = true → l.length ≤ 10) := by
  obtain ⟨k, rfl⟩ := rounds_of (show 0 < k from by omega)
  unfold towncrierlaw05_Few.f
  simp only [towncrierlaw05_Few.j0]
  split
  · exact ⟨_, rfl, by simp⟩
  · by_cases h : (l.length : Int) > 10
    · rw [decide_eq_true h]; exact ⟨_, rfl, by simp⟩
    · rw [decide_eq_false h]
      simp only [Bool.false_eq_true, if_false]
      obtain ⟨b, hb⟩ := few5_loop x1 x2 l (by omega) l.length 0 k (by omega) (by omega)
      exact ⟨b, hb, fun _ => by omega⟩
theorem few7_loop (l : List SSchema) (hl : l.length ≤ 12) : ∀ (d i k : Nat), i + d = l.length → d + 30 < k → ∃ b, towncrierlaw07_Few.l0 k l (i : Int) = some b := by
  intro d
  induction d with
  | zero =>
    intro i k hi hk
    obtain ⟨k, rfl⟩ := rounds_of (show 0 < k from by omega)
    simp only [towncrierlaw07_Few.l0]
    rw [if_neg (by omega)]
    exact ⟨_, rfl⟩
  | succ d ih =>
    intro i k hi hk
    obtain ⟨k, rfl⟩ := rounds_of (show 0 < k from by omega)
    simp only [towncrierlaw07_Few.l0]
    obtain ⟨b, hb, _⟩ := few5_some (rd_TSchema l (i : Int)).f0 (rd_TSchema l (i : Int)).f1 (rd_TSchema l (i : Int)).f2 (k := k) (by omega)
    rw [if_pos (by omega), if_pos (by omega), hb, wrap_succ (by omega)]
    simp only [Option.bind_some]
    split
    · exact ih (i + 1) k (by omega) (by omega)
    · exact ⟨_, rfl⟩
theorem few7_some (l : List SSchema) {k : Nat} (hk : 100 ≤ k) : ∃ b, towncrierlaw07_Few.f k l = some b ∧ (b = true → l.length ≤ 12) := by
  unfold towncrierlaw07_Few.f
  by_cases h : (l.length : Int) > 12
  · rw [if_pos h]; exact ⟨_, rfl, by simp⟩
  · rw [if_neg h]
    obtain ⟨b, hb⟩ := few7_loop l (by omega) l.length 0 k (by omega) (by omega)
    exact ⟨b, hb, fun _ => by omega⟩
end Go.Proofs.Ytbgdamlidohfhaa.P
