/- Plain facts on the audit functions (layer 21), about lists alone; each under the conditions that it names. -/
import Derived.Test.YteiaoanfdkgmoaaF0
import Derived.Test.YteiaoanfdkgmoaaP11
import Derived.Test.YteiaoanfdkgmoaaP12
import Derived.Test.YteiaoanfdkgmoaaP14
import Derived.Test.YteiaoanfdkgmoaaP16
import Derived.Test.YteiaoanfdkgmoaaP23
import Derived.Test.YteiaoanfdkgmoaaP27
import Derived.Test.YteiaoanfdkgmoaaP5
import Derived.Test.YteiaoanfdkgmoaaP7
import Derived.Test.YteiaoanfdkgmoaaP9
namespace Go.Proofs.Yteiaoanfdkgmoaa.P
open Go.RowKit Go.Proofs.YteiaoanfdkgmoaaW.PrintWords Go.Proofs.YteiaoanfdkgmoaaW.PrintLast Go.Proofs.YteiaoanfdkgmoaaW.PrintMore

theorem awake21 {k : Nat} (h : 10 ≤ k) : towncrierlaw21_awake.f k = some true :=
  at_rounds (fun k => towncrierlaw21_awake.mono k) h (by decide +kernel)

theorem same21_loop (l : List SNote) (hl : l.length < 4611686018427387904) : ∀ (d i k : Nat), i + d = l.length → d < k → towncrierref21_Same.l0 k l l (i : Int) = some true := by
  intro d
  induction d with
  | zero =>
    intro i k hi hk
    obtain ⟨k, rfl⟩ := rounds_of hk
    simp only [towncrierref21_Same.l0]
    rw [if_neg (by omega)]
  | succ d ih =>
    intro i k hi hk
    obtain ⟨k, rfl⟩ := rounds_of hk
    simp only [towncrierref21_Same.l0]
    rw [if_pos (by omega), if_pos (by omega), if_pos (by omega), if_neg (by simp), wrap_succ (by omega)]
    exact ih (i + 1) k (by omega) (by omega)
theorem same21_refl (l : List SNote) (hl : l.length < 4611686018427387904) {k : Nat} (hk : l.length < k) : towncrierref21_Same.f k l l = some true := by
  unfold towncrierref21_Same.f
  rw [if_pos rfl]
  exact same21_loop l hl l.length 0 k (by omega) hk
theorem same12_loop (l : List SMatch) (hl : l.length < 4611686018427387904) : ∀ (d i k : Nat), i + d = l.length → d < k → towncrierref12_Same.l0 k l l (i : Int) = some true := by
  intro d
  induction d with
  | zero =>
    intro i k hi hk
    obtain ⟨k, rfl⟩ := rounds_of hk
    simp only [towncrierref12_Same.l0]
    rw [if_neg (by omega)]
  | succ d ih =>
    intro i k hi hk
    obtain ⟨k, rfl⟩ := rounds_of hk
    simp only [towncrierref12_Same.l0]
    rw [if_pos (by omega), if_pos (by omega), if_pos (by omega), if_neg (by simp), wrap_succ (by omega)]
    exact ih (i + 1) k (by omega) (by omega)
theorem same12_refl (l : List SMatch) (hl : l.length < 4611686018427387904) {k : Nat} (hk : l.length < k) : towncrierref12_Same.f k l l = some true := by
  unfold towncrierref12_Same.f
  rw [if_pos rfl]
  exact same12_loop l hl l.length 0 k (by omega) hk

theorem shift_loop (by_ : Int) : ∀ (B A : List SMatch) (k : Nat), B.length < k → A.length + B.length < 4611686018427387904 →
    audit_Shift.l0 k by_ (A ++ B) ((A.length + B.length : Nat) : Int) (A.length : Int) = some (A ++ B.map (shiftBy by_)) := by
  intro B
  induction B with
  | nil =>
    intro A k hk _
    obtain ⟨k, rfl⟩ := rounds_of hk
    simp only [audit_Shift.l0]
    rw [if_neg (by simp)]
    simp
  | cons x B ih =>
    intro A k hk hl
    obtain ⟨k, rfl⟩ := rounds_of hk
    simp only [List.length_cons] at hk hl
    simp only [audit_Shift.l0, List.length_cons]
    rw [if_pos (by omega), if_pos (by omega), if_pos (by simp; omega)]
    simp only [Option.bind_some, rd_TMatch, Int.toNat_natCast, getD_mid, set_mid]
    rw [wrap_succ (by omega)]
    have h := ih (A ++ [shiftBy by_ x]) k (by omega) (by simp; omega)
    rw [show (A ++ [shiftBy by_ x]).length = A.length + 1 from by simp, show A.length + 1 + B.length = A.length + (B.length + 1) from by omega] at h
    rw [List.append_assoc, List.append_assoc, List.singleton_append, List.singleton_append] at h
    rw [List.map_cons, ← h]
    rfl
theorem shift_is (l : List SMatch) (by_ : Int) (hl : l.length < 4398046511104) {k : Nat} (hk : l.length < k) : audit_Shift.f k l by_ = some (l.map (shiftBy by_)) := by
  unfold audit_Shift.f slices_Clone_api_Match.f
  rw [if_pos hl]
  simp only [Option.bind_some]
  have h := shift_loop by_ l [] k hk (by simp; omega)
  simpa using h

/-! ### Lines -/
/-- A line, note by note. -/
def lineG : List SNote → Int → Bool
  | [], _ => true
  | x :: l, n => if x.f2 = 0 then (x.f1 == wrap64 (n + 1)) && lineG l (wrap64 (n + 1)) else l.all fun y => y.f2 != 0
theorem idx_cons {α : Type} (p : α → Bool) (x : α) (l : List α) : idx p (x :: l) = if p x then 0 else if idx p l < 0 then -1 else idx p l + 1 := rfl
theorem idx_ge {α : Type} (p : α → Bool) (l : List α) : -1 ≤ idx p l := (idx_any p l).2
theorem idx_lt {α : Type} (p : α → Bool) : ∀ l : List α, idx p l < (l.length : Int)
  | [] => by simp [idx]
  | x :: l => by
    have := idx_lt p l
    rw [idx_cons, List.length_cons]
    split
    · omega
    · split <;> omega
theorem lineN_ge (l : List SNote) : 0 ≤ lineN l := by unfold lineN; have := idx_ge (fun x : SNote => x.f2 != 0) l; split <;> omega
theorem lineN_cons (x : SNote) (l : List SNote) : lineN (x :: l) = if x.f2 = 0 then lineN l + 1 else 0 := by
  unfold lineN
  have h1 := idx_ge (fun x : SNote => x.f2 != 0) l
  by_cases h : x.f2 = 0
  · rw [if_pos h, idx_cons]
    simp only [h, bne_self_eq_false, Bool.false_eq_true, if_false, List.length_cons]
    by_cases h2 : idx (fun x : SNote => x.f2 != 0) l < 0
    · simp [h2]
    · simp only [h2, if_false]
      rw [if_neg (by omega)]
  · rw [if_neg h, idx_cons]
    simp [h]
theorem lineStep_succ (x : SNote) (l : List SNote) (a n : Int) (i : Nat) : lineStep (x :: l) a (n + 1) (i + 1) = lineStep l (wrap64 (a + 1)) n i := by
  unfold lineStep
  have e1 : (x :: l).getD (i + 1) zNote = l.getD i zNote := by simp [List.getD]
  have e2 : wrap64 (wrap64 (a + ((i + 1 : Nat) : Int)) + 1) = wrap64 (wrap64 (wrap64 (a + 1) + (i : Int)) + 1) := by unfold wrap64; omega
  have e3 : decide (n + 1 ≤ ((i + 1 : Nat) : Int)) = decide (n ≤ (i : Int)) := decide_eq_decide.mpr (by omega)
  rw [e1, e2, e3]
theorem lineStep_end (x : SNote) (l : List SNote) (a : Int) (i : Nat) : lineStep (x :: l) a 0 (i + 1) = ((l.getD i zNote).f2 != 0) := by
  unfold lineStep
  have e1 : (x :: l).getD (i + 1) zNote = l.getD i zNote := by simp [List.getD]
  rw [e1, decide_eq_true (by omega)]
  cases (l.getD i zNote).f2 != 0 <;> rfl
theorem lineStep_wrap (l : List SNote) (a n : Int) (i : Nat) : lineStep l (wrap64 a) n i = lineStep l a n i := by
  unfold lineStep
  have e2 : wrap64 (wrap64 (wrap64 a + (i : Int)) + 1) = wrap64 (wrap64 (a + (i : Int)) + 1) := by unfold wrap64; omega
  rw [e2]
theorem range_all_succ (p : Nat → Bool) (n : Nat) : (List.range (n + 1)).all p = (p 0 && (List.range n).all fun i => p (i + 1)) := by
  rw [List.range_succ_eq_map, List.all_cons, List.all_map]
  rfl
theorem all_getD {α : Type} (z : α) (p : α → Bool) : ∀ l : List α, ((List.range l.length).all fun i => p (l.getD i z)) = l.all p
  | [] => rfl
  | x :: l => by
    rw [List.length_cons, range_all_succ, List.all_cons]
    congr 1
    rw [← all_getD z p l]
    congr 1
theorem lineOf_G : ∀ (l : List SNote) (a : Int), lineOf l a = lineG l a
  | [], a => rfl
  | x :: l, a => by
    have ih := lineOf_G l (wrap64 (a + 1))
    have hn := lineN_ge l
    unfold lineOf at ih ⊢
    rw [lineN_cons, List.length_cons, range_all_succ, lineG]
    by_cases h : x.f2 = 0
    · rw [if_pos h, if_pos h, ← ih]
      simp only [lineStep_succ]
      congr 1
      unfold lineStep
      simp only [List.getD, List.getElem?_cons_zero, Option.getD_some, h]
      rw [decide_eq_false (by omega)]
      have : wrap64 (wrap64 (a + ((0 : Nat) : Int)) + 1) = wrap64 (a + 1) := by unfold wrap64; omega
      rw [this]
      simp [bne]
    · rw [if_neg h, if_neg h]
      simp only [lineStep_end]
      rw [all_getD zNote (fun y => y.f2 != 0) l]
      unfold lineStep
      simp [List.getD, h]
theorem lineG_wrap : ∀ (l : List SNote) (a : Int), lineG l (wrap64 a) = lineG l a
  | [], a => rfl
  | x :: l, a => by
    have : wrap64 (wrap64 a + 1) = wrap64 (a + 1) := by unfold wrap64; omega
    simp only [lineG, this]
theorem lineG_append : ∀ (a b : List SNote) (n : Int), (∀ x ∈ a, x.f2 = 0) → lineG (a ++ b) n = (lineG a n && lineG b (n + (a.length : Int)))
  | [], b, n, _ => by simp [lineG]
  | x :: a, b, n, h => by
    have hx := h x (by simp)
    have ih := lineG_append a b (wrap64 (n + 1)) (fun y hy => h y (by simp [hy]))
    rw [List.cons_append, lineG, lineG, if_pos hx, if_pos hx, ih, Bool.and_assoc]
    congr 2
    rw [← lineG_wrap b (wrap64 (n + 1) + _), ← lineG_wrap b (n + _)]
    congr 1
    rw [List.length_cons]
    unfold wrap64
    omega

/-! ### What is right -/
theorem neMatch_self (x : SMatch) : neMatch x x = false := by simp [neMatch]
theorem neMatch_ne {x y : SMatch} (h : neMatch x y = false) : x = y := by
  obtain ⟨a, b, c, d⟩ := x
  obtain ⟨a', b', c', d'⟩ := y
  simp [neMatch] at h
  simp [h]
end Go.Proofs.Yteiaoanfdkgmoaa.P
