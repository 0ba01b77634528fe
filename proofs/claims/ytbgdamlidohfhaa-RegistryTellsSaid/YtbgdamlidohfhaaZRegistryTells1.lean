/- The contracts of the functions that RegistryTells reaches, the plain facts about them, and its walk (part 1): no condition but those that each theorem names. -/
import Derived.Test.YtbgdamlidohfhaaProg
import Derived.WalkKit
import Derived.Below
import Derived.Shelf.Abstract
import Derived.Laws.Cells
import Derived.Deep.LoopGhost
import Derived.WalkSpells
import Derived.Lib.SliceRun
import Derived.Laws.OwnMore
import Derived.IntWalk
import Derived.Test.YtbgdamlidohfhaaWWords
import Derived.Test.YtbgdamlidohfhaaWLast
import Derived.Test.YtbgdamlidohfhaaWMore
import Derived.Deep.Draws
import Derived.Deep.AppendLies
import Derived.Maps.AppendAt
import Derived.OwnWalk
import Derived.Laws.BytesArg
import Derived.Laws.MakeOwn
import Derived.Deep.OwnRows
import Derived.Tactics
import Derived.Lib.ConvBytes
import Derived.Laws.Slices
import Derived.KernelRfl
import Derived.RowKit3
import Derived.Deep.QuietTactic
import Derived.BigQuiet
import Derived.WideLaws
import Derived.Deep.DeepCutAuto
import Derived.Deep.CutBlock
import Derived.Deep.RegionHeld3
import Derived.Laws.Rows
import Derived.Lib.AppendStr
import Derived.ArgAppend
import Derived.Laws.IdiomCopy
import Derived.OrdersHeld
import Derived.Laws.BitsLemmas
import Derived.RowKit
import Derived.Laws.EntriesVeiled
import Derived.Deep.RegionLaw
import Derived.Test.YtbgdamlidohfhaaWTab
import Derived.Test.YtbgdamlidohfhaaWFour
import Derived.Test.YtbgdamlidohfhaaWQPut
import Derived.Test.YtbgdamlidohfhaaWApart
import Derived.Test.YtbgdamlidohfhaaWArr
import Derived.Test.YtbgdamlidohfhaaWZeros
import Derived.Test.YtbgdamlidohfhaaWFoot
import Derived.Test.YtbgdamlidohfhaaWKept
import Derived.Test.YtbgdamlidohfhaaWShare
import Derived.Test.YtbgdamlidohfhaaWN
import Derived.Test.YtbgdamlidohfhaaWFootNe
import Derived.Test.YtbgdamlidohfhaaWAt
import Derived.Test.YtbgdamlidohfhaaWEqStruct
import Derived.Test.YtbgdamlidohfhaaWRepsOne
import Derived.Test.YtbgdamlidohfhaaWInv
import Derived.Test.YtbgdamlidohfhaaWInvWords
import Derived.Test.YtbgdamlidohfhaaWGuard
import Derived.Test.YtbgdamlidohfhaaWNEv
import Derived.ChangeArms
import Derived.Deep.Slices
import Derived.SizedLaws
import Derived.ProofKit
set_option linter.unusedVariables false
set_option linter.unusedSimpArgs false
/- Plain lemmas on lists, and on what is read and called, that the contracts of this seat use: each holds under the conditions that it names. -/
namespace Go.Proofs.Ytbgdamlidohfhaa.P
open Go.RowKit Go.Proofs.YtbgdamlidohfhaaW.PrintWords Go.Proofs.YtbgdamlidohfhaaW.PrintLast Go.Proofs.YtbgdamlidohfhaaW.PrintMore

/-- Where the first element of which p holds is; -1: nowhere. -/
def idx {α : Type} (p : α → Bool) : List α → Int
  | [] => -1
  | x :: l => if p x then 0 else let r := idx p l; if r < 0 then -1 else r + 1
theorem idx_skip {α : Type} (p : α → Bool) (z : α) : ∀ (l : List α) (k : Nat), (∀ i, i < k → p (l.getD i z) = false) → k < l.length → p (l.getD k z) = true → idx p l = k
  | [], k, h, hk, hp => by simp at hk
  | x :: l, 0, h, hk, hp => by simp at hp; simp [idx, hp]
  | x :: l, k + 1, h, hk, hp => by
    have h0 := h 0 (by omega)
    have ih := idx_skip p z l k (fun i hi => by have := h (i + 1) (by omega); simpa using this) (by simpa using hk) (by simpa using hp)
    simp at h0
    simp [idx, h0, ih]; omega
theorem idx_none {α : Type} (p : α → Bool) (z : α) : ∀ (l : List α), (∀ i, i < l.length → p (l.getD i z) = false) → idx p l = -1
  | [], h => rfl
  | x :: l, h => by
    have h0 := h 0 (by simp)
    have ih := idx_none p z l (fun i hi => by have := h (i + 1) (by simp; omega); simpa using this)
    simp at h0
    simp [idx, h0, ih]
theorem idx_any {α : Type} (p : α → Bool) : ∀ l : List α, decide (0 ≤ idx p l) = l.any p ∧ -1 ≤ idx p l
  | [] => by simp [idx]
  | x :: l => by
    obtain ⟨h1, h2⟩ := idx_any p l
    cases h : p x with
    | true => simp [idx, h]
    | false =>
      rw [List.any_cons, h, Bool.false_or, ← h1]
      have e : idx p (x :: l) = if idx p l < 0 then -1 else idx p l + 1 := by simp [idx, h]
      rw [e]
      by_cases h3 : idx p l < 0
      · rw [if_pos h3]
        refine ⟨?_, by omega⟩
        rw [decide_eq_decide]; omega
      · rw [if_neg h3]
        refine ⟨?_, by omega⟩
        rw [decide_eq_decide]; omega
theorem take_snoc {α : Type} (z : α) (l : List α) (k : Nat) (h : k < l.length) : l.take (k + 1) = l.take k ++ [l.getD k z] := by
  rw [List.take_succ_eq_append_getElem h]; simp [List.getD, h]
theorem range_all_hit (p : Nat → Bool) (n k : Nat) (hk : k < n) (hp : p k = false) : (List.range n).all p = false := by
  rw [List.all_eq_false]
  exact ⟨k, List.mem_range.2 hk, by rw [hp]; simp⟩
theorem range_all_none (p : Nat → Bool) (n : Nat) (h : ∀ i, i < n → p i = true) : (List.range n).all p = true :=
  List.all_eq_true.2 fun i hi => h i (List.mem_range.1 hi)
theorem all_next {P : Nat → Prop} {k : Nat} (h : ∀ i, i < k → P i) (h2 : P k) : ∀ i, i < k + 1 → P i := by
  intro i hi
  by_cases h3 : i < k
  · exact h i h3
  · obtain rfl : i = k := by omega
    exact h2
theorem lit_i64 {n : Int} (h : (Lit.int .i64 n).wf = true) : -9223372036854775808 ≤ n ∧ n ≤ 9223372036854775807 := by
  have e1 : IntKind.min .i64 = -9223372036854775808 := rfl
  have e2 : IntKind.max .i64 = 9223372036854775807 := rfl
  simp only [Lit.wf, Bool.and_eq_true, decide_eq_true_eq, e1, e2] at h
  exact h
theorem wrap_succ {i : Nat} (h : i < 9223372036854775807) : wrap64 ((i : Int) + 1) = ((i + 1 : Nat) : Int) := by unfold wrap64; omega
theorem rounds_of {k d : Nat} (h : d < k) : ∃ m, k = m + 1 := ⟨k - 1, by omega⟩
theorem getD_mid {α : Type} (A B : List α) (x z : α) : (A ++ x :: B).getD A.length z = x := by simp [List.getD]
theorem set_mid {α : Type} (A B : List α) (x y : α) : (A ++ x :: B).set A.length y = A ++ y :: B := by simp
theorem getD_left {α : Type} (A B : List α) (z : α) {i : Nat} (h : i < A.length) : (A ++ B).getD i z = A.getD i z := by simp [List.getD, List.getElem?_append_left h]
/-- A number's bytes: groups of seven bits, the least ones first; 128 more where another one follows. -/
def lePut (n : Nat) : List Int := if n < 128 then [(n : Int)] else ((n % 128 + 128 : Nat) : Int) :: lePut (n / 128)
termination_by n
decreasing_by omega
theorem lePut_small {n : Nat} (h : n < 128) : lePut n = [(n : Int)] := by rw [lePut, if_pos h]
theorem lePut_more {n : Nat} (h : ¬ n < 128) : lePut n = ((n % 128 + 128 : Nat) : Int) :: lePut (n / 128) := by rw [lePut, if_neg h]
theorem lePut_few {n k a : Nat} (h : n * 128 ^ k ≤ a) (ha : a < 18446744073709551616) (hn : 1 ≤ n) : k ≤ 9 := by
  by_cases hk : k ≤ 9
  · exact hk
  · have h1 : 128 ^ 10 ≤ 128 ^ k := Nat.pow_le_pow_right (by decide) (by omega)
    have h2 : 128 ^ k ≤ n * 128 ^ k := Nat.le_mul_of_pos_left _ hn
    have h3 : (128 : Nat) ^ 10 = 1180591620717411303424 := by decide
    omega
theorem addr_add (a : Addr) (i j : Nat) : (a.add i).add j = a.add (i + j) := by
  unfold Addr.add
  by_cases hi : i = 0 <;> by_cases hj : j = 0 <;> simp [hi, hj, Nat.add_assoc]
theorem cell_past {W : World} {B i : Nat} {v : Value} (o : Obj) (h : W.cell? ⟨B, i, none⟩ = some v) : (W.alloc o).cell? ⟨B, i, none⟩ = some v :=
  (World.cell?_alloc_past _ _ _ (World.block_lt_of_cell? W _ h)).trans h
theorem cell_later {W : World} {a : Addr} {v : Value} (o : Obj) (h : W.cell? a = some v) : (W.alloc o).cell? a = some v :=
  pw_cell_below ((Below.refl W.heap.size W).alloc (Nat.le_refl _) o) h
def idxRel {α : Type} (p : α → Bool) (l0 : List α) (z : α) (w : World) (k : Nat) (w' : World) : Prop := k ≤ l0.length ∧ (∀ i, i < k → p (l0.getD i z) = false) ∧ Below w.heap.size w w'
def idxPost {α : Type} (p : α → Bool) (l0 : List α) (w : World) (e : Ending) (w' : World) : Prop := e = .returned (.int .i64 (idx p l0)) ∧ Below w.heap.size w w'
def boolPost (b : Bool) (w : World) (e : Ending) (w' : World) : Prop := e = .returned (.bool b) ∧ Below w.heap.size w w'
def rowPost {α : Type} (d : Kd α) (e : Nat) (l : List α) (w : World) (en : Ending) (w' : World) : Prop := ∃ v0_ : Value, en = .returned v0_ ∧ Kd.R d e w' w.heap.size (fun _ => True) v0_ l ∧ Below w.heap.size w w'
theorem C_none {α : Type} {d : Kd α} {w : World} {n : Nat} {l : List α} (h : Kd.C d w none n l) : l = [] := by
  obtain ⟨h1, h2, h3⟩ := h
  cases n with
  | zero => exact List.length_eq_zero_iff.1 h1
  | succ n => obtain ⟨ad, e, _⟩ := h3 (by omega); cases e
theorem Kd.R_empty {α : Type} (d : Kd α) (e : Nat) (w : World) (base : Nat) (hb : base ≤ w.heap.size) : Kd.R d e (w.alloc (.cells #[] e)) base (fun _ => True) (.slice (some ⟨w.heap.size, 0, none⟩) 0 0) [] :=
  ⟨fun _ _ => trivial, [], by simpa using World.ownsRow_lit (base := base) (e := e) (size := d.sz) w #[] 0 hb (Nat.zero_le _) (by simp), Reps.none _ _⟩
/-- A function value tells p of a value: whatever has been made since. -/
def Tells {α : Type} (P : Program) (d : Kd α) (g : Nat) (caps : Array Value) (p : α → Bool) (w : World) : Prop := ∀ x cs W, Below w.heap.size w W → d.K W x cs → Calls P g (#[.agg cs.toArray] ++ caps) W fun e w' => e = .returned (.bool (p x)) ∧ Below W.heap.size W w'
theorem Tells.below {α : Type} {P : Program} {d : Kd α} {g : Nat} {caps : Array Value} {p : α → Bool} {w w1 : World} (h : Tells P d g caps p w) (hb : Below w.heap.size w w1) : Tells P d g caps p w1 :=
  fun x cs W hW hK => h x cs W (below_step hb hW) hK
/-- A function value tells p of two values: whatever has been made since. -/
def Tells2 {α : Type} (P : Program) (d : Kd α) (g : Nat) (caps : Array Value) (p : α → α → Bool) (w : World) : Prop := ∀ x y cs ds W, Below w.heap.size w W → d.K W x cs → d.K W y ds → Calls P g (#[.agg cs.toArray, .agg ds.toArray] ++ caps) W fun e w' => e = .returned (.bool (p x y)) ∧ Below W.heap.size W w'
/-- Are two lists the same, one by one? -/
def eqf {α : Type} (p : α → α → Bool) (z : α) (a b : List α) : Bool := decide (a.length = b.length) && (List.range a.length).all fun i => p (a.getD i z) (b.getD i z)
theorem eqf_len {α : Type} {p : α → α → Bool} {z : α} {a b : List α} (h : ¬ a.length = b.length) : eqf p z a b = false := by
  unfold eqf
  rw [decide_eq_false h, Bool.false_and]
theorem eqf_hit {α : Type} {p : α → α → Bool} {z : α} {a b : List α} (k : Nat) (hk : k < a.length) (h : p (a.getD k z) (b.getD k z) = false) : eqf p z a b = false := by
  unfold eqf
  rw [range_all_hit _ _ k hk h, Bool.and_false]
theorem eqf_all {α : Type} {p : α → α → Bool} {z : α} {a b : List α} (hl : a.length = b.length) (h : ∀ i, i < a.length → p (a.getD i z) (b.getD i z) = true) : eqf p z a b = true := by
  unfold eqf
  rw [range_all_none _ _ h, decide_eq_true hl]
  rfl
theorem cells1 : ∀ cs : List Value, cs.length = 1 → ∃ c0, cs = [c0]
  | [c0], _ => ⟨c0, rfl⟩
theorem cells2 : ∀ cs : List Value, cs.length = 2 → ∃ c0 c1, cs = [c0, c1]
  | [c0, c1], _ => ⟨c0, c1, rfl⟩
theorem cells3 : ∀ cs : List Value, cs.length = 3 → ∃ c0 c1 c2, cs = [c0, c1, c2]
  | [c0, c1, c2], _ => ⟨c0, c1, c2, rfl⟩
theorem cells4 : ∀ cs : List Value, cs.length = 4 → ∃ c0 c1 c2 c3, cs = [c0, c1, c2, c3]
  | [c0, c1, c2, c3], _ => ⟨c0, c1, c2, c3, rfl⟩
theorem cells5 : ∀ cs : List Value, cs.length = 5 → ∃ c0 c1 c2 c3 c4, cs = [c0, c1, c2, c3, c4]
  | [c0, c1, c2, c3, c4], _ => ⟨c0, c1, c2, c3, c4, rfl⟩
theorem cells6 : ∀ cs : List Value, cs.length = 6 → ∃ c0 c1 c2 c3 c4 c5, cs = [c0, c1, c2, c3, c4, c5]
  | [c0, c1, c2, c3, c4, c5], _ => ⟨c0, c1, c2, c3, c4, c5, rfl⟩
theorem cells7 : ∀ cs : List Value, cs.length = 7 → ∃ c0 c1 c2 c3 c4 c5 c6, cs = [c0, c1, c2, c3, c4, c5, c6]
  | [c0, c1, c2, c3, c4, c5, c6], _ => ⟨c0, c1, c2, c3, c4, c5, c6, rfl⟩
theorem cells8 : ∀ cs : List Value, cs.length = 8 → ∃ c0 c1 c2 c3 c4 c5 c6 c7, cs = [c0, c1, c2, c3, c4, c5, c6, c7]
  | [c0, c1, c2, c3, c4, c5, c6, c7], _ => ⟨c0, c1, c2, c3, c4, c5, c6, c7, rfl⟩
theorem cells9 : ∀ cs : List Value, cs.length = 9 → ∃ c0 c1 c2 c3 c4 c5 c6 c7 c8, cs = [c0, c1, c2, c3, c4, c5, c6, c7, c8]
  | [c0, c1, c2, c3, c4, c5, c6, c7, c8], _ => ⟨c0, c1, c2, c3, c4, c5, c6, c7, c8, rfl⟩
theorem cells10 : ∀ cs : List Value, cs.length = 10 → ∃ c0 c1 c2 c3 c4 c5 c6 c7 c8 c9, cs = [c0, c1, c2, c3, c4, c5, c6, c7, c8, c9]
  | [c0, c1, c2, c3, c4, c5, c6, c7, c8, c9], _ => ⟨c0, c1, c2, c3, c4, c5, c6, c7, c8, c9, rfl⟩
theorem cells11 : ∀ cs : List Value, cs.length = 11 → ∃ c0 c1 c2 c3 c4 c5 c6 c7 c8 c9 c10, cs = [c0, c1, c2, c3, c4, c5, c6, c7, c8, c9, c10]
  | [c0, c1, c2, c3, c4, c5, c6, c7, c8, c9, c10], _ => ⟨c0, c1, c2, c3, c4, c5, c6, c7, c8, c9, c10, rfl⟩
theorem cells12 : ∀ cs : List Value, cs.length = 12 → ∃ c0 c1 c2 c3 c4 c5 c6 c7 c8 c9 c10 c11, cs = [c0, c1, c2, c3, c4, c5, c6, c7, c8, c9, c10, c11]
  | [c0, c1, c2, c3, c4, c5, c6, c7, c8, c9, c10, c11], _ => ⟨c0, c1, c2, c3, c4, c5, c6, c7, c8, c9, c10, c11, rfl⟩
theorem cells13 : ∀ cs : List Value, cs.length = 13 → ∃ c0 c1 c2 c3 c4 c5 c6 c7 c8 c9 c10 c11 c12, cs = [c0, c1, c2, c3, c4, c5, c6, c7, c8, c9, c10, c11, c12]
  | [c0, c1, c2, c3, c4, c5, c6, c7, c8, c9, c10, c11, c12], _ => ⟨c0, c1, c2, c3, c4, c5, c6, c7, c8, c9, c10, c11, c12, rfl⟩
theorem cells14 : ∀ cs : List Value, cs.length = 14 → ∃ c0 c1 c2 c3 c4 c5 c6 c7 c8 c9 c10 c11 c12 c13, cs = [c0, c1, c2, c3, c4, c5, c6, c7, c8, c9, c10, c11, c12, c13]
  | [c0, c1, c2, c3, c4, c5, c6, c7, c8, c9, c10, c11, c12, c13], _ => ⟨c0, c1, c2, c3, c4, c5, c6, c7, c8, c9, c10, c11, c12, c13, rfl⟩
end Go.Proofs.Ytbgdamlidohfhaa.P

/- The plain facts on whole numbers and rounds stand in the base; nothing here but the name; no condition. -/
namespace Go.Proofs.Ytbgdamlidohfhaa.P
open Go.RowKit Go.Proofs.YtbgdamlidohfhaaW.PrintWords Go.Proofs.YtbgdamlidohfhaaW.PrintLast Go.Proofs.YtbgdamlidohfhaaW.PrintMore

end Go.Proofs.Ytbgdamlidohfhaa.P

/- Plain lemmas on bytes: a number's groups of seven bits, read and written; each holds under the conditions that it names. -/
namespace Go.Proofs.Ytbgdamlidohfhaa.P
open Go.RowKit Go.Proofs.YtbgdamlidohfhaaW.PrintWords Go.Proofs.YtbgdamlidohfhaaW.PrintLast Go.Proofs.YtbgdamlidohfhaaW.PrintMore

/-- A number that bytes begin by, and how many of them it takes; i of them are gone, which come to acc. -/
def getNAux (i acc : Nat) : List Int → Option (Nat × Nat)
  | [] => none
  | c :: l => if 10 ≤ i then none else if 128 ≤ c then getNAux (i + 1) (acc + c.toNat % 128 * 128 ^ i) l else if (0 < i ∧ c = 0) ∨ (i = 9 ∧ 1 < c) then none else some (acc + c.toNat * 128 ^ i, i + 1)
def getN (l : List Int) : Option (Nat × Nat) := getNAux 0 0 l
/-- The same, as the functions tell it. -/
def tellN : Option (Nat × Nat) → Int × Int × Bool
  | some (n, u) => ((n : Int), (u : Int), true)
  | none => (0, 0, false)
def byteL (l : List Int) : Prop := ∀ c ∈ l, 0 ≤ c ∧ c < 256
instance (l : List Int) : Decidable (byteL l) := inferInstanceAs (Decidable (∀ c ∈ l, 0 ≤ c ∧ c < 256))
theorem getNAux_late (acc : Nat) (l : List Int) {i : Nat} (h : 10 ≤ i) : getNAux i acc l = none := by
  cases l with
  | nil => rfl
  | cons c l => unfold getNAux; rw [if_pos h]
theorem getNAux_used : ∀ (l : List Int) (i acc n u : Nat), getNAux i acc l = some (n, u) → i < u ∧ u ≤ i + l.length ∧ u ≤ 10
  | [], i, acc, n, u, h => by simp [getNAux] at h
  | c :: l, i, acc, n, u, h => by
    unfold getNAux at h
    by_cases h1 : 10 ≤ i
    · rw [if_pos h1] at h; simp at h
    · rw [if_neg h1] at h
      by_cases h2 : 128 ≤ c
      · rw [if_pos h2] at h
        have := getNAux_used l _ _ _ _ h
        simp only [List.length_cons]
        omega
      · rw [if_neg h2] at h
        split at h
        · simp at h
        · simp only [Option.some.injEq, Prod.mk.injEq] at h
          simp only [List.length_cons]
          omega
theorem getN_used {l : List Int} {n u : Nat} (h : getN l = some (n, u)) : 1 ≤ u ∧ u ≤ l.length ∧ u ≤ 10 := by
  have := getNAux_used l 0 0 n u h
  omega
/-- What groups come to. -/
def leVal : List Int → Nat
  | [] => 0
  | c :: l => c.toNat % 128 + 128 * leVal l
theorem leVal_snoc : ∀ (l : List Int) (c : Int), leVal (l ++ [c]) = leVal l + c.toNat % 128 * 128 ^ l.length
  | [], c => by simp [leVal]
  | d :: l, c => by
    have ih := leVal_snoc l c
    simp only [List.cons_append, leVal, ih, List.length_cons, Nat.pow_succ]
    rw [Nat.mul_add, Nat.mul_comm (128 ^ l.length) 128, ← Nat.mul_assoc (c.toNat % 128) 128, Nat.mul_comm (c.toNat % 128) 128, Nat.mul_assoc 128]
    omega
theorem leVal_lt : ∀ l : List Int, leVal l < 128 ^ l.length
  | [] => by simp [leVal]
  | d :: l => by
    have ih := leVal_lt l
    simp only [leVal, List.length_cons, Nat.pow_succ]
    omega
theorem leVal_put (n : Nat) : leVal (lePut n) = n := by
  induction n using Nat.strongRecOn with
  | _ n ih =>
    by_cases h : n < 128
    · rw [lePut_small h]; simp [leVal]; omega
    · rw [lePut_more h]
      have := ih (n / 128) (by omega)
      simp only [leVal, this]
      omega
theorem lePut_byte (n : Nat) : byteL (lePut n) := by
  induction n using Nat.strongRecOn with
  | _ n ih =>
    intro c hc
    by_cases h : n < 128
    · rw [lePut_small h] at hc; simp at hc; omega
    · rw [lePut_more h] at hc
      rcases List.mem_cons.1 hc with rfl | hc
      · omega
      · exact ih (n / 128) (by omega) c hc
theorem lePut_pos (n : Nat) : 1 ≤ (lePut n).length := by
  by_cases h : n < 128
  · rw [lePut_small h]; simp
  · rw [lePut_more h]; simp
/-- Groups that go on, and a last one that is not nothing behind others, are a number's. -/
theorem lePut_val : ∀ (t : List Int) (c : Int), (∀ x ∈ t, 128 ≤ x ∧ x < 256) → 0 ≤ c → c < 128 → (t = [] ∨ c ≠ 0) → lePut (leVal (t ++ [c])) = t ++ [c]
  | [], c, _, h0, h1, _ => by
    have e : leVal ([] ++ [c]) = c.toNat := by simp [leVal]; omega
    rw [e, lePut_small (by omega)]
    simp; omega
  | d :: t, c, ht, h0, h1, h2 => by
    have hc : c ≠ 0 := by rcases h2 with h2 | h2; cases h2; exact h2
    have hd := ht d (by simp)
    have ih := lePut_val t c (fun x hx => ht x (by simp [hx])) h0 h1 (.inr hc)
    have hv : 1 ≤ leVal (t ++ [c]) := by
      rw [leVal_snoc]
      have h3 : 1 ≤ c.toNat % 128 := by omega
      have h4 : 0 < 128 ^ t.length := Nat.pow_pos (by decide)
      have : 1 * 128 ^ t.length ≤ c.toNat % 128 * 128 ^ t.length := Nat.mul_le_mul_right _ h3
      omega
    have e : leVal (d :: t ++ [c]) = d.toNat % 128 + 128 * leVal (t ++ [c]) := rfl
    rw [e, lePut_more (by omega)]
    rw [show (d.toNat % 128 + 128 * leVal (t ++ [c])) / 128 = leVal (t ++ [c]) from by omega, ih]
    simp only [List.cons_append, List.cons.injEq, and_true]
    omega
theorem lePut_last (n : Nat) : ∀ t : List Int, lePut n = t ++ [0] → t = [] := by
  induction n using Nat.strongRecOn with
  | _ n ih =>
    intro t h
    by_cases hn : n < 128
    · rw [lePut_small hn] at h
      have := congrArg List.length h
      simp at this
      exact this
    · rw [lePut_more hn] at h
      cases t with
      | nil =>
        have := congrArg List.length h
        have h2 := lePut_pos (n / 128)
        simp only [List.length_cons, List.nil_append, List.length_nil] at this
        omega
      | cons d t =>
        simp only [List.cons_append, List.cons.injEq] at h
        have h3 := ih (n / 128) (by omega) t h.2
        rw [h3] at h
        have h4 := congrArg leVal h.2
        rw [leVal_put] at h4
        simp [leVal] at h4
        omega
/-- What has come so far: groups that go on. -/
def leCont (t : List Int) : Prop := ∀ x ∈ t, 128 ≤ x ∧ x < 256
/-- A group that ends a number: it is as it would be put, or there is none. -/
theorem getN_end {t : List Int} {c : Int} {l : List Int} (ht : leCont t) (h0 : 0 ≤ c) (h1 : c < 128) (hl : t.length ≤ 9) :
    getNAux t.length (leVal t) (c :: l) = if lePut ((leVal (t ++ [c])) % 18446744073709551616) = t ++ [c] then some (leVal (t ++ [c]), t.length + 1) else none := by
  have hv := leVal_snoc t c
  have hm : c.toNat % 128 = c.toNat := by omega
  rw [hm] at hv
  unfold getNAux
  rw [if_neg (by omega), if_neg (by omega)]
  have hlt := leVal_lt t
  have hpl : 128 ^ t.length ≤ 128 ^ 9 := Nat.pow_le_pow_right (by decide) hl
  have h9 : (128 : Nat) ^ 9 = 9223372036854775808 := by decide
  have hval : ∀ m, lePut (m % 18446744073709551616) = t ++ [c] → m % 18446744073709551616 = leVal (t ++ [c]) := fun m h => by rw [← h, leVal_put]
  by_cases hc : 0 < t.length ∧ c = 0
  · rw [if_pos (.inl hc), if_neg]
    intro h
    rw [hc.2] at h
    have := lePut_last _ _ h
    simp [this] at hc
  · by_cases h9c : t.length = 9 ∧ 1 < c
    · rw [if_pos (.inr h9c), if_neg]
      intro h
      have h2 := hval _ h
      have h3 : 2 * 128 ^ t.length ≤ c.toNat * 128 ^ t.length := Nat.mul_le_mul_right _ (by omega)
      rw [h9c.1] at h3
      rw [h9c.1] at hv
      omega
    · rw [if_neg (by rintro (h | h); exact hc h; exact h9c h)]
      have hsmall : leVal (t ++ [c]) < 18446744073709551616 := by
        rw [hv]
        by_cases h8 : t.length = 9
        · have h3 : c.toNat * 128 ^ t.length ≤ 1 * 128 ^ t.length := Nat.mul_le_mul_right _ (by omega)
          rw [h8] at h3 hlt ⊢
          omega
        · have hpl8 : 128 ^ t.length ≤ 128 ^ 8 := Nat.pow_le_pow_right (by decide) (by omega)
          have h88 : (128 : Nat) ^ 8 = 72057594037927936 := by decide
          have hx : c.toNat * 128 ^ t.length ≤ 127 * 128 ^ t.length := Nat.mul_le_mul_right _ (by omega)
          omega
      rw [Nat.mod_eq_of_lt hsmall, if_pos, hv]
      refine lePut_val t c ht h0 h1 ?_
      by_cases h : t = []
      · exact .inl h
      · refine .inr (fun h2 => hc ⟨?_, h2⟩)
        cases t with
        | nil => exact absurd rfl h
        | cons _ _ => simp
theorem getN_more {t : List Int} {c : Int} {l : List Int} (hl : t.length ≤ 9) (h : 128 ≤ c) : getNAux t.length (leVal t) (c :: l) = getNAux (t ++ [c]).length (leVal (t ++ [c])) l := by
  rw [getNAux, if_neg (by omega), if_pos h, leVal_snoc, List.length_append, List.length_singleton]
theorem getNAux_put (n : Nat) : ∀ (t rest : List Int), leCont t → t.length ≤ 9 → leVal t + n * 128 ^ t.length < 18446744073709551616 → (t = [] ∨ n ≠ 0) → getNAux t.length (leVal t) (lePut n ++ rest) = some (leVal t + n * 128 ^ t.length, t.length + (lePut n).length) := by
  induction n using Nat.strongRecOn with
  | _ n ih =>
    intro t rest ht hl hb hz
    by_cases hn : n < 128
    · rw [lePut_small hn, List.singleton_append, getN_end ht (by omega) (by omega) hl]
      have hv : leVal (t ++ [(n : Int)]) = leVal t + n * 128 ^ t.length := by rw [leVal_snoc, Int.toNat_natCast, Nat.mod_eq_of_lt hn]
      rw [hv, Nat.mod_eq_of_lt hb, if_pos]
      · rfl
      · rw [← hv]
        exact lePut_val t _ ht (by omega) (by omega) (by rcases hz with h | h; exact .inl h; exact .inr (by omega))
    · rw [lePut_more hn, List.cons_append, getN_more hl (by omega)]
      have hv : leVal (t ++ [((n % 128 + 128 : Nat) : Int)]) = leVal t + n % 128 * 128 ^ t.length := by
        rw [leVal_snoc, Int.toNat_natCast, show (n % 128 + 128) % 128 = n % 128 from by omega]
      have hs : n % 128 * 128 ^ t.length + n / 128 * 128 ^ (t.length + 1) = n * 128 ^ t.length := by
        rw [Nat.pow_succ, Nat.mul_comm (128 ^ t.length) 128, ← Nat.mul_assoc, ← Nat.add_mul]
        congr 1
        omega
      have hlen : t.length < 9 := by
        by_cases h9 : t.length = 9
        · rw [h9] at hb
          have h3 : 128 * 128 ^ 9 ≤ n * 128 ^ 9 := Nat.mul_le_mul_right _ (by omega)
          have h99 : (128 : Nat) * 128 ^ 9 = 1180591620717411303424 := by decide
          omega
        · omega
      have h := ih (n / 128) (by omega) (t ++ [((n % 128 + 128 : Nat) : Int)]) rest (by
          intro x hx
          rcases List.mem_append.1 hx with hx | hx
          · exact ht x hx
          · simp at hx; omega) (by simp; omega) (by rw [hv]; simp only [List.length_append, List.length_singleton]; omega) (.inr (by omega))
      rw [h, hv]
      rw [show (t ++ [((n % 128 + 128 : Nat) : Int)]).length = t.length + 1 from by simp]
      simp only [List.length_cons, Option.some.injEq, Prod.mk.injEq]
      omega
/-- What is put is got, whatever stands behind. -/
theorem getN_put (n : Nat) (rest : List Int) (h : n < 18446744073709551616) : getN (lePut n ++ rest) = some (n, (lePut n).length) := by
  have := getNAux_put n [] rest (fun x hx => by simp at hx) (by simp) (by simpa [leVal] using h) (.inl rfl)
  simpa [leVal, getN] using this
theorem getNAux_some : ∀ (l t : List Int) (n u : Nat), byteL l → leCont t → getNAux t.length (leVal t) l = some (n, u) → n < 18446744073709551616 ∧ ∃ v, u = t.length + v ∧ v ≤ l.length ∧ t ++ l.take v = lePut n
  | [], t, n, u, _, _, h => by simp [getNAux] at h
  | c :: l, t, n, u, hb, ht, h => by
    by_cases h10 : 10 ≤ t.length
    · rw [getNAux_late _ _ h10] at h; simp at h
    · have hc := hb c (by simp)
      by_cases h2 : 128 ≤ c
      · rw [getN_more (by omega) h2] at h
        obtain ⟨h3, v, h4, h5, h6⟩ := getNAux_some l (t ++ [c]) n u (fun x hx => hb x (by simp [hx])) (by
          intro x hx
          rcases List.mem_append.1 hx with hx | hx
          · exact ht x hx
          · simp at hx; omega) h
        refine ⟨h3, v + 1, by simp at h4; omega, by simp; omega, by rw [← h6]; simp⟩
      · rw [getN_end ht hc.1 (by omega) (by omega)] at h
        by_cases h3 : lePut (leVal (t ++ [c]) % 18446744073709551616) = t ++ [c]
        · rw [if_pos h3] at h
          simp only [Option.some.injEq, Prod.mk.injEq] at h
          obtain ⟨rfl, rfl⟩ := h
          have h4 : leVal (t ++ [c]) % 18446744073709551616 = leVal (t ++ [c]) := by
            have := congrArg leVal h3
            rw [leVal_put] at this
            exact this
          rw [h4] at h3
          refine ⟨by omega, 1, rfl, by simp, ?_⟩
          rw [h3]
          simp
        · rw [if_neg h3] at h; simp at h
/-- What is got is put as the same bytes. -/
theorem getN_some {l : List Int} {n u : Nat} (hb : byteL l) (h : getN l = some (n, u)) : n < 18446744073709551616 ∧ u ≤ l.length ∧ l.take u = lePut n := by
  obtain ⟨h1, v, h2, h3, h4⟩ := getNAux_some l [] n u hb (fun x hx => by simp at hx) h
  simp only [List.length_nil, Nat.zero_add] at h2
  subst h2
  exact ⟨h1, h3, by simpa using h4⟩
def getPost (l : List Int) (w : World) (e : Ending) (w' : World) : Prop := e = .returned (.tuple #[.int .u64 (tellN (getN l)).1, .int .i64 (tellN (getN l)).2.1, .bool (tellN (getN l)).2.2]) ∧ Below w.heap.size w w'
theorem u64_mod (n : Nat) : IntKind.wrap .u64 (n : Int) = ((n % 18446744073709551616 : Nat) : Int) := by
  rw [show IntKind.wrap .u64 (n : Int) = (n : Int) % 18446744073709551616 from rfl]
  omega
theorem u64_small' {n : Nat} (h : n < 18446744073709551616) : IntKind.wrap .u64 (n : Int) = (n : Int) := by rw [u64_mod, Nat.mod_eq_of_lt h]
theorem u64_sum (a c p : Nat) : IntKind.wrap .u64 ((a : Int) + IntKind.wrap .u64 ((c : Int) % 128 * (p : Int))) = (((a + c % 128 * p) % 18446744073709551616 : Nat) : Int) := by
  have h1 : (c : Int) % 128 * (p : Int) = ((c % 128 * p : Nat) : Int) := by rw [Int.natCast_mul]; rfl
  rw [h1]
  generalize c % 128 * p = m
  rw [u64_mod]
  have h2 : (a : Int) + ((m % 18446744073709551616 : Nat) : Int) = ((a + m % 18446744073709551616 : Nat) : Int) := by omega
  rw [h2, u64_mod]
  omega
/-- May a sign stand at place i of a name? -/
def nameCh (i : Nat) (c : Int) : Bool := (decide (97 ≤ c) && decide (c ≤ 122)) || (decide (0 < i) && (c == 95 || (decide (48 ≤ c) && decide (c ≤ 57))))
def nameB (s : ByteArray) : Bool := ((List.range s.size).all fun i => nameCh i (bt s (i : Int))) && (decide (s.size ≠ 0) && decide (s.size ≤ 12))
/-! ### Bytes of a string -/
theorem bytesOf_byte (s : ByteArray) : byteL (bytesOf s) := by
  intro c hc
  obtain ⟨b, _, rfl⟩ := List.mem_map.1 hc
  have := UInt8.toNat_lt b
  omega
theorem bytesOf_str {l : List Int} (h : byteL l) : bytesOf (strOfNums l) = l := by
  unfold bytesOf strOfNums
  rw [List.map_map]
  conv => rhs; rw [← List.map_id l]
  refine List.map_congr_left (fun c hc => ?_)
  have := h c hc
  simp only [Function.comp, id]
  rw [UInt8.toNat_ofNat']
  omega
theorem str_bytesOf (s : ByteArray) : strOfNums (bytesOf s) = s := by
  unfold bytesOf strOfNums
  rw [List.map_map]
  have : s.data.toList.map ((fun n : Int => UInt8.ofNat n.toNat) ∘ fun b : UInt8 => (b.toNat : Int)) = s.data.toList := by
    conv => rhs; rw [← List.map_id s.data.toList]
    refine List.map_congr_left (fun c _ => ?_)
    simp
  rw [this]
theorem strOfNums_size (l : List Int) : (strOfNums l).size = l.length := by
  unfold strOfNums
  show (List.map _ l).toArray.size = _
  simp
theorem toList_inj {a b : ByteArray} (h : a.toList = b.toList) : a = b := by
  rw [ByteArray.toList_eq, ByteArray.toList_eq] at h
  have := Array.toList_inj.1 h
  cases a; cases b
  simpa using this
theorem str_inj {a b : List Int} (ha : byteL a) (hb : byteL b) (h : (strOfNums a).toList = (strOfNums b).toList) : a = b := by
  rw [← bytesOf_str ha, ← bytesOf_str hb, toList_inj h]
theorem byteL_take {l : List Int} (h : byteL l) (n : Nat) : byteL (l.take n) := fun c hc => h c (List.mem_of_mem_take hc)
theorem byteL_drop {l : List Int} (h : byteL l) (n : Nat) : byteL (l.drop n) := fun c hc => h c (List.mem_of_mem_drop hc)
theorem byteL_append {a b : List Int} (ha : byteL a) (hb : byteL b) : byteL (a ++ b) := fun c hc => by
  rcases List.mem_append.1 hc with h | h
  · exact ha c h
  · exact hb c h
/-- A text's bytes, behind how many they are. -/
def textL (s : ByteArray) : List Int := lePut s.size ++ bytesOf s
theorem textL_small {s : ByteArray} (h : s.size ≤ 12) : (textL s).length = s.size + 1 := by
  unfold textL
  rw [lePut_small (by omega), List.length_append, bytesOf_length]
  simp; omega
theorem lePut_short {n : Nat} (h : n < 16384) : (lePut n).length ≤ 2 := by
  by_cases h2 : n < 128
  · rw [lePut_small h2]; simp
  · rw [lePut_more h2, lePut_small (by omega)]; simp
/-- A row of the call's own, and whether it is one. -/
def rowBoolPost {α : Type} (d : Kd α) (e : Nat) (l : List α) (b : Bool) (w : World) (en : Ending) (w' : World) : Prop := ∃ v0_ : Value, en = .returned (.tuple #[v0_, .bool b]) ∧ Kd.R d e w' w.heap.size (fun _ => True) v0_ l ∧ Below w.heap.size w w'
/-- A block of slices, as a row of rows. -/
theorem C_rows {α : Type} {W : World} {B T e : Nat} {d : Kd α} (vs : List Value) (ls : List (List α)) (h : W.heap[B]? = some (.cells vs.toArray T (0, 0))) (hn : ls.length ≤ 9223372036854775807)
    (hk : ∀ (j : Nat) (l : List α), ls[j]? = some l → ∃ A c, vs[j]? = some (Value.slice A l.length c) ∧ l.length ≤ c ∧ Kd.C d W A l.length l) : Kd.C (Kd.slice e d) W (some ⟨B, 0, none⟩) ls.length ls := by
  refine ⟨rfl, hn, fun _ => ⟨_, rfl, fun j l hj => ?_⟩⟩
  obtain ⟨A, c, hv, hc, hr⟩ := hk j l hj
  refine ⟨[Value.slice A l.length c], rfl, ⟨A, c, rfl, hc, hr⟩, fun i u hu => ?_⟩
  cases i with
  | succ i => simp at hu
  | zero =>
    simp at hu
    subst hu
    rw [show (Kd.slice e d).sz = 1 from rfl, add_plain, Nat.mul_one, Nat.add_zero, blk_cell h]
    simpa using hv
theorem C_three {α : Type} {W : World} {B T e : Nat} {d : Kd α} {A1 A2 A3 : Option Addr} {l1 l2 l3 : List α} {c1 c2 c3 : Nat} (h : W.heap[B]? = some (.cells #[.slice A1 l1.length c1, .slice A2 l2.length c2, .slice A3 l3.length c3] T (0, 0)))
    (h1 : l1.length ≤ c1 ∧ Kd.C d W A1 l1.length l1) (h2 : l2.length ≤ c2 ∧ Kd.C d W A2 l2.length l2) (h3 : l3.length ≤ c3 ∧ Kd.C d W A3 l3.length l3) : Kd.C (Kd.slice e d) W (some ⟨B, 0, none⟩) 3 [l1, l2, l3] := by
  refine C_rows [.slice A1 l1.length c1, .slice A2 l2.length c2, .slice A3 l3.length c3] [l1, l2, l3] h (by simp) (fun j l hj => ?_)
  match j with
  | 0 => simp at hj; subst hj; exact ⟨A1, c1, rfl, h1⟩
  | 1 => simp at hj; subst hj; exact ⟨A2, c2, rfl, h2⟩
  | 2 => simp at hj; subst hj; exact ⟨A3, c3, rfl, h3⟩
  | j + 3 => simp at hj
theorem C_two {α : Type} {W : World} {B T e : Nat} {d : Kd α} {A1 A2 : Option Addr} {l1 l2 : List α} {c1 c2 : Nat} (h : W.heap[B]? = some (.cells #[.slice A1 l1.length c1, .slice A2 l2.length c2] T (0, 0)))
    (h1 : l1.length ≤ c1 ∧ Kd.C d W A1 l1.length l1) (h2 : l2.length ≤ c2 ∧ Kd.C d W A2 l2.length l2) : Kd.C (Kd.slice e d) W (some ⟨B, 0, none⟩) 2 [l1, l2] := by
  refine C_rows [.slice A1 l1.length c1, .slice A2 l2.length c2] [l1, l2] h (by simp) (fun j l hj => ?_)
  match j with
  | 0 => simp at hj; subst hj; exact ⟨A1, c1, rfl, h1⟩
  | 1 => simp at hj; subst hj; exact ⟨A2, c2, rfl, h2⟩
  | j + 2 => simp at hj
theorem CC_below {α : Type} {d : Kd α} {w w1 : World} {A : Option Addr} {n c : Nat} {l : List α} (hb : Below w.heap.size w w1) (h : n ≤ c ∧ Kd.C d w A n l) : n ≤ c ∧ Kd.C d w1 A n l := ⟨h.1, Kd.C_below h.2 hb⟩
theorem C_one {W w2 : World} {B T : Nat} {k : IntKind} {x : Int} (h : W.heap[B]? = some (.cells #[.int k x] T (0, 0))) : ReadsRow ((Kd.int k).K w2) (Kd.int k).sz W (some ⟨B, 0, none⟩) 1 [x] := by
  refine ⟨rfl, by decide, fun _ => ⟨_, rfl, fun j l hj => ?_⟩⟩
  match j with
  | j + 1 => simp at hj
  | 0 =>
    simp at hj
    subst hj
    refine ⟨[.int k x], rfl, rfl, fun i u hu => ?_⟩
    match i with
    | i + 1 => simp at hu
    | 0 =>
      simp at hu
      subst hu
      rw [Nat.zero_mul, add_plain, blk_cell h]
      rfl
theorem ne_own {α : Type} {d : Kd α} {e : Nat} {w W : World} {base : Nat} {ok : Nat → Prop} {v : Value} {l : List α} (h : d.R e w base ok v l) (hw : w.heap.size ≤ W.heap.size) : some W.heap.size ≠ v.ownBlock :=
  fun hk => absurd (own_lt (Kd.R_own h).choose_spec _ hk.symm) (by omega)
theorem ne_at {b n : Nat} {v v1 : Value} (h : some b ≠ v.ownBlock) (hat : v1.ownBlock = v.ownBlock ∨ ∃ c, v1.ownBlock = some c ∧ n ≤ c) (hn : b < n) : some b ≠ v1.ownBlock := by
  rcases hat with e | ⟨c, e, hc⟩
  · rw [e]; exact h
  · rw [e]
    intro h2
    injection h2 with h2
    omega
theorem ne_own2 {α : Type} {d : Kd α} {e : Nat} {w : World} {base b : Nat} {ok : Nat → Prop} {v : Value} {l : List α} (h : d.R e w base ok v l) (hb : w.heap.size ≤ b) : some b ≠ v.ownBlock :=
  fun hk => absurd (own_lt (Kd.R_own h).choose_spec _ hk.symm) (by omega)
theorem blk_new2 (w : World) (o o2 : Obj) : ((w.alloc o).alloc o2).heap[w.heap.size + 1]? = some o2 := by
  have := blk_new (w.alloc o) o2
  rwa [World.size_alloc] at this
/-- A number that is at most another one; a text of at most so many bytes. -/
def getM (l : List Int) (most : Nat) : Option (Nat × Nat) := match getN l with
  | none => none
  | some (n, u) => if n ≤ most then some (n, u) else none
def readT (l : List Int) (most : Nat) : Option (List Int × Nat) := match getM l most with
  | none => none
  | some (n, u) => if n ≤ l.length - u then some ((l.drop u).take n, u + n) else none
def numYes (n u : Nat) (w : World) (e : Ending) (w' : World) : Prop := e = .returned (.tuple #[.int .u64 (n : Int), .int .i64 (u : Int), .bool true]) ∧ Below w.heap.size w w'
def numNo (w : World) (e : Ending) (w' : World) : Prop := e = .returned (.tuple #[.int .u64 0, .int .i64 0, .bool false]) ∧ Below w.heap.size w w'
def textYes (t : List Int) (n : Nat) (w : World) (e : Ending) (w' : World) : Prop := e = .returned (.tuple #[.string (strOfNums t), .int .i64 (n : Int), .bool true]) ∧ Below w.heap.size w w'
def textNo (w : World) (e : Ending) (w' : World) : Prop := e = .returned (.tuple #[.string ⟨#[]⟩, .int .i64 0, .bool false]) ∧ Below w.heap.size w w'
theorem getM_none {l : List Int} {m : Nat} (h : getN l = none) : getM l m = none := by unfold getM; rw [h]
theorem getM_some {l : List Int} {m n u : Nat} (h : getN l = some (n, u)) : getM l m = if n ≤ m then some (n, u) else none := by unfold getM; rw [h]
theorem getM_used {l : List Int} {m n u : Nat} (h : getM l m = some (n, u)) : getN l = some (n, u) ∧ n ≤ m ∧ u ≤ l.length := by
  cases hg : getN l with
  | none => rw [getM_none hg] at h; simp at h
  | some p =>
    obtain ⟨a, b⟩ := p
    rw [getM_some hg] at h
    by_cases h2 : a ≤ m
    · rw [if_pos h2] at h
      simp only [Option.some.injEq, Prod.mk.injEq] at h
      obtain ⟨rfl, rfl⟩ := h
      exact ⟨rfl, h2, (getN_used hg).2.1⟩
    · rw [if_neg h2] at h; simp at h
theorem readT_used {l t : List Int} {m n : Nat} (h : readT l m = some (t, n)) : n ≤ l.length ∧ t.length ≤ m ∧ 1 ≤ n := by
  unfold readT at h
  cases hg : getM l m with
  | none => rw [hg] at h; simp at h
  | some p =>
    obtain ⟨a, b⟩ := p
    obtain ⟨h1, h2, h3⟩ := getM_used hg
    have h4 := getN_used h1
    rw [hg] at h
    simp only at h
    by_cases h5 : a ≤ l.length - b
    · rw [if_pos h5] at h
      simp only [Option.some.injEq, Prod.mk.injEq] at h
      obtain ⟨rfl, rfl⟩ := h
      rw [List.length_take, List.length_drop]
      omega
    · rw [if_neg h5] at h; simp at h
/-! ### Cuts of a row that is read: the new address under one name -/
theorem mid_row {α : Type} {P : Program} {d : Kd α} {t e : TypeId} {i0 : TypeInfo} (ht : P.underlying t = some (.slice e)) (hi0 : P.info? e = some i0) (hsz : i0.size = d.sz) (A : Option Addr) (c : Nat) (l : List α) (lo k : Nat) (i j : Int) (hi : i = lo) (hj : j = lo + k) (hk : lo + k ≤ l.length) (hc : l.length ≤ c) :
    ∃ A' : Option Addr, (∀ W : World, (Instr.slice t (.slice A l.length c) (some (.int .i64 i)) (some (.int .i64 j)) none).run P W = .ok (.slice A' k (c - lo)) W) ∧ (∀ w : World, Kd.C d w A l.length l → Kd.C d w A' k ((l.drop lo).take k)) ∧ ((l.drop lo).take k).length = k := by
  have hln : ((l.take (lo + k)).drop lo).length = k := by rw [List.length_drop, List.length_take]; omega
  have hdt : (l.take (lo + k)).drop lo = (l.drop lo).take k := by rw [List.drop_take]; congr 1; omega
  refine ⟨if c = lo then A else A.map (·.add (lo * d.sz)), fun W => ?_, fun w h => ?_, by rw [← hdt]; exact hln⟩
  · have h := cut_mid (P := P) t e .i64 .i64 ht hi0 d.sz hsz A l.length c i j (by omega) (by omega) (by omega) hc W
    rw [show j.toNat - i.toNat = k from by omega, show i.toNat = lo from by omega] at h
    exact h
  · have h2 := Kd.C_mid (lo := lo) (hi := lo + k) h (by omega) hk hc
    rw [hln, hdt] at h2
    exact h2
theorem drop_row {α : Type} {P : Program} {d : Kd α} {t e : TypeId} {i0 : TypeInfo} (ht : P.underlying t = some (.slice e)) (hi0 : P.info? e = some i0) (hsz : i0.size = d.sz) (A : Option Addr) (c : Nat) (l : List α) (lo : Nat) (i : Int) (hi : i = lo) (hk : lo ≤ l.length) (hc : l.length ≤ c) :
    ∃ A' : Option Addr, (∀ W : World, (Instr.slice t (.slice A l.length c) (some (.int .i64 i)) none none).run P W = .ok (.slice A' (l.drop lo).length (c - lo)) W) ∧ (∀ w : World, Kd.C d w A l.length l → Kd.C d w A' (l.drop lo).length (l.drop lo)) ∧ (l.drop lo).length ≤ c - lo := by
  refine ⟨if c = lo then A else A.map (·.add (lo * d.sz)), fun W => ?_, fun w h => Kd.C_drop h hk hc, by rw [List.length_drop]; omega⟩
  have hel : P.elem t = e := by simp [Program.elem, ht]
  have hu : P.underlying t = some (.slice (P.elem t)) := by rw [hel]; exact ht
  rw [run_slice_l W t A l.length c hu .i64 i (by omega) (by omega), hel, List.length_drop]
  simp [sizeOf, typeInfo, hi0, hsz, sliced, Result.andThen, hi]
theorem take_row {α : Type} {P : Program} {d : Kd α} {t e : TypeId} {i0 : TypeInfo} (ht : P.underlying t = some (.slice e)) (hi0 : P.info? e = some i0) (A : Option Addr) (c : Nat) (l : List α) (k : Nat) (i : Int) (hi : i = k) (hk : k ≤ l.length) (hc : l.length ≤ c) :
    (∀ W : World, (Instr.slice t (.slice A l.length c) none (some (.int .i64 i)) none).run P W = .ok (.slice A k c) W) ∧ (∀ w : World, Kd.C d w A l.length l → Kd.C d w A k (l.take k)) := by
  have hln : (l.take k).length = k := by rw [List.length_take]; omega
  refine ⟨fun W => ?_, fun w h => ?_⟩
  · have hel : P.elem t = e := by simp [Program.elem, ht]
    have hu : P.underlying t = some (.slice (P.elem t)) := by rw [hel]; exact ht
    have ha : (A.map fun x => x.add 0) = A := by cases A <;> simp [Addr.add]
    rw [run_slice_h W t A l.length c hu .i64 i (by omega) (by omega), hel]
    simp [sizeOf, typeInfo, hi0, sliced, Result.andThen, hi, ha]
  · have := Kd.C_take h hk
    rwa [hln] at this
/-! ### One block alone is written -/
/-- Nothing that was there has turned, but block B. -/
def Only (B : Nat) (w w' : World) : Prop := Below B w w' ∧ ∀ i, i ≠ B → i < w.heap.size → w'.heap[i]? = w.heap[i]?
theorem Only.refl (B : Nat) (w : World) : Only B w w := ⟨Below.refl _ _, fun _ _ _ => rfl⟩
theorem Only.of_below {B : Nat} {w w' : World} (h : Below w.heap.size w w') (hB : B ≤ w.heap.size) : Only B w w' := ⟨h.mono hB, fun i _ hi => h.block i hi⟩
theorem Only.trans {B : Nat} {a b c : World} (h : Only B a b) (k : Only B b c) : Only B a c :=
  ⟨h.1.trans k.1, fun i hi hl => (k.2 i hi (Nat.lt_of_lt_of_le hl h.1.size)).trans (h.2 i hi hl)⟩
theorem Only.set {B j : Nat} {w w' : World} (h : Only B w w') (u : Value) : Only B w (w'.setCell ⟨B, j, none⟩ u) :=
  ⟨h.1.setCell (Nat.le_refl _) u, fun i hi hl => (Below.heap_setCell w' ⟨B, j, none⟩ u i hi).trans (h.2 i hi hl)⟩
theorem Only.step {B : Nat} {w w' w2 : World} (h : Only B w w') (k : Below w'.heap.size w' w2) (hB : B ≤ w'.heap.size) : Only B w w2 := h.trans (Only.of_below k hB)
theorem Only.below {n B : Nat} {w0 w w' : World} (h0 : Below n w0 w) (h : Only B w w') (hn : n ≤ B) : Below n w0 w' := h0.trans (h.1.mono hn)
theorem Only.blk {B i : Nat} {w w' : World} {o : Obj} (h : Only B w w') (hk : w.heap[i]? = some o) (hi : i ≠ B) : w'.heap[i]? = some o := (h.2 i hi (blk_lt hk)).trans hk
theorem Only.row {α : Type} {d : Kd α} {e B t base : Nat} {w w' : World} {ok : Nat → Prop} {v : Value} {xs : List α} {cells : Array Value} (ho : Only B w w') (h : d.R e w base ok v xs) (hb : w.heap[B]? = some (.cells cells t (0, 0))) (ht : ∀ q, q ∈ e :: d.E → q ≠ t) : d.R e w' base ok v xs :=
  Kd.R_mono (Kd.R_step (Kd.R_types h hb ht) (fun k hk hl => ho.2 k hk.2 hl)) (fun _ hk => hk.1)
/-! ### A reader of bytes: where it is, and whether something was wrong -/
def numStep (l : List Int) (at_ : Nat) (bad : Bool) (most : Nat) : Nat × Nat × Bool := match getM (l.drop at_) most with
  | some (n, u) => (n, at_ + u, bad)
  | none => (0, at_, true)
def takeStep (l : List Int) (at_ : Nat) (bad : Bool) (n : Nat) : List Int × Nat × Bool := if l.length - at_ < n then (List.replicate n 0, at_, true) else ((l.drop at_).take n, at_ + n, bad)
def textStep (l : List Int) (at_ : Nat) (bad : Bool) (most : Nat) : List Int × Nat × Bool := takeStep l (numStep l at_ bad most).2.1 (numStep l at_ bad most).2.2 (numStep l at_ bad most).1
theorem numStep_at {l : List Int} {at_ most : Nat} {bad : Bool} (h : at_ ≤ l.length) : (numStep l at_ bad most).2.1 ≤ l.length ∧ (numStep l at_ bad most).1 ≤ most := by
  unfold numStep
  cases hg : getM (l.drop at_) most with
  | none => exact ⟨h, Nat.zero_le _⟩
  | some p =>
    obtain ⟨n, u⟩ := p
    have := getM_used hg
    rw [List.length_drop] at this
    exact ⟨by show at_ + u ≤ _; omega, this.2.1⟩
theorem takeStep_at {l : List Int} {at_ n : Nat} {bad : Bool} (h : at_ ≤ l.length) : (takeStep l at_ bad n).2.1 ≤ l.length ∧ (takeStep l at_ bad n).1.length = n := by
  unfold takeStep
  by_cases h2 : l.length - at_ < n
  · rw [if_pos h2]; exact ⟨h, by simp⟩
  · rw [if_neg h2]; exact ⟨by show at_ + n ≤ _; omega, by rw [List.length_take, List.length_drop]; omega⟩
theorem textStep_some {l t : List Int} {at_ n : Nat} {bad : Bool} {m : Nat} (hg : readT (l.drop at_) m = some (t, n)) : textStep l at_ bad m = (t, at_ + n, bad) := by
  unfold readT at hg
  unfold textStep numStep
  cases hq : getM (l.drop at_) m with
  | none => rw [hq] at hg; simp at hg
  | some p =>
    obtain ⟨a, u⟩ := p
    rw [hq] at hg
    simp only at hg ⊢
    have hu := (getM_used hq).2.2
    rw [List.length_drop] at hu hg
    unfold takeStep
    by_cases h5 : a ≤ l.length - at_ - u
    · rw [if_pos h5] at hg
      simp only [Option.some.injEq, Prod.mk.injEq] at hg
      obtain ⟨rfl, rfl⟩ := hg
      have hpos : u ≤ l.length - at_ := by omega
      rw [if_neg (by have := (getN_used (getM_used hq).1); rw [List.length_drop] at this; omega), List.drop_drop]
      simp only [Prod.mk.injEq, and_true, true_and]
      omega
    · rw [if_neg h5] at hg; simp at hg
theorem textStep_none {l : List Int} {at_ : Nat} {bad : Bool} {m : Nat} (_hat : at_ ≤ l.length) (hg : readT (l.drop at_) m = none) : (textStep l at_ bad m).2.2 = true := by
  unfold readT at hg
  unfold textStep numStep
  cases hq : getM (l.drop at_) m with
  | none =>
    simp only
    unfold takeStep
    rw [if_neg (by omega)]
  | some p =>
    obtain ⟨a, u⟩ := p
    rw [hq] at hg
    simp only at hg ⊢
    have hu := (getM_used hq).2.2
    rw [List.length_drop] at hu hg
    unfold takeStep
    by_cases h5 : a ≤ l.length - at_ - u
    · rw [if_pos h5] at hg; simp at hg
    · rw [if_pos (by omega)]
theorem numStep_bad {l : List Int} {at_ m : Nat} : (numStep l at_ true m).2.2 = true := by
  unfold numStep
  cases getM (l.drop at_) m <;> rfl
theorem takeStep_bad {l : List Int} {at_ m : Nat} : (takeStep l at_ true m).2.2 = true := by
  unfold takeStep
  split <;> rfl
theorem textStep_bad {l : List Int} {at_ m : Nat} : (textStep l at_ true m).2.2 = true := by
  unfold textStep
  rw [numStep_bad]
  exact takeStep_bad
theorem textStep_at {l : List Int} {at_ m : Nat} {bad : Bool} (h : at_ ≤ l.length) : (textStep l at_ bad m).2.1 ≤ l.length ∧ (textStep l at_ bad m).1.length ≤ m := by
  unfold textStep
  have h1 := numStep_at (bad := bad) (most := m) h
  have h2 := takeStep_at (bad := (numStep l at_ bad m).2.2) (n := (numStep l at_ bad m).1) h1.1
  exact ⟨h2.1, by rw [h2.2]; exact h1.2⟩
theorem takeStep_byte {l : List Int} {at_ n : Nat} {bad : Bool} (h : byteL l) : byteL (takeStep l at_ bad n).1 := by
  unfold takeStep
  split
  · intro c hc
    have := List.eq_of_mem_replicate hc
    omega
  · exact byteL_take (byteL_drop h _) _
theorem getD_byte {x : List Int} (h : byteL x) (i : Nat) : 0 ≤ x.getD i 0 ∧ x.getD i 0 < 256 := by
  by_cases hi : i < x.length
  · exact h _ (by simp [List.getD, hi])
  · simp [List.getD, List.getElem?_eq_none (Nat.le_of_not_lt hi)]
theorem cell_far {w : World} {b i : Nat} {v x : Value} {p : Addr} (h : w.cell? ⟨b, i, none⟩ = some v) (hne : b ≠ p.block) : (w.setCell p x).cell? ⟨b, i, none⟩ = some v :=
  (World.cell?_of_block (w := w) (a := ⟨b, i, none⟩) (Below.heap_setCell w p x b hne)).trans h
theorem cell_far3 {w : World} {b i g : Nat} {v x y z : Value} (h : w.cell? ⟨b, i, none⟩ = some v) (hne : b ≠ g) : (((w.setCell ⟨g, 0, none⟩ x).setCell ⟨g, 1, none⟩ y).setCell ⟨g, 2, none⟩ z).cell? ⟨b, i, none⟩ = some v :=
  cell_far (cell_far (cell_far h hne) hne) hne
/-! ### What is put is got, and the other way -/
theorem getM_put {n m : Nat} (rest : List Int) (h : n ≤ m) (hm : m < 18446744073709551616) : getM (lePut n ++ rest) m = some (n, (lePut n).length) := by
  rw [getM_some (getN_put n rest (by omega)), if_pos h]
theorem getM_take {l : List Int} {m n u : Nat} (hb : byteL l) (h : getM l m = some (n, u)) : l.take u = lePut n ∧ u = (lePut n).length := by
  obtain ⟨h1, _, h3⟩ := getM_used h
  have h4 := (getN_some hb h1).2.2
  refine ⟨h4, ?_⟩
  rw [← h4, List.length_take]
  omega
theorem take_add' {l a b : List Int} {i j : Nat} (h1 : l.take i = a) (h2 : (l.drop i).take j = b) : l.take (i + j) = a ++ b := by rw [List.take_add, h1, h2]
theorem readT_put {s : ByteArray} {m : Nat} (rest : List Int) (h : s.size ≤ m) (hm : m < 18446744073709551616) : readT (textL s ++ rest) m = some (bytesOf s, (textL s).length) := by
  unfold readT textL
  rw [List.append_assoc, getM_put _ h hm]
  simp only
  rw [if_pos (by simp only [List.length_append, bytesOf_length]; omega), List.drop_left, List.length_append, bytesOf_length, List.take_left' (bytesOf_length s)]
theorem readT_take {l t : List Int} {m n : Nat} (hb : byteL l) (h : readT l m = some (t, n)) : byteL t ∧ l.take n = textL (strOfNums t) := by
  unfold readT at h
  cases hg : getM l m with
  | none => rw [hg] at h; simp at h
  | some p =>
    obtain ⟨a, u⟩ := p
    rw [hg] at h
    simp only at h
    by_cases h5 : a ≤ l.length - u
    · rw [if_pos h5] at h
      simp only [Option.some.injEq, Prod.mk.injEq] at h
      obtain ⟨rfl, rfl⟩ := h
      have hbt := byteL_take (byteL_drop hb u) a
      have hl : ((l.drop u).take a).length = a := by rw [List.length_take, List.length_drop]; omega
      refine ⟨hbt, ?_⟩
      unfold textL
      rw [bytesOf_str hbt, strOfNums_size, hl]
      exact take_add' (getM_take hb hg).1 rfl
    · rw [if_neg h5] at h; simp at h
end Go.Proofs.Ytbgdamlidohfhaa.P

namespace Go.Proofs.Ytbgdamlidohfhaa.P
open Go.RowKit Go.Proofs.YtbgdamlidohfhaaW.PrintWords Go.Proofs.YtbgdamlidohfhaaW.PrintLast Go.Proofs.YtbgdamlidohfhaaW.PrintMore
attribute [local go_sem] max2_int min2_int max_two min_two max_three min_three max_four min_four   -- for this text's walks alone
set_option linter.unusedVariables false
set_option linter.unusedSimpArgs false



def errW : Option Int → Value
  | none => .nilIface
  | some c => .iface 0 (.int .i64 c)
theorem errW_none : errW none = .nilIface := rfl
theorem errW_some (c : Int) : errW (some c) = .iface 0 (.int .i64 c) := rfl

theorem info5 : (Try.prog.info? 5).map (fun i => (i.zero, i.size, i.bytes)) = some (some (.int .u8 0), 1, 1) := by kernel_rfl
theorem infoSchema : (Try.prog.info? 25).map (fun i => (i.zero, i.size, i.bytes)) = some (some (.agg #[(.string ⟨#[]⟩), (.int .i64 0), (.slice none 0 0)]), 3, 48) := by kernel_rfl
theorem infoField : (Try.prog.info? 39).map (fun i => (i.zero, i.size, i.bytes)) = some (some (.agg #[(.string ⟨#[]⟩), (.int .i64 0)]), 2, 24) := by kernel_rfl
-- the values' own types
/-! #### struct type 39 -/
structure SField where
  f0 : ByteArray
  f1 : Int
def zField : SField := ⟨(⟨#[]⟩ : ByteArray), (0 : Int)⟩
def kField : Kd SField := Kd.iso (Kd.pair Kd.string (Kd.int .i64)) (fun x : SField => (x.f0, x.f1))
theorem kField_heap : Kd.Heap kField := Kd.heap_iso _ (Kd.heap_pair Kd.heap_string (Kd.heap_int .i64))
theorem kField_open {w : World} {x : SField} {cs : List Value} (h : kField.K w x cs) : cs = [.string x.f0, .int .i64 x.f1] := by
  obtain ⟨_, _, rfl, rfl, rfl⟩ := h
  exact rfl
theorem kField_openM {w : World} {base : Nat} {ok : Nat → Prop} {x : SField} {cs : List Value} (h : kField.M w base ok x cs) : cs = [.string x.f0, .int .i64 x.f1] := by
  obtain ⟨_, _, rfl, rfl, rfl⟩ := h
  exact rfl
theorem kField_mk (w : World) (x : SField)  : kField.K w x [.string x.f0, .int .i64 x.f1] := ⟨[.string x.f0], [.int .i64 x.f1], rfl, rfl, rfl⟩
theorem kField_mkM (w : World) (base : Nat) (ok : Nat → Prop) (x : SField)  : kField.M w base ok x [.string x.f0, .int .i64 x.f1] := ⟨[.string x.f0], [.int .i64 x.f1], rfl, rfl, rfl⟩
theorem kField_mkF (W : World) (ok : Nat → Prop) (x : SField) : Kd.FK kField W ok x [.string x.f0, .int .i64 x.f1] := fun W2 _ => kField_mk W2 x
def rd_TField (xs : List SField) (i : Int) : SField := xs.getD i.toNat zField
theorem at_TField {w : World} {A : Option Addr} {n : Nat} {xs : List SField} (h : Kd.C kField w A n xs) (i : Int) (h0 : 0 ≤ i) (h1 : i < n) : ∃ ad , A = some ad ∧ w.cell? (ad.add (i.toNat * 2)) = some (.string (rd_TField xs i).f0) ∧ w.cell? ⟨(ad.add (i.toNat * 2)).block, (ad.add (i.toNat * 2)).off + 1, none⟩ = some (.int .i64 (rd_TField xs i).f1) := by
  obtain ⟨ad, c, e, _, hK, hc0⟩ := Kd.C_get h zField i h0 h1
  have hc : ∀ j u, c[j]? = some u → w.cell? (ad.add (i.toNat * 2 + j)) = some u := hc0
  obtain rfl := kField_open hK
  exact ⟨ad, e, hc 0 _ rfl, by rw [← add_field _ _ 1 (by omega)]; exact hc 1 _ rfl⟩

def rd_L3 (xs : List (List SField)) (i : Int) : (List SField) := xs.getD i.toNat ([] : List SField)
theorem at_L3 {w : World} {A : Option Addr} {n : Nat} {xs : List (List SField)} (h : Kd.C (Kd.slice 39 kField) w A n xs) (i : Int) (h0 : 0 ≤ i) (h1 : i < n) : ∃ ad A0 c0, A = some ad ∧ w.cell? (ad.add i.toNat) = some (.slice A0 (rd_L3 xs i).length c0) ∧ (rd_L3 xs i).length ≤ c0 ∧ kField.C w A0 (rd_L3 xs i).length (rd_L3 xs i) := by
  obtain ⟨ad, c, e, _, hK, hc0⟩ := Kd.C_get h ([] : List SField) i h0 h1
  have hc : ∀ j u, c[j]? = some u → w.cell? (ad.add (i.toNat * 1 + j)) = some u := hc0
  obtain ⟨A0, c0, rfl, l0, g0⟩ := hK
  exact ⟨ad, A0, c0, e, by have hq := hc 0 _ rfl; rwa [Nat.mul_one, Nat.add_zero] at hq, l0, g0⟩

/-! #### struct type 25 -/
structure SSchema where
  f0 : ByteArray
  f1 : Int
  f2 : (List SField)
def zSchema : SSchema := ⟨(⟨#[]⟩ : ByteArray), (0 : Int), ([] : List SField)⟩
def kSchema : Kd SSchema := Kd.iso (Kd.pair Kd.string (Kd.pair (Kd.int .i64) (Kd.slice 39 kField))) (fun x : SSchema => (x.f0, x.f1, x.f2))
theorem kSchema_heap : Kd.Heap kSchema := Kd.heap_iso _ (Kd.heap_pair Kd.heap_string (Kd.heap_pair (Kd.heap_int .i64) (Kd.heap_slice 39 kField_heap)))
theorem kSchema_open {w : World} {x : SSchema} {cs : List Value} (h : kSchema.K w x cs) : ∃ A2 c2, cs = [.string x.f0, .int .i64 x.f1, .slice A2 x.f2.length c2] ∧ x.f2.length ≤ c2 ∧ kField.C w A2 x.f2.length x.f2 := by
  obtain ⟨_, _, rfl, rfl, ⟨_, _, rfl, rfl, ⟨A2, c2, rfl, l2, g2⟩⟩⟩ := h
  exact ⟨A2, c2, rfl, l2, g2⟩
theorem kSchema_openM {w : World} {base : Nat} {ok : Nat → Prop} {x : SSchema} {cs : List Value} (h : kSchema.M w base ok x cs) : ∃ v2, cs = [.string x.f0, .int .i64 x.f1, v2] ∧ kField.R 39 w base ok v2 x.f2 := by
  obtain ⟨_, _, rfl, rfl, ⟨_, _, rfl, rfl, ⟨v2, rfl, g2⟩⟩⟩ := h
  exact ⟨v2, rfl, g2⟩
theorem kSchema_mk (w : World) (x : SSchema) {A2 : Option Addr} {c2 : Nat} (l2 : x.f2.length ≤ c2) (g2 : kField.C w A2 x.f2.length x.f2) : kSchema.K w x [.string x.f0, .int .i64 x.f1, .slice A2 x.f2.length c2] := ⟨[.string x.f0], [.int .i64 x.f1, .slice A2 x.f2.length c2], rfl, rfl, ⟨[.int .i64 x.f1], [.slice A2 x.f2.length c2], rfl, rfl, ⟨A2, c2, rfl, l2, g2⟩⟩⟩
theorem kSchema_mkM (w : World) (base : Nat) (ok : Nat → Prop) (x : SSchema) {v2 : Value} (g2 : kField.R 39 w base ok v2 x.f2) : kSchema.M w base ok x [.string x.f0, .int .i64 x.f1, v2] := ⟨[.string x.f0], [.int .i64 x.f1, v2], rfl, rfl, ⟨[.int .i64 x.f1], [v2], rfl, rfl, ⟨v2, rfl, g2⟩⟩⟩
theorem kSchema_openF {W : World} {ok : Nat → Prop} {x : SSchema} {cs : List Value} (h : Kd.FK kSchema W ok x cs) : ∃ A2 c2, cs = [.string x.f0, .int .i64 x.f1, .slice A2 x.f2.length c2] ∧ x.f2.length ≤ c2 ∧ Kd.F kField W ok A2 x.f2.length x.f2 := by
  obtain ⟨A2, c2, rfl, l2, _⟩ := kSchema_open (Kd.FK_now h)
  exact ⟨A2, c2, rfl, l2, (fun W' hW => by obtain ⟨A2_, c2_, he, l2_, g2_⟩ := kSchema_open (h W' hW); injection (Option.some.inj (show some (Value.slice A2 x.f2.length c2) = some (Value.slice A2_ x.f2.length c2_) from congrArg (fun l => l[2]?) he)) with ha_ _ _; rw [ha_]; exact g2_)⟩
theorem kSchema_mkF (W : World) (ok : Nat → Prop) (x : SSchema) {A2 : Option Addr} {c2 : Nat} (l2 : x.f2.length ≤ c2) (g2 : Kd.F kField W ok A2 x.f2.length x.f2) : Kd.FK kSchema W ok x [.string x.f0, .int .i64 x.f1, .slice A2 x.f2.length c2] := fun W2 hW => kSchema_mk W2 x l2 (g2 W2 hW)
def rd_TSchema (xs : List SSchema) (i : Int) : SSchema := xs.getD i.toNat zSchema
theorem at_TSchema {w : World} {A : Option Addr} {n : Nat} {xs : List SSchema} (h : Kd.C kSchema w A n xs) (i : Int) (h0 : 0 ≤ i) (h1 : i < n) : ∃ ad A2 c2, A = some ad ∧ w.cell? (ad.add (i.toNat * 3)) = some (.string (rd_TSchema xs i).f0) ∧ w.cell? ⟨(ad.add (i.toNat * 3)).block, (ad.add (i.toNat * 3)).off + 1, none⟩ = some (.int .i64 (rd_TSchema xs i).f1) ∧ w.cell? ⟨(ad.add (i.toNat * 3)).block, (ad.add (i.toNat * 3)).off + 2, none⟩ = some (.slice A2 (rd_TSchema xs i).f2.length c2) ∧ (rd_TSchema xs i).f2.length ≤ c2 ∧ kField.C w A2 (rd_TSchema xs i).f2.length (rd_TSchema xs i).f2 := by
  obtain ⟨ad, c, e, _, hK, hc0⟩ := Kd.C_get h zSchema i h0 h1
  have hc : ∀ j u, c[j]? = some u → w.cell? (ad.add (i.toNat * 3 + j)) = some u := hc0
  obtain ⟨A2, c2, rfl, l2, g2⟩ := kSchema_open hK
  exact ⟨ad, A2, c2, e, hc 0 _ rfl, by rw [← add_field _ _ 1 (by omega)]; exact hc 1 _ rfl, by rw [← add_field _ _ 2 (by omega)]; exact hc 2 _ rfl, l2, g2⟩

def rd_L6 (xs : List (List SSchema)) (i : Int) : (List SSchema) := xs.getD i.toNat ([] : List SSchema)
theorem at_L6 {w : World} {A : Option Addr} {n : Nat} {xs : List (List SSchema)} (h : Kd.C (Kd.slice 25 kSchema) w A n xs) (i : Int) (h0 : 0 ≤ i) (h1 : i < n) : ∃ ad A0 c0, A = some ad ∧ w.cell? (ad.add i.toNat) = some (.slice A0 (rd_L6 xs i).length c0) ∧ (rd_L6 xs i).length ≤ c0 ∧ kSchema.C w A0 (rd_L6 xs i).length (rd_L6 xs i) := by
  obtain ⟨ad, c, e, _, hK, hc0⟩ := Kd.C_get h ([] : List SSchema) i h0 h1
  have hc : ∀ j u, c[j]? = some u → w.cell? (ad.add (i.toNat * 1 + j)) = some u := hc0
  obtain ⟨A0, c0, rfl, l0, g0⟩ := hK
  exact ⟨ad, A0, c0, e, by have hq := hc 0 _ rfl; rwa [Nat.mul_one, Nat.add_zero] at hq, l0, g0⟩

def rd_L9 (xs : List (List Int)) (i : Int) : (List Int) := xs.getD i.toNat ([] : List Int)
theorem at_L9 {w : World} {A : Option Addr} {n : Nat} {xs : List (List Int)} (h : Kd.C (Kd.slice 5 (Kd.int .u8)) w A n xs) (i : Int) (h0 : 0 ≤ i) (h1 : i < n) : ∃ ad A0 c0, A = some ad ∧ w.cell? (ad.add i.toNat) = some (.slice A0 (rd_L9 xs i).length c0) ∧ (rd_L9 xs i).length ≤ c0 ∧ (Kd.int .u8).C w A0 (rd_L9 xs i).length (rd_L9 xs i) := by
  obtain ⟨ad, c, e, _, hK, hc0⟩ := Kd.C_get h ([] : List Int) i h0 h1
  have hc : ∀ j u, c[j]? = some u → w.cell? (ad.add (i.toNat * 1 + j)) = some u := hc0
  obtain ⟨A0, c0, rfl, l0, g0⟩ := hK
  exact ⟨ad, A0, c0, e, by have hq := hc 0 _ rfl; rwa [Nat.mul_one, Nat.add_zero] at hq, l0, g0⟩

end Go.Proofs.Ytbgdamlidohfhaa.P

/- How data that came in are read: of each kind of value, one lemma; no condition but that what is reached is as the row says. -/
namespace Go.Proofs.Ytbgdamlidohfhaa.P
open Go.RowKit Go.Proofs.YtbgdamlidohfhaaW.PrintWords Go.Proofs.YtbgdamlidohfhaaW.PrintLast Go.Proofs.YtbgdamlidohfhaaW.PrintMore

/-- Whatever can be read as data of type t is, in memory, what d says of a value that is well formed. -/
def Opens {α : Type} (P : Program) (t : TypeId) (d : Kd α) (wf : α → Prop) : Prop :=
  ∀ {H : Type} (enc : TypeId × Value → H) (W : World) (base : Nat) (spare : Nat → Bool) (held : Bool) (fuel : Nat) (cs : List Value) (x : DataW H × List MemPlace),
    DataW.trod enc P W base spare held fuel t cs = some x → (∀ n ∈ x.1.weights P t, n ≤ reachBytes) → ∃ a, d.K W a cs ∧ wf a

theorem opens_int {P : Program} {t : TypeId} {k : IntKind} (hu : P.underlying t = some (.int k)) : Opens P t (Kd.int k) (fun n => (Lit.int k n).wf = true) := by
  intro H enc W base spare held fuel cs x h _
  obtain ⟨n, rfl, _, hw⟩ := DataW.trod_int hu h
  exact ⟨n, rfl, hw⟩
theorem opens_bool {P : Program} {t : TypeId} (hu : P.underlying t = some .bool) : Opens P t Kd.bool (fun _ => True) := by
  intro H enc W base spare held fuel cs x h _
  obtain ⟨b, rfl, _⟩ := DataW.trod_bool hu h
  exact ⟨b, rfl, trivial⟩
theorem opens_string {P : Program} {t : TypeId} (hu : P.underlying t = some .string) : Opens P t Kd.string (fun s => s.size ≤ 140737488351232) := by
  intro H enc W base spare held fuel cs x h hw
  obtain ⟨s, rfl, rfl, _⟩ := DataW.trod_string hu h
  refine ⟨s, rfl, ?_⟩
  have := hw s.data.toList.length (by simp [DataW.weights])
  simpa [reachBytes] using this
theorem weightsAll_mem {H : Type} {P : Program} {e : TypeId} : ∀ (l : List (DataW H)) (d : DataW H), d ∈ l → ∀ n ∈ d.weights P e, n ∈ DataW.weightsAll P e l
  | [], d, h, _, _ => by simp at h
  | a :: l, d, h, n, hn => by
    simp only [DataW.weightsAll, List.mem_append]
    rcases List.mem_cons.1 h with rfl | h
    · exact .inl hn
    · exact .inr (weightsAll_mem l d h n hn)
theorem fin_list {α : Type} (n : Nat) (p : Nat → α → Prop) (h : ∀ i, i < n → ∃ a, p i a) : ∃ l : List α, l.length = n ∧ ∀ i a, l[i]? = some a → p i a := by
  induction n with
  | zero => exact ⟨[], rfl, fun i a ha => by simp at ha⟩
  | succ n ih =>
    obtain ⟨l, hl, hp⟩ := ih (fun i hi => h i (by omega))
    obtain ⟨a, ha⟩ := h n (by omega)
    refine ⟨l ++ [a], by simp [hl], fun i b hb => ?_⟩
    by_cases hi : i < n
    · rw [List.getElem?_append_left (by omega)] at hb
      exact hp i b hb
    · rw [List.getElem?_append_right (by omega)] at hb
      have : i = n := by
        have := (List.getElem?_eq_some_iff.1 hb).1
        simp at this
        omega
      subst this
      simp [hl] at hb
      exact hb ▸ ha
theorem opens_slice {α : Type} {P : Program} {t e : TypeId} {d : Kd α} {wf : α → Prop} {B : Nat} (ht : P.underlying t = some (.slice e)) (he : Opens P e d wf) (hc : P.cellsOf e = d.sz) (hB : P.bytesOf e = B) :
    Opens P t (Kd.slice e d) (fun l => l.length * B ≤ 140737488351232 ∧ ∀ x ∈ l, wf x) := by
  intro H enc W base spare held fuel cs x h hw
  rcases Go.Deep.open_slice ht h with ⟨rfl, rfl⟩ | ⟨a, len, cap, m, n, D, Pl, rfl, hb, hl, hm, hmm, rfl, hx⟩
  · exact ⟨[], ⟨none, 0, rfl, Nat.le_refl _, Kd.C_nil _ _⟩, by simp, by simp⟩
  · simp only [DataW.weights, ht] at hw
    have hle : len ≤ m := by rw [hmm]; split <;> omega
    have hlen : len * B ≤ 140737488351232 := by
      have := hw _ (List.mem_cons_self ..)
      rw [hB] at this
      simp only [List.length_map, List.length_range] at this
      exact Nat.le_trans (Nat.mul_le_mul_right _ (by omega)) this
    obtain ⟨l, hl1, hl2⟩ := fin_list len (fun i a' => ∃ c, c.length = d.sz ∧ (d.K W a' c ∧ wf a') ∧ ∀ j u, c[j]? = some u → W.cell? (a.add (i * d.sz + j)) = some u) (fun i hi => by
      obtain ⟨cs', h1, h2⟩ := hx i (by omega)
      obtain ⟨_, h4, h5⟩ := World.cells?_some h1
      obtain ⟨y, hy⟩ := he enc W base spare held n cs' _ h2 (fun q hq => hw q (List.mem_cons_of_mem _ (List.mem_append_left _ (weightsAll_mem _ _ (List.mem_map.2 ⟨i, List.mem_range.2 hi, rfl⟩) q hq))))
      rw [hc] at h4 h5
      refine ⟨y, cs', h4, hy, fun j u hu => ?_⟩
      have hj : j < d.sz := by rw [← h4]; exact (List.getElem?_eq_some_iff.1 hu).1
      rw [← addr_add, h5 j hj]
      exact hu)
    refine ⟨l, ⟨some a, cap, by rw [hl1], by omega, ?_⟩, by rw [hl1]; exact hlen, fun x hx => ?_⟩
    · rw [hl1]
      refine ⟨hl1, by unfold maxLen at hm; omega, fun _ => ⟨a, rfl, fun j p hp => ?_⟩⟩
      obtain ⟨c, h1, h2, h3⟩ := hl2 j p hp
      exact ⟨c, h1, h2.1, h3⟩
    · obtain ⟨i, hi⟩ := List.mem_iff_getElem?.1 hx
      obtain ⟨c, _, h2, _⟩ := hl2 i x hi
      exact h2.2
/-- The fields of a struct, from one on. -/
def OpensF {α : Type} (P : Program) (fs : List Field) (o : Nat) (d : Kd α) (wf : α → Prop) : Prop :=
  ∀ {H : Type} (enc : TypeId × Value → H) (W : World) (base : Nat) (spare : Nat → Bool) (held : Bool) (fuel : Nat) (cs : List Value) (xs : List (DataW H × List MemPlace)),
    xs.length = fs.length → (∀ (i : Nat) (f : Field), fs[i]? = some f → ∃ y, xs[i]? = some y ∧ DataW.trod enc P W base spare held fuel f.type ((cs.drop f.offset).take (P.cellsOf f.type)) = some y) →
    (∀ n ∈ DataW.weightsEach P (fs.map fun f : Field => f.type) (xs.map (·.1)), n ≤ reachBytes) → ∃ a, d.K W a ((cs.drop o).take d.sz) ∧ wf a
theorem opens_one {α : Type} {P : Program} {f : Field} {d : Kd α} {wf : α → Prop} {o : Nat} (h : Opens P f.type d wf) (ho : f.offset = o) (hs : P.cellsOf f.type = d.sz) : OpensF P [f] o d wf := by
  intro H enc W base spare held fuel cs xs hl hx hw
  obtain ⟨y, h1, h2⟩ := hx 0 f rfl
  rw [ho, hs] at h2
  match xs, hl with
  | [z], _ =>
    simp at h1
    subst h1
    exact h enc W base spare held fuel _ _ h2 (fun n hn => hw n (by simp [DataW.weightsEach, hn]))
theorem opens_more {α β : Type} {P : Program} {f : Field} {fs : List Field} {d : Kd α} {d' : Kd β} {wf : α → Prop} {wf' : β → Prop} {o : Nat} (h : Opens P f.type d wf) (h' : OpensF P fs (o + d.sz) d' wf') (ho : f.offset = o) (hs : P.cellsOf f.type = d.sz) :
    OpensF P (f :: fs) o (Kd.pair d d') (fun x => wf x.1 ∧ wf' x.2) := by
  intro H enc W base spare held fuel cs xs hl hx hw
  match xs, hl with
  | z :: zs, hl =>
    obtain ⟨y, h1, h2⟩ := hx 0 f rfl
    rw [ho, hs] at h2
    simp at h1
    subst h1
    simp only [List.map_cons, DataW.weightsEach, List.mem_append] at hw
    obtain ⟨a, ha, wa⟩ := h enc W base spare held fuel _ _ h2 (fun n hn => hw n (.inl hn))
    obtain ⟨b, hb, wb⟩ := h' enc W base spare held fuel cs zs (by simpa using hl) (fun i g hg => by simpa using hx (i + 1) g (by simpa using hg)) (fun n hn => hw n (.inr hn))
    refine ⟨(a, b), ⟨_, _, ?_, ha, hb⟩, wa, wb⟩
    show (cs.drop o).take (d.sz + d'.sz) = _
    rw [List.take_add, List.drop_drop]
theorem opens_struct {α β : Type} {P : Program} {t : TypeId} {fs : Array Field} {d : Kd β} {wf : β → Prop} {wf' : α → Prop} (f : α → β) (g : β → α) (ht : P.underlying t = some (.struct fs)) (h : OpensF P fs.toList 0 d wf) (hs : P.cellsOf t = d.sz) (hg : ∀ b, f (g b) = b) (hw : ∀ b, wf b → wf' (g b)) :
    Opens P t (Kd.iso d f) wf' := by
  intro H enc W base spare held fuel cs x hx hwt
  obtain ⟨xs, n, rfl, rfl, h1, h2, h3⟩ := DataW.trod_struct ht hx
  obtain ⟨b, hb, wb⟩ := h enc W base spare held n cs xs (by simpa using h2) (fun i f hf => by
    have hf' : fs[i]? = some f := by simpa using hf
    have hi : i < xs.length := by rw [h2]; exact (Array.getElem?_eq_some_iff.1 hf').1
    exact ⟨xs[i], List.getElem?_eq_getElem hi, (h3 i f hf').trans (List.getElem?_eq_getElem hi)⟩) (fun n hn => hwt n (by simpa [DataW.weights, ht] using hn))
  refine ⟨g b, ?_, hw b wb⟩
  show d.K W (f (g b)) cs
  rw [hg]
  have : (cs.drop 0).take d.sz = cs := by rw [List.drop_zero, List.take_of_length_le (by rw [h1, hs]; exact Nat.le_refl _)]
  rw [← this]
  exact hb
end Go.Proofs.Ytbgdamlidohfhaa.P

/- The readers of the structs that come in: no condition. -/
namespace Go.Proofs.Ytbgdamlidohfhaa.P
open Go.RowKit Go.Proofs.YtbgdamlidohfhaaW.PrintWords Go.Proofs.YtbgdamlidohfhaaW.PrintLast Go.Proofs.YtbgdamlidohfhaaW.PrintMore
attribute [local go_sem] max2_int min2_int max_two min_two max_three min_three max_four min_four   -- for this text's walks alone
set_option linter.unusedVariables false
set_option linter.unusedSimpArgs false
def wfField (x_ : SField) : Prop := (x_.f0.size ≤ 140737488351232) ∧ ((Lit.int .i64 x_.f1).wf = true)
theorem openField : Opens Try.prog 39 kField wfField := opens_struct (fun x_ : SField => (x_.f0, x_.f1)) (fun b_ => ⟨b_.1, b_.2⟩) Try.underlying39 (opens_more (opens_string Try.underlying9) (opens_one (opens_int Try.underlying3) rfl (by kernel_rfl)) rfl (by kernel_rfl)) (by kernel_rfl) (fun _ => rfl) (fun _ h_ => h_)
def wfSchema (x_ : SSchema) : Prop := (x_.f0.size ≤ 140737488351232) ∧ ((Lit.int .i64 x_.f1).wf = true) ∧ (x_.f2.length * 24 ≤ 140737488351232 ∧ ∀ y_ ∈ x_.f2, wfField y_)
theorem openSchema : Opens Try.prog 25 kSchema wfSchema := opens_struct (fun x_ : SSchema => (x_.f0, x_.f1, x_.f2)) (fun b_ => ⟨b_.1, b_.2.1, b_.2.2⟩) Try.underlying25 (opens_more (opens_string Try.underlying9) (opens_more (opens_int Try.underlying3) (opens_one (opens_slice Try.underlying23 openField (by kernel_rfl) (by kernel_rfl)) rfl (by kernel_rfl)) rfl (by kernel_rfl)) rfl (by kernel_rfl)) (by kernel_rfl) (fun _ => rfl) (fun _ h_ => h_)
end Go.Proofs.Ytbgdamlidohfhaa.P

namespace Go.Proofs.Ytbgdamlidohfhaa.P
open Go.RowKit Go.Proofs.YtbgdamlidohfhaaW.PrintWords Go.Proofs.YtbgdamlidohfhaaW.PrintLast Go.Proofs.YtbgdamlidohfhaaW.PrintMore
attribute [local go_sem] max2_int min2_int max_two min_two max_three min_three max_four min_four   -- for this text's walks alone
set_option linter.unusedVariables false
set_option linter.unusedSimpArgs false

/-! ### schema_Name: function 30 -/
def eqField (x y : SField) : Bool := x.f0.toList == y.f0.toList && x.f1 == y.f1
/-- Are two schemas the same? -/
def eqSchema (x y : SSchema) : Bool := decide (x.f0.toList = y.f0.toList) && (decide (x.f1 = y.f1) && eqf eqField zField x.f2 y.f2)
/-- Is field i as it must be? -/
def fieldOK (F : List SField) (i : Nat) : Bool := !((F.take i).any (fun x => x.f0.toList == (F.getD i zField).f0.toList)) && (nameB (F.getD i zField).f0 && (decide (0 ≤ (F.getD i zField).f1) && decide ((F.getD i zField).f1 < 4)))
def mayB (nm : ByteArray) (ver : Int) (F : List SField) : Bool := nameB nm && (decide (1 ≤ ver) && (decide (ver ≤ 1000) && (decide (F.length ≤ 6) && (List.range F.length).all (fieldOK F))))
/-- So many fields that bytes begin by; a schema; one that may be. -/
def getF : Nat → List Int → Option (List SField × Nat)
  | 0, _ => some ([], 0)
  | m + 1, l => match readT l 12 with
    | none => none
    | some (t, u) => match l.drop u with
      | [] => none
      | k :: _ => match getF m (l.drop (u + 1)) with
        | none => none
        | some (fs, v) => some (⟨strOfNums t, k⟩ :: fs, u + 1 + v)
def contF (l : List Int) (m at_ : Nat) (fs : List SField) (nm : ByteArray) (ver : Int) : Option (SSchema × Nat) := match getF m (l.drop at_) with
  | none => none
  | some (gs, y) => some (⟨nm, ver, fs ++ gs⟩, at_ + y)
def getRaw (l : List Int) : Option (SSchema × Nat) := match readT l 12 with
  | none => none
  | some (t, u) => match getM (l.drop u) 1000 with
    | none => none
    | some (ver, v) => match getM (l.drop (u + v)) 6 with
      | none => none
      | some (many, x) => contF l many (u + v + x) [] (strOfNums t) ver
def mayS (x : SSchema) : Bool := mayB x.f0 x.f1 x.f2
def getS (l : List Int) : Option (SSchema × Nat) := match getRaw l with
  | none => none
  | some (s, n) => if mayS s then some (s, n) else none
theorem contF_step (l : List Int) (m at_ : Nat) (fs : List SField) (nm : ByteArray) (ver : Int) : contF l (m + 1) at_ fs nm ver = match readT (l.drop at_) 12 with
    | none => none
    | some (t, u) => match l.drop (at_ + u) with
      | [] => none
      | k :: _ => contF l m (at_ + u + 1) (fs ++ [⟨strOfNums t, k⟩]) nm ver := by
  unfold contF
  rw [getF]
  cases readT (l.drop at_) 12 with
  | none => rfl
  | some p =>
    obtain ⟨t, u⟩ := p
    simp only [List.drop_drop]
    cases l.drop (at_ + u) with
    | nil => rfl
    | cons k _ =>
      simp only
      rw [show at_ + (u + 1) = at_ + u + 1 from by omega]
      cases getF m (l.drop (at_ + u + 1)) with
      | none => rfl
      | some q =>
        obtain ⟨gs, v⟩ := q
        simp only [Option.some.injEq, Prod.mk.injEq, SSchema.mk.injEq, true_and]
        exact ⟨by simp, by omega⟩
/-- What is known of a reader under way: something was wrong, and there is none; or what is to come goes on. -/
def rdInv (l : List Int) (m at_ : Nat) (bad : Bool) (fs : List SField) (nm : ByteArray) (ver : Int) : Prop := at_ ≤ l.length ∧ ((bad = true ∧ getRaw l = none) ∨ (bad = false ∧ getRaw l = contF l m at_ fs nm ver))
theorem rdInv_step {l t x : List Int} {m at_ a1 a2 : Nat} {bad b1 b2 : Bool} {fs : List SField} {nm : ByteArray} {ver : Int} (h : rdInv l (m + 1) at_ bad fs nm ver) (ht : textStep l at_ bad 12 = (t, a1, b1)) (hx : takeStep l a1 b1 1 = (x, a2, b2)) : rdInv l m a2 b2 (fs ++ [⟨strOfNums t, x.getD 0 0⟩]) nm ver := by
  obtain ⟨h1, h2⟩ := h
  have ha := textStep_at (bad := bad) (m := 12) h1
  rw [ht] at ha
  have hb := takeStep_at (bad := b1) (n := 1) ha.1
  rw [hx] at hb
  refine ⟨hb.1, ?_⟩
  have hall : b1 = true → b2 = true := fun h3 => by
    have := takeStep_bad (l := l) (at_ := a1) (m := 1)
    rw [h3] at hx
    rw [hx] at this
    exact this
  rcases h2 with ⟨rfl, h3⟩ | ⟨rfl, h3⟩
  · have := textStep_bad (l := l) (at_ := at_) (m := 12)
    rw [ht] at this
    exact .inl ⟨hall this, h3⟩
  · rw [contF_step] at h3
    cases hg : readT (l.drop at_) 12 with
    | none =>
      have := textStep_none (bad := false) h1 hg
      rw [ht] at this
      rw [hg] at h3
      exact .inl ⟨hall this, h3⟩
    | some p =>
      obtain ⟨t', u⟩ := p
      rw [hg] at h3
      simp only at h3
      have he := textStep_some (bad := false) hg
      rw [ht] at he
      simp only [Prod.mk.injEq] at he
      obtain ⟨rfl, rfl, rfl⟩ := he
      unfold takeStep at hx
      by_cases h4 : l.length - (at_ + u) < 1
      · rw [if_pos h4] at hx
        simp only [Prod.mk.injEq] at hx
        rw [List.drop_of_length_le (by omega)] at h3
        exact .inl ⟨hx.2.2.symm, h3⟩
      · rw [if_neg h4] at hx
        simp only [Prod.mk.injEq] at hx
        obtain ⟨rfl, rfl, rfl⟩ := hx
        rw [List.drop_eq_getElem_cons (show at_ + u < l.length by omega)] at h3 ⊢
        exact .inr ⟨rfl, by simpa [show at_ + u < l.length by omega] using h3⟩
theorem rdInv_start {l t : List Int} {a1 a2 a3 ver many : Nat} {b1 b2 b3 : Bool} (ht : textStep l 0 false 12 = (t, a1, b1)) (hv : numStep l a1 b1 1000 = (ver, a2, b2)) (hm : numStep l a2 b2 6 = (many, a3, b3)) : rdInv l many a3 b3 [] (strOfNums t) ver ∧ ver ≤ 1000 ∧ many ≤ 6 := by
  have ha := textStep_at (l := l) (bad := false) (m := 12) (Nat.zero_le l.length)
  rw [ht] at ha
  have hb := numStep_at (bad := b1) (most := 1000) ha.1
  rw [hv] at hb
  have hc := numStep_at (bad := b2) (most := 6) hb.1
  rw [hm] at hc
  refine ⟨⟨hc.1, ?_⟩, hb.2, hc.2⟩
  have n1 : b1 = true → b2 = true := fun h => by
    have := numStep_bad (l := l) (at_ := a1) (m := 1000)
    rw [h] at hv
    rw [hv] at this
    exact this
  have n2 : b2 = true → b3 = true := fun h => by
    have := numStep_bad (l := l) (at_ := a2) (m := 6)
    rw [h] at hm
    rw [hm] at this
    exact this
  cases hg : readT l 12 with
  | none =>
    have := textStep_none (l := l) (at_ := 0) (bad := false) (Nat.zero_le _) (by simpa using hg)
    rw [ht] at this
    exact .inl ⟨n2 (n1 this), by unfold getRaw; rw [hg]⟩
  | some p =>
    obtain ⟨t', u⟩ := p
    have he := textStep_some (l := l) (at_ := 0) (bad := false) (by simpa using hg)
    rw [ht] at he
    simp only [Prod.mk.injEq, Nat.zero_add] at he
    obtain ⟨rfl, rfl, rfl⟩ := he
    unfold numStep at hv hm
    cases hg2 : getM (l.drop a1) 1000 with
    | none =>
      rw [hg2] at hv
      simp only [Prod.mk.injEq] at hv
      exact .inl ⟨n2 hv.2.2.symm, by unfold getRaw; rw [hg]; simp only; rw [hg2]⟩
    | some p2 =>
      obtain ⟨v1, u1⟩ := p2
      rw [hg2] at hv
      simp only [Prod.mk.injEq] at hv
      obtain ⟨rfl, rfl, rfl⟩ := hv
      cases hg3 : getM (l.drop (a1 + u1)) 6 with
      | none =>
        rw [hg3] at hm
        simp only [Prod.mk.injEq] at hm
        exact .inl ⟨hm.2.2.symm, by unfold getRaw; rw [hg]; simp only; rw [hg2]; simp only; rw [hg3]⟩
      | some p3 =>
        obtain ⟨m1, u2⟩ := p3
        rw [hg3] at hm
        simp only [Prod.mk.injEq] at hm
        obtain ⟨rfl, rfl, rfl⟩ := hm
        exact .inr ⟨rfl, by unfold getRaw; rw [hg]; simp only; rw [hg2]; simp only; rw [hg3]⟩
theorem rdInv_end {l : List Int} {at_ : Nat} {bad : Bool} {fs : List SField} {nm : ByteArray} {ver : Int} (h : rdInv l 0 at_ bad fs nm ver) : getS l = if bad = true ∨ mayS ⟨nm, ver, fs⟩ = false then none else some (⟨nm, ver, fs⟩, at_) := by
  unfold getS
  rcases h.2 with ⟨rfl, h2⟩ | ⟨rfl, h2⟩
  · rw [h2, if_pos (.inl rfl)]
  · rw [h2]
    unfold contF getF
    simp only [List.append_nil, Nat.add_zero]
    cases mayS ⟨nm, ver, fs⟩ <;> simp
/-- Fields' bytes, and a schema's. -/
def fieldsL (F : List SField) : List Int := (F.map fun f => textL f.f0 ++ [f.f1]).flatten
def putS (nm : ByteArray) (ver : Int) (F : List SField) : List Int := textL nm ++ lePut ver.toNat ++ lePut F.length ++ fieldsL F
theorem fieldsL_snoc (F : List SField) (k : Nat) (h : k < F.length) : fieldsL (F.take (k + 1)) = fieldsL (F.take k) ++ textL (F.getD k zField).f0 ++ [(F.getD k zField).f1] := by
  unfold fieldsL
  rw [take_snoc zField F k h, List.map_append, List.flatten_append]
  simp
def schema_Name.f (a0 : ByteArray) : Option Bool := some (nameB a0)
def nameRel (s : ByteArray) (w : World) (pos : Nat) (w' : World) : Prop := pos ≤ s.size ∧ (∀ i, i < pos → nameCh i (bt s (i : Int)) = true) ∧ w' = w.iter s pos
theorem name_hit (s : ByteArray) (k : Nat) (hk : k < s.size) (h : nameCh k (bt s (k : Int)) = false) : nameB s = false := by
  unfold nameB
  rw [Bool.and_eq_false_iff]
  left
  rw [List.all_eq_false]
  exact ⟨k, List.mem_range.2 hk, by rw [h]; simp⟩
theorem nameCh_ok {i : Nat} {c : Int} (h : (97 ≤ c ∧ c ≤ 122) ∨ (0 < i ∧ (c = 95 ∨ (48 ≤ c ∧ c ≤ 57)))) : nameCh i c = true := by
  unfold nameCh
  rcases h with ⟨h1, h2⟩ | ⟨h1, h2 | ⟨h2, h3⟩⟩
  · simp [h1, h2]
  · simp [h1, h2]
  · simp [h1, h2, h3]
theorem nameCh_no {i : Nat} {c : Int} (h : ¬ ((97 ≤ c ∧ c ≤ 122) ∨ (0 < i ∧ (c = 95 ∨ (48 ≤ c ∧ c ≤ 57))))) : nameCh i c = false := by
  rw [← Bool.not_eq_true]
  intro hc
  apply h
  unfold nameCh at hc
  simp only [Bool.or_eq_true, Bool.and_eq_true, decide_eq_true_eq, beq_iff_eq] at hc
  exact hc
theorem name_next {s : ByteArray} {pos : Nat} {c : Nat} (hs : Aside0 (∀ i : Nat, i < pos → nameCh i (bt s (i : Int)) = true)) (hc : Aside0 (bt s (pos : Int) = (c : Int))) (h : (97 ≤ (c : Int) ∧ (c : Int) ≤ 122) ∨ (0 < pos ∧ ((c : Int) = 95 ∨ (48 ≤ (c : Int) ∧ (c : Int) ≤ 57)))) : ∀ i : Nat, i < pos + 1 → nameCh i (bt s (i : Int)) = true := by
  intro i hi
  by_cases h2 : i < pos
  · exact hs.out i h2
  · obtain rfl : i = pos := by omega
    rw [hc.out]
    exact nameCh_ok h
theorem name_fall {s : ByteArray} {pos : Nat} {c : Nat} (hp : pos < s.size) (hc : Aside0 (bt s (pos : Int) = (c : Int))) (h : ¬ ((97 ≤ (c : Int) ∧ (c : Int) ≤ 122) ∨ (0 < pos ∧ ((c : Int) = 95 ∨ (48 ≤ (c : Int) ∧ (c : Int) ≤ 57))))) : nameB s = false := name_hit s pos hp (by rw [hc.out]; exact nameCh_no h)
theorem name_all (s : ByteArray) (h : ∀ i, i < s.size → nameCh i (bt s (i : Int)) = true) : nameB s = (decide (s.size ≠ 0) && decide (s.size ≤ 12)) := by
  unfold nameB
  rw [show ((List.range s.size).all fun i => nameCh i (bt s (i : Int))) = true from List.all_eq_true.2 fun i hi => h i (List.mem_range.1 hi)]
  rfl
set_option maxHeartbeats 1000000 in
set_option maxRecDepth 100000 in
theorem schema_Name.calls (a0 : ByteArray) (r : Bool) (w : World) (h : schema_Name.f a0 = some r) :
    Calls Try.prog 30 #[.string a0] w fun e w' => e = .returned (.bool r) ∧ Below w.heap.size w w' := by
  obtain rfl := Option.some.inj h
  clear h
  show Calls _ _ _ _ (boolPost (nameB a0) w)
  go_enter Try.func30, Try.ntmps30
  go_wp2
  go_loopw [3, 4] (fun v3 v4 w' => ∃ pos : Nat, nameRel a0 w pos w') (fun _ _ w' => a0.size - w'.iterPos w.heap.size)
  case atStart => exact ⟨0, Nat.zero_le _, fun i hi => by omega, rfl⟩
  case round =>
    obtain ⟨pos, hp, hall, rfl⟩ := hrel
    have HALL := Aside0.mk hall
    clear hall
    by_cases hlt : pos < a0.size
    · by_cases ha : (a0[pos]'hlt).toNat < 128
      · have hnx : ∀ ty, (Instr.next (.pointer (some ⟨w.heap.size, 0, none⟩)) true ty).run Try.prog (w.iter a0 pos) = _ := fun ty => run_next_ascii w a0 pos ty hlt ha
        have HE : Aside0 (bt a0 (pos : Int) = (((a0[pos]'hlt).toNat : Nat) : Int)) := ⟨by simp [bt, hlt]⟩
        generalize (a0[pos]'hlt).toNat = c at *
        go_wp2
        all_goals first
          | (refine ⟨⟨pos + 1, ?_⟩, ?_⟩; (exact ⟨by omega, name_next HALL HE (by first | omega | (simp only [beq_iff_eq, beq_eq_false_iff_ne, ne_eq] at *; omega)), rfl⟩); (simp; omega))
          | (go_ret; rw [name_fall hlt HE (by first | omega | (simp only [beq_iff_eq, beq_eq_false_iff_ne, ne_eq] at *; omega))]; exact ⟨rfl, (Below.refl _ _).alloc (Nat.le_refl _) _⟩)
      · have hnx : ∀ ty, (Instr.next (.pointer (some ⟨w.heap.size, 0, none⟩)) true ty).run Try.prog (w.iter a0 pos) = _ := fun ty => run_next_any w a0 pos ty hlt
        have hd := (decode_high a0 pos hlt (by omega)).1
        have HE : Aside0 (bt a0 (pos : Int) = (((a0[pos]'hlt).toNat : Nat) : Int)) := ⟨by simp [bt, hlt]⟩
        have hf : nameB a0 = false := name_fall hlt HE (by omega)
        clear HE
        generalize (Utf8.decode a0 pos).1 = c at *
        generalize (Utf8.decode a0 pos).2 = wd at *
        go_wp2
        all_goals first
          | (exfalso; first | omega | (simp only [beq_iff_eq, beq_eq_false_iff_ne, ne_eq] at *; omega))
          | (go_ret; rw [hf]; exact ⟨rfl, (Below.refl _ _).alloc (Nat.le_refl _) _⟩)
    · have hnx : ∀ ty, (Instr.next (.pointer (some ⟨w.heap.size, 0, none⟩)) true ty).run Try.prog (w.iter a0 pos) = _ := fun ty => run_next_end w a0 pos ty hlt
      have hn := name_all a0 (fun i hi => HALL.out i (by omega))
      by_cases hz : a0.size = 0
      · have HN : nameB a0 = false := by rw [hn]; simp [hz]
        have he : a0.toList = [] := List.eq_nil_of_length_eq_zero (by rw [ByteArray.toList_eq, data_length]; exact hz)
        clear hn
        go_wp2
        all_goals (go_ret; rw [HN]; exact ⟨by simp [he], (Below.refl _ _).alloc (Nat.le_refl _) _⟩)
      · have HN : nameB a0 = decide (a0.size ≤ 12) := by rw [hn]; simp [hz]
        have he : a0.toList.isEmpty = false := List.isEmpty_eq_false_iff.mpr fun h => hz (by rw [← data_length, ← ByteArray.toList_eq, h]; rfl)
        have hs : decide ((a0.size : Int) ≤ 12) = decide (a0.size ≤ 12) := decide_eq_decide.2 (by omega)
        clear hn
        go_wp2
        all_goals (go_ret; rw [HN]; exact ⟨by simp [he, hs], (Below.refl _ _).alloc (Nat.le_refl _) _⟩)

end Go.Proofs.Ytbgdamlidohfhaa.P

namespace Go.Proofs.Ytbgdamlidohfhaa.P
open Go.RowKit Go.Proofs.YtbgdamlidohfhaaW.PrintWords Go.Proofs.YtbgdamlidohfhaaW.PrintLast Go.Proofs.YtbgdamlidohfhaaW.PrintMore
attribute [local go_sem] max2_int min2_int max_two min_two max_three min_three max_four min_four   -- for this text's walks alone
set_option linter.unusedVariables false
set_option linter.unusedSimpArgs false

theorem eqAField (d : Nat) (w : World) (x0 y0 : ByteArray) (x1 y1 : Int) :
    (Op.equalIn (d + 2) 39 (.agg #[.string x0, .int .i64 x1]) (.agg #[.string y0, .int .i64 y1])).run Try.prog w = .ok (x0.toList == y0.toList && (x1 == y1)) w := by
  refine eqA_of Try.underlying39 (by kernel_rfl) ?_
  refine eqf_cons (by rfl) (by go_simp; rfl) (by go_simp; rfl) (by go_simp) ?_
  exact eqf_last (by rfl) (by go_simp; rfl) (by go_simp; rfl) (by go_simp)
end Go.Proofs.Ytbgdamlidohfhaa.P

namespace Go.Proofs.Ytbgdamlidohfhaa.P
open Go.RowKit Go.Proofs.YtbgdamlidohfhaaW.PrintWords Go.Proofs.YtbgdamlidohfhaaW.PrintLast Go.Proofs.YtbgdamlidohfhaaW.PrintMore
attribute [local go_sem] max2_int min2_int max_two min_two max_three min_three max_four min_four   -- for this text's walks alone
set_option linter.unusedVariables false
set_option linter.unusedSimpArgs false

attribute [local go_sem high] eqAField
/-! ### slices_Equal_api_Field: function 43 -/
def slices_Equal_api_Field.l0 : Nat → List (SField) → List (SField) → Int → Int → Option (Bool)
  | 0, _, _, _, _ => none
  | k + 1, x0, x1, x12, x13 => if x13 < x12 then (if 0 ≤ x13 then (if x13 < (x0.length : Int) then (if x13 < (x1.length : Int) then (if (!((((rd_TField x0 x13).f0).toList) == (((rd_TField x1 x13).f0).toList)) || (!(((rd_TField x0 x13).f1) == ((rd_TField x1 x13).f1)))) = true then (some false) else (slices_Equal_api_Field.l0 k x0 x1 x12 (wrap64 (x13 + 1)))) else (none)) else (none)) else (none)) else (some true)
def slices_Equal_api_Field.f (k : Nat) (l0 : List (SField)) (l1 : List (SField)) : Option (Bool) := if (l0.length : Int) = (l1.length : Int) then (slices_Equal_api_Field.l0 k l0 l1 (l0.length : Int) 0) else (some false)
theorem slices_Equal_api_Field.mono_l : ∀ k, (∀ y0 y1 y2 y3, LeO (slices_Equal_api_Field.l0 k y0 y1 y2 y3) (slices_Equal_api_Field.l0 (k + 1) y0 y1 y2 y3))
  | 0 => fun _ _ _ _ r h => by simp [slices_Equal_api_Field.l0] at h
  | k + 1 => by
    have ih0 := slices_Equal_api_Field.mono_l k
    · intro y0 y1 y2 y3
      unfold slices_Equal_api_Field.l0
      repeat' first
      | (with_reducible exact ih0 _ _ _ _)
      | (with_reducible exact LeO.refl _)
      | (with_reducible exact LeO.none _)
      | (with_reducible refine LeO.ite ?_ ?_)
      | (with_reducible refine LeO.bind ?_ (fun _ => ?_))
      | exact ih0 _ _ _ _
      | exact LeO.none _
      | refine LeO.ite ?_ ?_
      | refine LeO.bind ?_ (fun _ => ?_)
theorem slices_Equal_api_Field.mono : ∀ a0 a1 k, LeO (slices_Equal_api_Field.f k a0 a1) (slices_Equal_api_Field.f (k + 1) a0 a1) := by
  intro a0 a1 k
  have ih0 := slices_Equal_api_Field.mono_l k
  unfold slices_Equal_api_Field.f
  repeat' first
      | (with_reducible exact ih0 _ _ _ _)
      | (with_reducible exact LeO.refl _)
      | (with_reducible exact LeO.none _)
      | (with_reducible refine LeO.ite ?_ ?_)
      | (with_reducible refine LeO.bind ?_ (fun _ => ?_))
      | exact ih0 _ _ _ _
      | exact LeO.none _
      | refine LeO.ite ?_ ?_
      | refine LeO.bind ?_ (fun _ => ?_)
set_option maxHeartbeats 8000000 in
set_option maxRecDepth 100000 in
theorem slices_Equal_api_Field.calls (k : Nat) (A0 : Option Addr) (c0 : Nat) (l0 : List (SField)) (A1 : Option Addr) (c1 : Nat) (l1 : List (SField)) (r : Bool) (w : World) (hr0 : Kd.C kField w A0 l0.length l0) (hc0 : l0.length ≤ c0) (hr1 : Kd.C kField w A1 l1.length l1) (hc1 : l1.length ≤ c1) (h : slices_Equal_api_Field.f k l0 l1 = some r) :
    Calls Try.prog 43 #[.slice A0 l0.length c0, .slice A1 l1.length c1] w fun e w' => e = .returned (.bool r) ∧ Drawn0 w w' := by
  have hu39 := Try.underlying39
  have HR0 := Aside0.mk hr0
  have HC0 := Aside0.mk hc0
  clear hr0 hc0
  have HR1 := Aside0.mk hr1
  have HC1 := Aside0.mk hc1
  clear hr1 hc1
  have H : (if (l0.length : Int) = (l1.length : Int) then (slices_Equal_api_Field.l0 k l0 l1 (l0.length : Int) 0) else (some false)) = some r := h
  clear h
  by_cases c3 : (l0.length : Int) = (l1.length : Int)
  · rw [if_pos c3] at H
    have c3b0 : ((l0.length : Int) == (l1.length : Int)) = true := beq_iff_eq.mpr c3
    have c3b1 : ((l0.length : Int) != (l1.length : Int)) = false := bne_eq_false_iff_eq.mpr c3
    have c3b2 : (l0.length == l1.length) = true := by first | simpa using c3 | (simp at c3 ⊢; omega)
    clear c3
    have H' := Aside0.mk H
    clear H
    go_enter Try.func43, Try.ntmps43
    go_wp2
    repeat (go_quiet (fail); try go_wp2)
    go_loopg [13] k (fun kq v13 w' => ∃ (x13_1 : Int), v13 = .int .i64 x13_1 ∧ Aside0 (slices_Equal_api_Field.l0 kq l0 l1 (l0.length : Int) x13_1 = some r) ∧ Aside0 (kq ≤ k) ∧ Drawn0 w w')
    case atStart => exact ⟨(0), (by first | rfl | (simp; done) | (simp [*]; done)), H', ⟨Nat.le_refl _⟩, by repeat (first | exact Drawn0.refl _ | apply Drawn0.step)⟩
    case round =>
      clear H'
      try clear c1
      try clear p2
      try clear c3
      try clear c3b0
      try clear c3b1
      try clear c3b2
      obtain ⟨x13_1, rfl, HA, HK1, ⟨m1, rfl⟩⟩ := hrel
      cases gk with
      | zero => exact absurd HA.out (by simp [slices_Equal_api_Field.l0])
      | succ k1 =>
        have H := HA.out
        clear HA
        simp only [slices_Equal_api_Field.l0] at H
        by_cases c4 : x13_1 < (l0.length : Int)
        · rw [if_pos c4] at H
          have c4b0 : decide (x13_1 < (l0.length : Int)) = true := decide_eq_true c4
          clear c4
          by_cases c5 : 0 ≤ x13_1
          · rw [if_pos c5] at H
            have c5b0 : decide (0 ≤ x13_1) = true := decide_eq_true c5
            clear c5
            by_cases c6 : x13_1 < (l0.length : Int)
            · rw [if_pos c6] at H
              have c6b0 : decide (x13_1 < (l0.length : Int)) = true := decide_eq_true c6
              clear c6
              by_cases c7 : x13_1 < (l1.length : Int)
              · rw [if_pos c7] at H
                have c7b0 : decide (x13_1 < (l1.length : Int)) = true := decide_eq_true c7
                clear c7
                by_cases c8 : (!((((rd_TField l0 x13_1).f0).toList) == (((rd_TField l1 x13_1).f0).toList)) || (!(((rd_TField l0 x13_1).f1) == ((rd_TField l1 x13_1).f1)))) = true
                · rw [if_pos c8] at H
                  have c8b0 : (!((((rd_TField l0 x13_1).f0).toList) == (((rd_TField l1 x13_1).f0).toList)) || (!(((rd_TField l0 x13_1).f1) == ((rd_TField l1 x13_1).f1)))) = true := c8
                  clear c8
                  obtain rfl := Option.some.inj H
                  have p105 : 0 ≤ (x13_1 : Int) := of_decide_eq_true (by first | (with_reducible assumption) | assumption)
                  have q105 : x13_1 < (l0.length : Int) := of_decide_eq_true (by first | (with_reducible assumption) | assumption)
                  obtain ⟨ad105, e105, hx105_0, hx105_1⟩ := at_TField HR0.out x13_1 p105 q105
                  cases e105
                  replace p105 := eq_true p105
                  replace q105 := eq_true q105
                  have p106 : 0 ≤ (x13_1 : Int) := of_decide_eq_true (by first | (with_reducible assumption) | assumption)
                  have q106 : x13_1 < (l1.length : Int) := of_decide_eq_true (by first | (with_reducible assumption) | assumption)
                  obtain ⟨ad106, e106, hx106_0, hx106_1⟩ := at_TField HR1.out x13_1 p106 q106
                  cases e106
                  replace p106 := eq_true p106
                  replace q106 := eq_true q106
                  go_wp2
                  repeat (go_quiet (fail); try go_wp2)
                  go_ret
                  exact ⟨by first | rfl | (simp; done) | (simp [*]; done), by repeat (first | exact Drawn0.refl _ | apply Drawn0.step)⟩
                · rw [if_neg c8] at H
                  have c8b0 : (!((((rd_TField l0 x13_1).f0).toList) == (((rd_TField l1 x13_1).f0).toList)) || (!(((rd_TField l0 x13_1).f1) == ((rd_TField l1 x13_1).f1)))) = false := by simpa using c8
                  clear c8
                  have H' := Aside0.mk H
                  clear H
                  have p105 : 0 ≤ (x13_1 : Int) := of_decide_eq_true (by first | (with_reducible assumption) | assumption)
                  have q105 : x13_1 < (l0.length : Int) := of_decide_eq_true (by first | (with_reducible assumption) | assumption)
                  obtain ⟨ad105, e105, hx105_0, hx105_1⟩ := at_TField HR0.out x13_1 p105 q105
                  cases e105
                  replace p105 := eq_true p105
                  replace q105 := eq_true q105
                  have p106 : 0 ≤ (x13_1 : Int) := of_decide_eq_true (by first | (with_reducible assumption) | assumption)
                  have q106 : x13_1 < (l1.length : Int) := of_decide_eq_true (by first | (with_reducible assumption) | assumption)
                  obtain ⟨ad106, e106, hx106_0, hx106_1⟩ := at_TField HR1.out x13_1 p106 q106
                  cases e106
                  replace p106 := eq_true p106
                  replace q106 := eq_true q106
                  go_wp2
                  repeat (go_quiet (fail); try go_wp2)
                  go_roundg k1
                  case measure => have := HK1.out; omega
                  case rel => exact ⟨(wrap64 (x13_1 + 1)), (by first | rfl | (simp; done) | (simp [*]; done)), H', ⟨by have := HK1.out; omega⟩, by repeat (first | exact Drawn0.refl _ | apply Drawn0.step)⟩
              · rw [if_neg c7] at H
                exact absurd H (by simp)
            · rw [if_neg c6] at H
              exact absurd H (by simp)
          · rw [if_neg c5] at H
            exact absurd H (by simp)
        · rw [if_neg c4] at H
          have c4b0 : decide (x13_1 < (l0.length : Int)) = false := decide_eq_false c4
          clear c4
          obtain rfl := Option.some.inj H
          go_wp2
          repeat (go_quiet (fail); try go_wp2)
          go_ret
          exact ⟨by first | rfl | (simp; done) | (simp [*]; done), by repeat (first | exact Drawn0.refl _ | apply Drawn0.step)⟩
  · rw [if_neg c3] at H
    have c3b0 : ((l0.length : Int) == (l1.length : Int)) = false := beq_eq_false_iff_ne.mpr c3
    have c3b1 : ((l0.length : Int) != (l1.length : Int)) = true := bne_iff_ne.mpr c3
    have c3b2 : (l0.length == l1.length) = false := by first | simpa using c3 | (simp at c3 ⊢; omega)
    obtain rfl := Option.some.inj H
    go_enter Try.func43, Try.ntmps43
    go_wp2
    repeat (go_quiet (fail); try go_wp2)
    go_ret
    exact ⟨by first | rfl | (simp; done) | (simp [*]; done), by repeat (first | exact Drawn0.refl _ | apply Drawn0.step)⟩

end Go.Proofs.Ytbgdamlidohfhaa.P

namespace Go.Proofs.Ytbgdamlidohfhaa.P
open Go.RowKit Go.Proofs.YtbgdamlidohfhaaW.PrintWords Go.Proofs.YtbgdamlidohfhaaW.PrintLast Go.Proofs.YtbgdamlidohfhaaW.PrintMore
attribute [local go_sem] max2_int min2_int max_two min_two max_three min_three max_four min_four   -- for this text's walks alone
set_option linter.unusedVariables false
set_option linter.unusedSimpArgs false

/-! ### schema_Same: function 27 -/
def schema_Same.f (k : Nat) (a0_0 : ByteArray) (a0_1 : Int) (l0_2 : List (SField)) (a1_0 : ByteArray) (a1_1 : Int) (l1_2 : List (SField)) : Option (Bool) := if a0_0.toList = a1_0.toList then (if a0_1 = a1_1 then ((slices_Equal_api_Field.f k l0_2 l1_2).bind fun t109 => (some t109)) else (some false)) else (some false)
theorem schema_Same.mono : ∀ a0 a1 a2 a3 a4 a5 k, LeO (schema_Same.f k a0 a1 a2 a3 a4 a5) (schema_Same.f (k + 1) a0 a1 a2 a3 a4 a5) := by
  intro a0 a1 a2 a3 a4 a5 k
  unfold schema_Same.f
  repeat' first
      | (with_reducible exact slices_Equal_api_Field.mono _ _ _)
      | (with_reducible exact LeO.refl _)
      | (with_reducible exact LeO.none _)
      | (with_reducible refine LeO.ite ?_ ?_)
      | (with_reducible refine LeO.bind ?_ (fun _ => ?_))
      | exact slices_Equal_api_Field.mono _ _ _
      | exact LeO.none _
      | refine LeO.ite ?_ ?_
      | refine LeO.bind ?_ (fun _ => ?_)
set_option maxHeartbeats 8000000 in
set_option maxRecDepth 100000 in
theorem schema_Same.calls (k : Nat) (a0_0 : ByteArray) (a0_1 : Int) (A0_2 : Option Addr) (c0_2 : Nat) (l0_2 : List (SField)) (a1_0 : ByteArray) (a1_1 : Int) (A1_2 : Option Addr) (c1_2 : Nat) (l1_2 : List (SField)) (r : Bool) (w : World) (hr0_2 : Kd.C kField w A0_2 l0_2.length l0_2) (hc0_2 : l0_2.length ≤ c0_2) (hr1_2 : Kd.C kField w A1_2 l1_2.length l1_2) (hc1_2 : l1_2.length ≤ c1_2) (h : schema_Same.f k a0_0 a0_1 l0_2 a1_0 a1_1 l1_2 = some r) :
    Calls Try.prog 27 #[.agg #[.string a0_0, .int .i64 a0_1, .slice A0_2 l0_2.length c0_2], .agg #[.string a1_0, .int .i64 a1_1, .slice A1_2 l1_2.length c1_2]] w fun e w' => e = .returned (.bool r) ∧ Below w.heap.size w w' := by
  have hu25 := Try.underlying25
  have HR0_2 := Aside0.mk hr0_2
  have HC0_2 := Aside0.mk hc0_2
  clear hr0_2 hc0_2
  have HR1_2 := Aside0.mk hr1_2
  have HC1_2 := Aside0.mk hc1_2
  clear hr1_2 hc1_2
  have HB := Aside0.mk (Below.refl w.heap.size w)
  have H : (if a0_0.toList = a1_0.toList then (if a0_1 = a1_1 then ((slices_Equal_api_Field.f k l0_2 l1_2).bind fun t109 => (some t109)) else (some false)) else (some false)) = some r := h
  clear h
  by_cases c3 : a0_0.toList = a1_0.toList
  · rw [if_pos c3] at H
    have c3b0 : (a0_0.toList == a1_0.toList) = true := beq_iff_eq.mpr c3
    have c3b1 : (a0_0.toList != a1_0.toList) = false := bne_eq_false_iff_eq.mpr c3
    clear c3
    by_cases c4 : a0_1 = a1_1
    · rw [if_pos c4] at H
      have c4b0 : (a0_1 == a1_1) = true := beq_iff_eq.mpr c4
      have c4b1 : (a0_1 != a1_1) = false := bne_eq_false_iff_eq.mpr c4
      clear c4
      replace H := Option.bind_eq_some_iff.mp H
      obtain ⟨t109, A50, H⟩ := H
      replace H : (some t109) = some r := H
      have A5 := Aside0.mk A50
      clear A50
      obtain rfl := Option.some.inj H
      go_enter Try.func27, Try.ntmps27
      go_wp2_with (first | ((with_reducible refine gate_dst (N := 2) rfl ?_); refine box_event ?hg (N := 2) ?hd (cs := #[.string a0_0, .int .i64 a0_1, .slice A0_2 l0_2.length c0_2]) (t := 25) ?hr ?_; (case hd => rfl); (case hg => rfl); (case hr => first | (go_simp; done) | (go_simp; rfl)); intro gb107 hg w6 hbox hb; have n0_ := Aside0.mk (below_step (by repeat (first | (with_reducible first | exact HB.out | apply below_alloc | apply pw_below_drewN | apply below_drew1) | exact HB.out)) hb); have n1_ := Aside0.mk (hbox); have n2_ := Aside0.mk ((by rw [hg]; exact (below_size (by repeat (first | (with_reducible first | exact HB.out | apply below_alloc | apply pw_below_drewN | apply below_drew1) | exact HB.out))) : w.heap.size ≤ gb107)); have n3_ := Aside0.mk ((by rw [hg]; exact (below_size (by repeat (first | (with_reducible first | exact HB.out | apply below_alloc | apply pw_below_drewN | apply below_drew1) | exact HB.out))) : w.heap.size ≤ gb107)); clear HB; have HB := n0_; have BK107 := n1_; have GW107 := n2_; have GE107 := n3_; clear n0_ n1_ n2_ n3_; clear hb hbox hg) | ((with_reducible refine gate_dst (N := 3) rfl ?_); refine box_event ?hg (N := 3) ?hd (cs := #[.string a1_0, .int .i64 a1_1, .slice A1_2 l1_2.length c1_2]) (t := 25) ?hr ?_; (case hd => rfl); (case hg => rfl); (case hr => first | (go_simp; done) | (go_simp; rfl)); intro gb108 hg w7 hbox hb; have n0_ := Aside0.mk (blk_below (g := gb107) (o := .cells #[.string a0_0, .int .i64 a0_1, .slice A0_2 l0_2.length c0_2] 25 (0, 0)) (by (with_reducible repeat (first | refine blk_drewN ?_ _ | refine blk_drew ?_ | refine blk_alloc ?_ _)); exact BK107.out) hb); have n1_ := Aside0.mk (below_step (by repeat (first | (with_reducible first | exact HB.out | apply below_alloc | apply pw_below_drewN | apply below_drew1 | refine below_set ?_ GE107.out) | exact HB.out)) hb); have n2_ := Aside0.mk (hbox); have n3_ := Aside0.mk ((by rw [hg]; exact (below_size (by repeat (first | (with_reducible first | exact HB.out | apply below_alloc | apply pw_below_drewN | apply below_drew1 | refine below_set ?_ GE107.out) | exact HB.out))) : w.heap.size ≤ gb108)); have n4_ := Aside0.mk ((by rw [hg]; exact (below_size (by repeat (first | (with_reducible first | exact HB.out | apply below_alloc | apply pw_below_drewN | apply below_drew1 | refine below_set ?_ GE107.out) | exact HB.out))) : w.heap.size ≤ gb108)); have n5_ := Aside0.mk ((by rw [hg]; exact Nat.ne_of_lt (blk_lt (g := gb107) (o := .cells #[.string a0_0, .int .i64 a0_1, .slice A0_2 l0_2.length c0_2] 25 (0, 0)) (by (with_reducible repeat (first | refine blk_drewN ?_ _ | refine blk_drew ?_ | refine blk_alloc ?_ _)); exact BK107.out)) : gb107 ≠ gb108)); have n6_ := Aside0.mk ((by rw [hg]; exact Nat.ne_of_gt (blk_lt (g := gb107) (o := .cells #[.string a0_0, .int .i64 a0_1, .slice A0_2 l0_2.length c0_2] 25 (0, 0)) (by (with_reducible repeat (first | refine blk_drewN ?_ _ | refine blk_drew ?_ | refine blk_alloc ?_ _)); exact BK107.out)) : gb108 ≠ gb107)); clear BK107; clear HB; have BK107 := n0_; have HB := n1_; have BK108 := n2_; have GW108 := n3_; have GE108 := n4_; have NB107_108 := n5_; have NB108_107 := n6_; clear n0_ n1_ n2_ n3_ n4_ n5_ n6_; clear hb hbox hg; have hnb8 := NB107_108.out; have hnc8 := NB108_107.out; have hcz9_0 : w7.cell? ⟨gb107, 0, none⟩ = some (.string a0_0) := (blk_cell BK107.out 0).trans rfl; have hcz9_1 : w7.cell? ⟨gb107, 1, none⟩ = some (.int .i64 a0_1) := (blk_cell BK107.out 1).trans rfl; have hcz9_2 : w7.cell? ⟨gb107, 2, none⟩ = some (.slice A0_2 l0_2.length c0_2) := (blk_cell BK107.out 2).trans rfl; have hfz9_0 := blk_frozen BK107.out 0; have hfz9_1 := blk_frozen BK107.out 1; have hfz9_2 := blk_frozen BK107.out 2; have hcz10_0 : w7.cell? ⟨gb108, 0, none⟩ = some (.string a1_0) := (blk_cell BK108.out 0).trans rfl; have hcz10_1 : w7.cell? ⟨gb108, 1, none⟩ = some (.int .i64 a1_1) := (blk_cell BK108.out 1).trans rfl; have hcz10_2 : w7.cell? ⟨gb108, 2, none⟩ = some (.slice A1_2 l1_2.length c1_2) := (blk_cell BK108.out 2).trans rfl; have hfz10_0 := blk_frozen BK108.out 0; have hfz10_1 := blk_frozen BK108.out 1; have hfz10_2 := blk_frozen BK108.out 2) | (go_at_call 43; (with_reducible refine (slices_Equal_api_Field.calls k _ _ l0_2 _ _ l1_2 t109 _ ?side1 ?side2 ?side3 ?side4 A5.out).mono ?_); (case side1 => repeat (first | exact (Kd.C_below HR0_2.out HB.out) | (with_reducible refine Kd.C_alloc ?_ _) | (with_reducible refine Kd.C_drewN ?_ _) | (with_reducible refine Kd.C_drew ?_))); (case side2 => exact HC0_2.out); (case side3 => repeat (first | exact (Kd.C_below HR1_2.out HB.out) | (with_reducible refine Kd.C_alloc ?_ _) | (with_reducible refine Kd.C_drewN ?_ _) | (with_reducible refine Kd.C_drew ?_))); (case side4 => exact HC1_2.out); rintro e w' ⟨rfl, ⟨nd, rfl⟩⟩))
      go_ret
      exact ⟨by first | rfl | (simp [errW_none, errW_some] <;> rfl) | (simp [*, errW_none, errW_some] <;> rfl), by repeat (first | (with_reducible first | exact HB.out | apply below_alloc | apply pw_below_drewN | apply below_drew1 | refine below_set ?_ GE107.out | refine below_set ?_ GE108.out) | exact HB.out)⟩
    · rw [if_neg c4] at H
      have c4b0 : (a0_1 == a1_1) = false := beq_eq_false_iff_ne.mpr c4
      have c4b1 : (a0_1 != a1_1) = true := bne_iff_ne.mpr c4
      obtain rfl := Option.some.inj H
      go_enter Try.func27, Try.ntmps27
      go_wp2_with (first | ((with_reducible refine gate_dst (N := 2) rfl ?_); refine box_event ?hg (N := 2) ?hd (cs := #[.string a0_0, .int .i64 a0_1, .slice A0_2 l0_2.length c0_2]) (t := 25) ?hr ?_; (case hd => rfl); (case hg => rfl); (case hr => first | (go_simp; done) | (go_simp; rfl)); intro gb107 hg w11 hbox hb; have n0_ := Aside0.mk (below_step (by repeat (first | (with_reducible first | exact HB.out | apply below_alloc | apply pw_below_drewN | apply below_drew1) | exact HB.out)) hb); have n1_ := Aside0.mk (hbox); have n2_ := Aside0.mk ((by rw [hg]; exact (below_size (by repeat (first | (with_reducible first | exact HB.out | apply below_alloc | apply pw_below_drewN | apply below_drew1) | exact HB.out))) : w.heap.size ≤ gb107)); have n3_ := Aside0.mk ((by rw [hg]; exact (below_size (by repeat (first | (with_reducible first | exact HB.out | apply below_alloc | apply pw_below_drewN | apply below_drew1) | exact HB.out))) : w.heap.size ≤ gb107)); clear HB; have HB := n0_; have BK107 := n1_; have GW107 := n2_; have GE107 := n3_; clear n0_ n1_ n2_ n3_; clear hb hbox hg) | ((with_reducible refine gate_dst (N := 3) rfl ?_); refine box_event ?hg (N := 3) ?hd (cs := #[.string a1_0, .int .i64 a1_1, .slice A1_2 l1_2.length c1_2]) (t := 25) ?hr ?_; (case hd => rfl); (case hg => rfl); (case hr => first | (go_simp; done) | (go_simp; rfl)); intro gb108 hg w12 hbox hb; have n0_ := Aside0.mk (blk_below (g := gb107) (o := .cells #[.string a0_0, .int .i64 a0_1, .slice A0_2 l0_2.length c0_2] 25 (0, 0)) (by (with_reducible repeat (first | refine blk_drewN ?_ _ | refine blk_drew ?_ | refine blk_alloc ?_ _)); exact BK107.out) hb); have n1_ := Aside0.mk (below_step (by repeat (first | (with_reducible first | exact HB.out | apply below_alloc | apply pw_below_drewN | apply below_drew1 | refine below_set ?_ GE107.out) | exact HB.out)) hb); have n2_ := Aside0.mk (hbox); have n3_ := Aside0.mk ((by rw [hg]; exact (below_size (by repeat (first | (with_reducible first | exact HB.out | apply below_alloc | apply pw_below_drewN | apply below_drew1 | refine below_set ?_ GE107.out) | exact HB.out))) : w.heap.size ≤ gb108)); have n4_ := Aside0.mk ((by rw [hg]; exact (below_size (by repeat (first | (with_reducible first | exact HB.out | apply below_alloc | apply pw_below_drewN | apply below_drew1 | refine below_set ?_ GE107.out) | exact HB.out))) : w.heap.size ≤ gb108)); have n5_ := Aside0.mk ((by rw [hg]; exact Nat.ne_of_lt (blk_lt (g := gb107) (o := .cells #[.string a0_0, .int .i64 a0_1, .slice A0_2 l0_2.length c0_2] 25 (0, 0)) (by (with_reducible repeat (first | refine blk_drewN ?_ _ | refine blk_drew ?_ | refine blk_alloc ?_ _)); exact BK107.out)) : gb107 ≠ gb108)); have n6_ := Aside0.mk ((by rw [hg]; exact Nat.ne_of_gt (blk_lt (g := gb107) (o := .cells #[.string a0_0, .int .i64 a0_1, .slice A0_2 l0_2.length c0_2] 25 (0, 0)) (by (with_reducible repeat (first | refine blk_drewN ?_ _ | refine blk_drew ?_ | refine blk_alloc ?_ _)); exact BK107.out)) : gb108 ≠ gb107)); clear BK107; clear HB; have BK107 := n0_; have HB := n1_; have BK108 := n2_; have GW108 := n3_; have GE108 := n4_; have NB107_108 := n5_; have NB108_107 := n6_; clear n0_ n1_ n2_ n3_ n4_ n5_ n6_; clear hb hbox hg; have hnb13 := NB107_108.out; have hnc13 := NB108_107.out; have hcz14_0 : w12.cell? ⟨gb107, 0, none⟩ = some (.string a0_0) := (blk_cell BK107.out 0).trans rfl; have hcz14_1 : w12.cell? ⟨gb107, 1, none⟩ = some (.int .i64 a0_1) := (blk_cell BK107.out 1).trans rfl; have hcz14_2 : w12.cell? ⟨gb107, 2, none⟩ = some (.slice A0_2 l0_2.length c0_2) := (blk_cell BK107.out 2).trans rfl; have hfz14_0 := blk_frozen BK107.out 0; have hfz14_1 := blk_frozen BK107.out 1; have hfz14_2 := blk_frozen BK107.out 2; have hcz15_0 : w12.cell? ⟨gb108, 0, none⟩ = some (.string a1_0) := (blk_cell BK108.out 0).trans rfl; have hcz15_1 : w12.cell? ⟨gb108, 1, none⟩ = some (.int .i64 a1_1) := (blk_cell BK108.out 1).trans rfl; have hcz15_2 : w12.cell? ⟨gb108, 2, none⟩ = some (.slice A1_2 l1_2.length c1_2) := (blk_cell BK108.out 2).trans rfl; have hfz15_0 := blk_frozen BK108.out 0; have hfz15_1 := blk_frozen BK108.out 1; have hfz15_2 := blk_frozen BK108.out 2))
      go_ret
      exact ⟨by first | rfl | (simp [errW_none, errW_some] <;> rfl) | (simp [*, errW_none, errW_some] <;> rfl), by repeat (first | (with_reducible first | exact HB.out | apply below_alloc | apply pw_below_drewN | apply below_drew1 | refine below_set ?_ GE107.out | refine below_set ?_ GE108.out) | exact HB.out)⟩
  · rw [if_neg c3] at H
    have c3b0 : (a0_0.toList == a1_0.toList) = false := beq_eq_false_iff_ne.mpr c3
    have c3b1 : (a0_0.toList != a1_0.toList) = true := bne_iff_ne.mpr c3
    obtain rfl := Option.some.inj H
    go_enter Try.func27, Try.ntmps27
    go_wp2_with (first | ((with_reducible refine gate_dst (N := 2) rfl ?_); refine box_event ?hg (N := 2) ?hd (cs := #[.string a0_0, .int .i64 a0_1, .slice A0_2 l0_2.length c0_2]) (t := 25) ?hr ?_; (case hd => rfl); (case hg => rfl); (case hr => first | (go_simp; done) | (go_simp; rfl)); intro gb107 hg w16 hbox hb; have n0_ := Aside0.mk (below_step (by repeat (first | (with_reducible first | exact HB.out | apply below_alloc | apply pw_below_drewN | apply below_drew1) | exact HB.out)) hb); have n1_ := Aside0.mk (hbox); have n2_ := Aside0.mk ((by rw [hg]; exact (below_size (by repeat (first | (with_reducible first | exact HB.out | apply below_alloc | apply pw_below_drewN | apply below_drew1) | exact HB.out))) : w.heap.size ≤ gb107)); have n3_ := Aside0.mk ((by rw [hg]; exact (below_size (by repeat (first | (with_reducible first | exact HB.out | apply below_alloc | apply pw_below_drewN | apply below_drew1) | exact HB.out))) : w.heap.size ≤ gb107)); clear HB; have HB := n0_; have BK107 := n1_; have GW107 := n2_; have GE107 := n3_; clear n0_ n1_ n2_ n3_; clear hb hbox hg) | ((with_reducible refine gate_dst (N := 3) rfl ?_); refine box_event ?hg (N := 3) ?hd (cs := #[.string a1_0, .int .i64 a1_1, .slice A1_2 l1_2.length c1_2]) (t := 25) ?hr ?_; (case hd => rfl); (case hg => rfl); (case hr => first | (go_simp; done) | (go_simp; rfl)); intro gb108 hg w17 hbox hb; have n0_ := Aside0.mk (blk_below (g := gb107) (o := .cells #[.string a0_0, .int .i64 a0_1, .slice A0_2 l0_2.length c0_2] 25 (0, 0)) (by (with_reducible repeat (first | refine blk_drewN ?_ _ | refine blk_drew ?_ | refine blk_alloc ?_ _)); exact BK107.out) hb); have n1_ := Aside0.mk (below_step (by repeat (first | (with_reducible first | exact HB.out | apply below_alloc | apply pw_below_drewN | apply below_drew1 | refine below_set ?_ GE107.out) | exact HB.out)) hb); have n2_ := Aside0.mk (hbox); have n3_ := Aside0.mk ((by rw [hg]; exact (below_size (by repeat (first | (with_reducible first | exact HB.out | apply below_alloc | apply pw_below_drewN | apply below_drew1 | refine below_set ?_ GE107.out) | exact HB.out))) : w.heap.size ≤ gb108)); have n4_ := Aside0.mk ((by rw [hg]; exact (below_size (by repeat (first | (with_reducible first | exact HB.out | apply below_alloc | apply pw_below_drewN | apply below_drew1 | refine below_set ?_ GE107.out) | exact HB.out))) : w.heap.size ≤ gb108)); have n5_ := Aside0.mk ((by rw [hg]; exact Nat.ne_of_lt (blk_lt (g := gb107) (o := .cells #[.string a0_0, .int .i64 a0_1, .slice A0_2 l0_2.length c0_2] 25 (0, 0)) (by (with_reducible repeat (first | refine blk_drewN ?_ _ | refine blk_drew ?_ | refine blk_alloc ?_ _)); exact BK107.out)) : gb107 ≠ gb108)); have n6_ := Aside0.mk ((by rw [hg]; exact Nat.ne_of_gt (blk_lt (g := gb107) (o := .cells #[.string a0_0, .int .i64 a0_1, .slice A0_2 l0_2.length c0_2] 25 (0, 0)) (by (with_reducible repeat (first | refine blk_drewN ?_ _ | refine blk_drew ?_ | refine blk_alloc ?_ _)); exact BK107.out)) : gb108 ≠ gb107)); clear BK107; clear HB; have BK107 := n0_; have HB := n1_; have BK108 := n2_; have GW108 := n3_; have GE108 := n4_; have NB107_108 := n5_; have NB108_107 := n6_; clear n0_ n1_ n2_ n3_ n4_ n5_ n6_; clear hb hbox hg; have hnb18 := NB107_108.out; have hnc18 := NB108_107.out; have hcz19_0 : w17.cell? ⟨gb107, 0, none⟩ = some (.string a0_0) := (blk_cell BK107.out 0).trans rfl; have hcz19_1 : w17.cell? ⟨gb107, 1, none⟩ = some (.int .i64 a0_1) := (blk_cell BK107.out 1).trans rfl; have hcz19_2 : w17.cell? ⟨gb107, 2, none⟩ = some (.slice A0_2 l0_2.length c0_2) := (blk_cell BK107.out 2).trans rfl; have hfz19_0 := blk_frozen BK107.out 0; have hfz19_1 := blk_frozen BK107.out 1; have hfz19_2 := blk_frozen BK107.out 2; have hcz20_0 : w17.cell? ⟨gb108, 0, none⟩ = some (.string a1_0) := (blk_cell BK108.out 0).trans rfl; have hcz20_1 : w17.cell? ⟨gb108, 1, none⟩ = some (.int .i64 a1_1) := (blk_cell BK108.out 1).trans rfl; have hcz20_2 : w17.cell? ⟨gb108, 2, none⟩ = some (.slice A1_2 l1_2.length c1_2) := (blk_cell BK108.out 2).trans rfl; have hfz20_0 := blk_frozen BK108.out 0; have hfz20_1 := blk_frozen BK108.out 1; have hfz20_2 := blk_frozen BK108.out 2))
    go_ret
    exact ⟨by first | rfl | (simp [errW_none, errW_some] <;> rfl) | (simp [*, errW_none, errW_some] <;> rfl), by repeat (first | (with_reducible first | exact HB.out | apply below_alloc | apply pw_below_drewN | apply below_drew1 | refine below_set ?_ GE107.out | refine below_set ?_ GE108.out) | exact HB.out)⟩
theorem equal_fields_loop (a b : List SField) (hl : a.length ≤ 9223372036854775807) (he : a.length = b.length) : ∀ (d i k : Nat), i + d = a.length → d < k → (∀ j, j < i → eqField (a.getD j zField) (b.getD j zField) = true) →
    slices_Equal_api_Field.l0 k a b (a.length : Int) (i : Int) = some (eqf eqField zField a b) := by
  intro d
  induction d with
  | zero =>
    intro i k hi hk h
    obtain ⟨k, rfl⟩ := rounds_of hk
    simp only [slices_Equal_api_Field.l0]
    rw [if_neg (by omega), eqf_all he (fun j hj => h j (by omega))]
  | succ d ih =>
    intro i k hi hk h
    obtain ⟨k, rfl⟩ := rounds_of hk
    simp only [slices_Equal_api_Field.l0]
    rw [if_pos (by omega), if_pos (by omega), if_pos (by omega), if_pos (by omega), wrap_succ (by omega)]
    rw [show rd_TField a (i : Int) = a.getD i zField from rfl, show rd_TField b (i : Int) = b.getD i zField from rfl]
    cases hq : eqField (a.getD i zField) (b.getD i zField) with
    | true =>
      have hq2 := hq
      unfold eqField at hq
      rw [Bool.and_eq_true] at hq
      rw [hq.1, hq.2]
      exact ih (i + 1) k (by omega) (by omega) (all_next h hq2)
    | false =>
      rw [eqf_hit i (by omega) hq]
      unfold eqField at hq
      rw [Bool.and_eq_false_iff] at hq
      rcases hq with hq | hq <;> (rw [hq, if_pos (by simp)])
theorem equal_fields (a b : List SField) (hl : a.length ≤ 9223372036854775807) {k : Nat} (hk : a.length < k) : slices_Equal_api_Field.f k a b = some (eqf eqField zField a b) := by
  unfold slices_Equal_api_Field.f
  by_cases he : a.length = b.length
  · rw [if_pos (by omega)]
    exact equal_fields_loop a b hl he a.length 0 k (by omega) hk (fun j hj => by omega)
  · rw [if_neg (by omega), eqf_len he]
theorem schema_Same_is (x y : SSchema) (hl : x.f2.length ≤ 9223372036854775807) {k : Nat} (hk : x.f2.length < k) : schema_Same.f k x.f0 x.f1 x.f2 y.f0 y.f1 y.f2 = some (eqSchema x y) := by
  unfold schema_Same.f eqSchema
  by_cases h1 : x.f0.toList = y.f0.toList
  · rw [if_pos h1, decide_eq_true h1]
    by_cases h2 : x.f1 = y.f1
    · rw [if_pos h2, decide_eq_true h2, equal_fields _ _ hl hk]
      rfl
    · rw [if_neg h2, decide_eq_false h2]
      rfl
  · rw [if_neg h1, decide_eq_false h1]
    rfl

end Go.Proofs.Ytbgdamlidohfhaa.P

namespace Go.Proofs.Ytbgdamlidohfhaa.P
open Go.RowKit Go.Proofs.YtbgdamlidohfhaaW.PrintWords Go.Proofs.YtbgdamlidohfhaaW.PrintLast Go.Proofs.YtbgdamlidohfhaaW.PrintMore
attribute [local go_sem] max2_int min2_int max_two min_two max_three min_three max_four min_four   -- for this text's walks alone
set_option linter.unusedVariables false
set_option linter.unusedSimpArgs false

/-! ### slices_IndexFunc_api_Field: function 59 -/
set_option maxHeartbeats 400000 in
theorem slices_IndexFunc_api_Field.told (g : Nat) (caps : Array Value) (p : SField → Bool) (A0 : Option Addr) (cp : Nat) (l0 : List SField) (w : World) (eg : ∀ args w, (callFunc g args).run Try.prog w = .ok (.enter g args) w) (hp : Tells Try.prog kField g caps p w) (hr0 : Kd.C kField w A0 l0.length l0) (hc0 : l0.length ≤ cp) :
    Calls Try.prog 59 #[.slice A0 l0.length cp, .func (.func g) #[] caps] w (idxPost p l0 w) := by
  have HR0 := Aside0.mk hr0
  have HC0 := Aside0.mk hc0
  have HP := Aside0.mk hp
  have hm := hr0.2.1
  clear hr0 hc0 hp
  go_enter Try.func59, Try.ntmps59
  go_wp2
  go_loopw [4, 5, 8] (fun v4 v5 v8 w' => ∃ k : Nat, v8 = .int .i64 k ∧ idxRel p l0 zField w k w') (fun _ _ i _ => l0.length - (intOf i).toNat)
  case atStart => exact ⟨0, rfl, Nat.zero_le _, fun i hi => by omega, Below.refl _ _⟩
  case round =>
    obtain ⟨k, rfl, HK⟩ := hrel
    have HK := Aside0.mk HK
    by_cases hlt : k < l0.length
    · obtain ⟨ad, cs, e, hl, hK, hcell⟩ := Kd.C_get (Kd.C_below HR0.out HK.out.2.2) zField (k : Int) (by omega) (by omega)
      cases e
      simp only [Int.toNat_natCast] at hK hcell
      obtain ⟨c0, c1, rfl⟩ := cells2 cs hl
      have hx0 : wr.cell? (ad.add (k * 2)) = some c0 := hcell 0 _ rfl
      have hx1 : wr.cell? ⟨(ad.add (k * 2)).block, (ad.add (k * 2)).off + 1, none⟩ = some c1 := by rw [← add_field _ _ 1 (by omega)]; exact hcell 1 _ rfl
      have hcall := HP.out (l0.getD k zField) _ wr HK.out.2.2 hK
      clear hcell hK hl
      cases hp : p (l0.getD k zField) with
      | true =>
        rw [hp] at hcall
        have HQ := Aside0.mk hp; clear hp
        go_wp2_with (go_at_fn g; refine hcall.mono ?_; rintro e w1 ⟨rfl, hb1⟩)
        go_ret
        exact ⟨by rw [idx_skip p zField l0 k HK.out.2.1 hlt HQ.out]; rfl, below_step HK.out.2.2 hb1⟩
      | false =>
        rw [hp] at hcall
        have HQ := Aside0.mk hp; clear hp
        go_wp2_with (go_at_fn g; refine hcall.mono ?_; rintro e w1 ⟨rfl, hb1⟩)
        go_roundw
        case rel => exact ⟨k + 1, by go_num, by omega, fun i hi => by rcases Nat.lt_succ_iff_lt_or_eq.1 hi with h | rfl; exact HK.out.2.1 i h; exact HQ.out, below_step HK.out.2.2 hb1⟩
        case measure => simp [intOf]; omega
    · go_wp2
      go_ret
      exact ⟨by rw [idx_none p zField l0 (fun i hi => HK.out.2.1 i (by omega))]; rfl, HK.out.2.2⟩

end Go.Proofs.Ytbgdamlidohfhaa.P

namespace Go.Proofs.Ytbgdamlidohfhaa.P
open Go.RowKit Go.Proofs.YtbgdamlidohfhaaW.PrintWords Go.Proofs.YtbgdamlidohfhaaW.PrintLast Go.Proofs.YtbgdamlidohfhaaW.PrintMore
attribute [local go_sem] max2_int min2_int max_two min_two max_three min_three max_four min_four   -- for this text's walks alone
set_option linter.unusedVariables false
set_option linter.unusedSimpArgs false

/-! ### slices_ContainsFunc_api_Field: function 44 -/
set_option maxHeartbeats 400000 in
theorem slices_ContainsFunc_api_Field.told (g : Nat) (caps : Array Value) (p : SField → Bool) (A0 : Option Addr) (cp : Nat) (l0 : List SField) (w : World) (eg : ∀ args w, (callFunc g args).run Try.prog w = .ok (.enter g args) w) (hp : Tells Try.prog kField g caps p w) (hr0 : Kd.C kField w A0 l0.length l0) (hc0 : l0.length ≤ cp) :
    Calls Try.prog 44 #[.slice A0 l0.length cp, .func (.func g) #[] caps] w (boolPost (l0.any p) w) := by
  obtain ⟨ha, hn⟩ := idx_any p l0
  have HA := Aside0.mk ha
  have HC := Aside0.mk (slices_IndexFunc_api_Field.told g caps p A0 cp l0 w eg hp hr0 hc0)
  clear ha hn eg hp hr0
  go_enter Try.func44, Try.ntmps44
  go_wp2_with (go_at_call 59; refine HC.out.mono ?_; rintro e w1 ⟨rfl, hb1⟩)
  go_ret
  exact ⟨by rw [← HA.out]; rfl, hb1⟩

end Go.Proofs.Ytbgdamlidohfhaa.P

namespace Go.Proofs.Ytbgdamlidohfhaa.P
open Go.RowKit Go.Proofs.YtbgdamlidohfhaaW.PrintWords Go.Proofs.YtbgdamlidohfhaaW.PrintLast Go.Proofs.YtbgdamlidohfhaaW.PrintMore
attribute [local go_sem] max2_int min2_int max_two min_two max_three min_three max_four min_four   -- for this text's walks alone
set_option linter.unusedVariables false
set_option linter.unusedSimpArgs false

/-! ### schema_May: function 28 -/
theorem may1_told (nm : ByteArray) (B : Nat) (w : World) (hB : B < w.heap.size) (hc : w.cell? ⟨B, 0, none⟩ = some (.string nm)) :
    Tells Try.prog kField 45 #[.pointer (some ⟨B, 0, none⟩)] (fun x : SField => x.f0.toList == nm.toList) w := by
  intro x cs W hW hK
  obtain rfl := kField_open hK
  have hc2 : W.cell? ⟨B, 0, none⟩ = some (.string nm) := (hW.cell (p := ⟨B, 0, none⟩) hB).trans hc
  have hB2 : B < W.heap.size := Nat.lt_of_lt_of_le hB hW.size
  clear hc hW hK hB
  show Calls _ _ #[.agg #[.string x.f0, .int .i64 x.f1], .pointer (some ⟨B, 0, none⟩)] W (boolPost (x.f0.toList == nm.toList) W)
  go_enter Try.func45, Try.ntmps45
  go_wp2
  go_ret
  exact ⟨rfl, (Below.refl _ _).alloc (Nat.le_refl _) _⟩
theorem name_told {s : ByteArray} {b : Bool} (h : nameB s = b) (W : World) : Calls Try.prog 30 #[.string s] W (boolPost b W) := schema_Name.calls s b W (by rw [← h]; rfl)
def schema_May.f (a0_0 : ByteArray) (a0_1 : Int) (l0_2 : List SField) : Option Bool := some (mayB a0_0 a0_1 l0_2)
theorem may_twice (nm : ByteArray) (B k : Nat) (ad : Addr) (c : Nat) (l : List SField) (W : World) (hB : B < W.heap.size) (hc : W.cell? ⟨B, 0, none⟩ = some (.string nm)) (hr : Kd.C kField W (some ad) l.length l) (hk : k ≤ l.length) (hlc : l.length ≤ c) :
    Calls Try.prog 44 #[.slice (some ad) k c, .func (.func 45) #[] #[.pointer (some ⟨B, 0, none⟩)]] W (boolPost ((l.take k).any fun x : SField => x.f0.toList == nm.toList) W) := by
  have h := slices_ContainsFunc_api_Field.told 45 #[.pointer (some ⟨B, 0, none⟩)] (fun x : SField => x.f0.toList == nm.toList) (some ad) c (l.take k) W (enters_of Try.func45 (by kernel_rfl) rfl) (may1_told nm B W hB hc) (Kd.C_take hr hk) (by rw [List.length_take]; omega)
  rwa [List.length_take, Nat.min_eq_left hk] at h
theorem may_hit {nm : ByteArray} {ver : Int} {F : List SField} (k : Nat) (hk : k < F.length) (h : fieldOK F k = false) : mayB nm ver F = false := by
  unfold mayB
  rw [range_all_hit _ _ k hk h]
  simp
theorem may_all {nm : ByteArray} {ver : Int} {F : List SField} (h : ∀ i, i < F.length → fieldOK F i = true) : mayB nm ver F = (nameB nm && (decide (1 ≤ ver) && (decide (ver ≤ 1000) && decide (F.length ≤ 6)))) := by
  unfold mayB
  rw [range_all_none _ _ h, Bool.and_true]
theorem mayB_parts {nm : ByteArray} {ver : Int} {F : List SField} (h : mayB nm ver F = true) : nameB nm = true ∧ 1 ≤ ver ∧ ver ≤ 1000 ∧ F.length ≤ 6 ∧ ∀ i, i < F.length → fieldOK F i = true := by
  unfold mayB at h
  simp only [Bool.and_eq_true, decide_eq_true_eq] at h
  exact ⟨h.1, h.2.1, h.2.2.1, h.2.2.2.1, fun i hi => List.all_eq_true.1 h.2.2.2.2 i (List.mem_range.2 hi)⟩
theorem nameB_size {s : ByteArray} (h : nameB s = true) : s.size ≠ 0 ∧ s.size ≤ 12 := by
  unfold nameB at h
  simp only [Bool.and_eq_true, decide_eq_true_eq] at h
  exact ⟨h.2.1, h.2.2⟩
theorem fieldOK_parts {F : List SField} {i : Nat} (h : fieldOK F i = true) : nameB (F.getD i zField).f0 = true ∧ 0 ≤ (F.getD i zField).f1 ∧ (F.getD i zField).f1 < 4 := by
  unfold fieldOK at h
  simp only [Bool.and_eq_true, decide_eq_true_eq] at h
  exact ⟨h.2.1, h.2.2.1, h.2.2.2⟩
def mayRel (nm : ByteArray) (ver : Int) (A : Option Addr) (c : Nat) (F : List SField) (w : World) (k : Nat) (w' : World) : Prop :=
  k ≤ F.length ∧ (∀ i, i < k → fieldOK F i = true) ∧ Below w.heap.size w w' ∧ w'.heap[w.heap.size]? = some (.cells #[.string nm, .int .i64 ver, .slice A F.length c] 25 (0, 0))
set_option maxHeartbeats 2000000 in
set_option maxRecDepth 20000 in
theorem schema_May.calls (a0_0 : ByteArray) (a0_1 : Int) (A0_2 : Option Addr) (c0_2 : Nat) (l0_2 : List SField) (r : Bool) (w : World) (hr0_2 : Kd.C kField w A0_2 l0_2.length l0_2) (hc0_2 : l0_2.length ≤ c0_2) (h : schema_May.f a0_0 a0_1 l0_2 = some r) :
    Calls Try.prog 28 #[.agg #[.string a0_0, .int .i64 a0_1, .slice A0_2 l0_2.length c0_2]] w fun e w' => e = .returned (.bool r) ∧ Below w.heap.size w w' := by
  obtain rfl := Option.some.inj h
  clear h
  have hm := hr0_2.2.1
  show Calls _ _ _ _ (boolPost (mayB a0_0 a0_1 l0_2) w)
  have HR := Aside0.mk hr0_2
  have HC := Aside0.mk hc0_2
  clear hr0_2 hc0_2
  obtain ⟨q, hq⟩ : ∃ q, mayB a0_0 a0_1 l0_2 = q := ⟨_, rfl⟩
  have HQ := Aside0.mk hq
  rw [hq]
  unfold mayB at hq
  cases hn : nameB a0_0 with
  | false =>
    rw [hn, Bool.false_and] at hq
    have HN := Aside0.mk hn
    subst hq
    clear hn
    go_enter Try.func28, Try.ntmps28
    go_wp2_with (go_at_call 30; refine (name_told HN.out _).mono ?_; rintro e w1 ⟨rfl, hb1⟩)
    go_ret
    exact ⟨rfl, below_step ((Below.refl _ _).alloc (Nat.le_refl _) _) hb1⟩
  | true =>
    rw [hn, Bool.true_and] at hq
    have HN := Aside0.mk hn
    have HQ2 := Aside0.mk hq
    clear hn hq
    go_enter Try.func28, Try.ntmps28
    go_wp2_with (go_at_call 30; refine (name_told HN.out _).mono ?_; rintro e w1 ⟨rfl, hb1⟩; have hk1 := blk_below (blk_new _ _) hb1; have hS1 : w.heap.size < w1.heap.size := by { have h_ := hb1.size; rw [World.size_alloc] at h_; omega }; have hd1 : w1.cell? ⟨w.heap.size, 1, none⟩ = some (.int .i64 a0_1) := (blk_cell hk1 1).trans rfl; have hd2 : w1.cell? ⟨w.heap.size, 2, none⟩ = some (.slice A0_2 l0_2.length c0_2) := (blk_cell hk1 2).trans rfl; have HK1 := Aside0.mk hk1; clear hk1)
    any_goals (go_ret; exact ⟨by rw [show q = false from by rw [← HQ2.out]; simp only [Bool.and_eq_false_iff, decide_eq_false_iff_not]; omega]; rfl, below_step ((Below.refl _ _).alloc (Nat.le_refl _) _) hb1⟩)
    go_loopw [3, 4, 5, 29] (fun _ _ _ v29 w' => ∃ k : Nat, v29 = .int .i64 k ∧ mayRel a0_0 a0_1 A0_2 c0_2 l0_2 w k w') (fun _ _ _ i _ => l0_2.length - (intOf i).toNat)
    case atStart => exact ⟨0, rfl, Nat.zero_le _, fun i hi => by omega, below_step ((Below.refl _ _).alloc (Nat.le_refl _) _) hb1, HK1.out⟩
    case round =>
      obtain ⟨k, rfl, HK⟩ := hrel
      obtain ⟨hkl, hall, hb, hblk⟩ := HK
      have HALL := Aside0.mk hall
      have HB := Aside0.mk hb
      have HBLK := Aside0.mk hblk
      clear hall hb hblk
      by_cases hlt : k < l0_2.length
      · obtain ⟨ad, e, hx0, hx1⟩ := at_TField (Kd.C_below HR.out HB.out) (k : Int) (by omega) (by omega)
        cases e
        simp only [Int.toNat_natCast] at hx0 hx1
        rw [show rd_TField l0_2 (k : Int) = l0_2.getD k zField from rfl] at hx0 hx1
        have HF : Aside0 (fieldOK l0_2 k = (!((l0_2.take k).any (fun x => x.f0.toList == (l0_2.getD k zField).f0.toList)) && (nameB (l0_2.getD k zField).f0 && (decide (0 ≤ (l0_2.getD k zField).f1) && decide ((l0_2.getD k zField).f1 < 4))))) := ⟨rfl⟩
        generalize l0_2.getD k zField = x at *
        have hsz : w.heap.size < wr.heap.size := blk_lt HBLK.out
        have hlc := HC.out
        have hc2 : wr.cell? ⟨w.heap.size, 2, none⟩ = some (.slice (some ad) l0_2.length c0_2) := (blk_cell HBLK.out 2).trans rfl
        cases ht : (l0_2.take k).any (fun y => y.f0.toList == x.f0.toList) with
        | true =>
          have HT := Aside0.mk ht
          clear ht
          go_wp2_with (go_at_call 44; refine (may_twice x.f0 wr.heap.size k ad c0_2 l0_2 _ (by simp) ((blk_cell (blk_new _ _) 0).trans rfl) (Kd.C_alloc (Kd.C_below HR.out HB.out) _) (by omega) HC.out).mono ?_; rintro e w2 ⟨rfl, hb2⟩; rw [HT.out])
          go_ret
          exact ⟨by rw [← HQ.out, may_hit k hlt (by rw [HF.out, HT.out]; rfl)]; rfl, below_step (below_alloc HB.out _) hb2⟩
        | false =>
          have HT := Aside0.mk ht
          clear ht
          cases hn2 : nameB x.f0 with
          | false =>
            have HN2 := Aside0.mk hn2
            clear hn2
            go_wp2_with (first | (go_at_call 44; refine (may_twice x.f0 wr.heap.size k ad c0_2 l0_2 _ (by simp) ((blk_cell (blk_new _ _) 0).trans rfl) (Kd.C_alloc (Kd.C_below HR.out HB.out) _) (by omega) HC.out).mono ?_; rintro e w2 ⟨rfl, hb2⟩; rw [HT.out]; have hk2 := blk_below (blk_new _ _) hb2; have hS2 : wr.heap.size < w2.heap.size := blk_lt hk2; have hd0 : w2.cell? ⟨wr.heap.size, 0, none⟩ = some (.string x.f0) := (blk_cell hk2 0).trans rfl; have hd1 : w2.cell? ⟨wr.heap.size, 1, none⟩ = some (.int .i64 x.f1) := (blk_cell hk2 1).trans rfl; have HK2 := Aside0.mk hk2; clear hk2) | (go_at_call 30; refine (name_told HN2.out _).mono ?_; rintro e w3 ⟨rfl, hb3⟩))
            go_ret
            exact ⟨by rw [← HQ.out, may_hit k hlt (by rw [HF.out, HT.out, HN2.out]; rfl)]; rfl, below_step (below_step (below_alloc HB.out _) hb2) hb3⟩
          | true =>
            have HN2 := Aside0.mk hn2
            clear hn2
            by_cases hkd : 0 ≤ x.f1 ∧ x.f1 < 4
            · obtain ⟨hkd1, hkd2⟩ := hkd
              have HOK : Aside0 (fieldOK l0_2 k = true) := ⟨by rw [HF.out, HT.out, HN2.out, decide_eq_true hkd1, decide_eq_true hkd2]; rfl⟩
              go_wp2_with (first | (go_at_call 44; refine (may_twice x.f0 wr.heap.size k ad c0_2 l0_2 _ (by simp) ((blk_cell (blk_new _ _) 0).trans rfl) (Kd.C_alloc (Kd.C_below HR.out HB.out) _) (by omega) HC.out).mono ?_; rintro e w2 ⟨rfl, hb2⟩; rw [HT.out]; have hk2 := blk_below (blk_new _ _) hb2; have hS2 : wr.heap.size < w2.heap.size := blk_lt hk2; have hd0 : w2.cell? ⟨wr.heap.size, 0, none⟩ = some (.string x.f0) := (blk_cell hk2 0).trans rfl; have hd1 : w2.cell? ⟨wr.heap.size, 1, none⟩ = some (.int .i64 x.f1) := (blk_cell hk2 1).trans rfl; have HK2 := Aside0.mk hk2; clear hk2) | (go_at_call 30; refine (name_told HN2.out _).mono ?_; rintro e w3 ⟨rfl, hb3⟩; have hk3 := blk_below HK2.out hb3; have hS3 : wr.heap.size < w3.heap.size := blk_lt hk3; have he1 : w3.cell? ⟨wr.heap.size, 1, none⟩ = some (.int .i64 x.f1) := (blk_cell hk3 1).trans rfl; clear hk3))
              have hb5 := below_step (below_step (below_alloc HB.out _) hb2) hb3
              have hm5 : w3.heap[w.heap.size]? = some (.cells #[.string a0_0, .int .i64 a0_1, .slice (some ad) l0_2.length c0_2] 25 (0, 0)) := blk_below (blk_below (blk_alloc HBLK.out _) hb2) hb3
              go_roundw
              case rel => exact ⟨k + 1, by go_num, by omega, all_next HALL.out HOK.out, hb5, hm5⟩
              case measure => simp [intOf]; omega
            · have HOK : Aside0 (fieldOK l0_2 k = false) := ⟨by rw [HF.out, HT.out, HN2.out]; simp only [Bool.not_false, Bool.true_and, Bool.and_eq_false_iff, decide_eq_false_iff_not]; omega⟩
              go_wp2_with (first | (go_at_call 44; refine (may_twice x.f0 wr.heap.size k ad c0_2 l0_2 _ (by simp) ((blk_cell (blk_new _ _) 0).trans rfl) (Kd.C_alloc (Kd.C_below HR.out HB.out) _) (by omega) HC.out).mono ?_; rintro e w2 ⟨rfl, hb2⟩; rw [HT.out]; have hk2 := blk_below (blk_new _ _) hb2; have hS2 : wr.heap.size < w2.heap.size := blk_lt hk2; have hd0 : w2.cell? ⟨wr.heap.size, 0, none⟩ = some (.string x.f0) := (blk_cell hk2 0).trans rfl; have hd1 : w2.cell? ⟨wr.heap.size, 1, none⟩ = some (.int .i64 x.f1) := (blk_cell hk2 1).trans rfl; have HK2 := Aside0.mk hk2; clear hk2) | (go_at_call 30; refine (name_told HN2.out _).mono ?_; rintro e w3 ⟨rfl, hb3⟩; have hk3 := blk_below HK2.out hb3; have hS3 : wr.heap.size < w3.heap.size := blk_lt hk3; have he1 : w3.cell? ⟨wr.heap.size, 1, none⟩ = some (.int .i64 x.f1) := (blk_cell hk3 1).trans rfl; clear hk3))
              all_goals first
                | (exfalso; omega)
                | (go_ret; exact ⟨by rw [← HQ.out, may_hit k hlt HOK.out]; rfl, below_step (below_step (below_alloc HB.out _) hb2) hb3⟩)
      · have hq2 := may_all (nm := a0_0) (ver := a0_1) (fun i hi => HALL.out i (by omega))
        have hq3 : q = true := by
          rw [← HQ.out, hq2, HN.out]
          simp only [Bool.true_and, Bool.and_eq_true, decide_eq_true_eq]
          omega
        clear hq2
        subst hq3
        go_wp2
        go_ret
        exact ⟨rfl, HB.out⟩

end Go.Proofs.Ytbgdamlidohfhaa.P

namespace Go.Proofs.Ytbgdamlidohfhaa.P
open Go.RowKit Go.Proofs.YtbgdamlidohfhaaW.PrintWords Go.Proofs.YtbgdamlidohfhaaW.PrintLast Go.Proofs.YtbgdamlidohfhaaW.PrintMore
attribute [local go_sem] max2_int min2_int max_two min_two max_three min_three max_four min_four   -- for this text's walks alone
set_option linter.unusedVariables false
set_option linter.unusedSimpArgs false

/-! ### schema_Fits: function 38 -/
def schema_Fits.f (k : Nat) (a0_0 : ByteArray) (a0_1 : Int) (l0_2 : List (SField)) (a1_0 : ByteArray) (a1_1 : Int) (l1_2 : List (SField)) : Option (Bool) := (schema_May.f a0_0 a0_1 l0_2).bind fun t112 => (if t112 = true then ((schema_May.f a1_0 a1_1 l1_2).bind fun t113 => (if t113 = true then (if (l1_2.length : Int) < (l0_2.length : Int) then (some false) else (if 0 ≤ (l0_2.length : Int) then (if (l0_2.length : Int) ≤ (l1_2.length : Int) then ((schema_Same.f k a0_0 a0_1 l0_2 a1_0 (wrap64 (a1_1 - 1)) (l1_2.take ((l0_2.length : Int) : Int).toNat)).bind fun t118 => (some t118)) else (none)) else (none))) else (some false))) else (some false))
theorem schema_Fits.mono : ∀ a0 a1 a2 a3 a4 a5 k, LeO (schema_Fits.f k a0 a1 a2 a3 a4 a5) (schema_Fits.f (k + 1) a0 a1 a2 a3 a4 a5) := by
  intro a0 a1 a2 a3 a4 a5 k
  unfold schema_Fits.f
  repeat' first
      | (with_reducible exact schema_Same.mono _ _ _ _ _ _ _)
      | (with_reducible exact LeO.refl _)
      | (with_reducible exact LeO.none _)
      | (with_reducible refine LeO.ite ?_ ?_)
      | (with_reducible refine LeO.bind ?_ (fun _ => ?_))
      | exact schema_Same.mono _ _ _ _ _ _ _
      | exact LeO.none _
      | refine LeO.ite ?_ ?_
      | refine LeO.bind ?_ (fun _ => ?_)
set_option maxHeartbeats 8000000 in
set_option maxRecDepth 100000 in
theorem schema_Fits.calls (k : Nat) (a0_0 : ByteArray) (a0_1 : Int) (A0_2 : Option Addr) (c0_2 : Nat) (l0_2 : List (SField)) (a1_0 : ByteArray) (a1_1 : Int) (A1_2 : Option Addr) (c1_2 : Nat) (l1_2 : List (SField)) (r : Bool) (w : World) (hr0_2 : Kd.C kField w A0_2 l0_2.length l0_2) (hc0_2 : l0_2.length ≤ c0_2) (hr1_2 : Kd.C kField w A1_2 l1_2.length l1_2) (hc1_2 : l1_2.length ≤ c1_2) (h : schema_Fits.f k a0_0 a0_1 l0_2 a1_0 a1_1 l1_2 = some r) :
    Calls Try.prog 38 #[.agg #[.string a0_0, .int .i64 a0_1, .slice A0_2 l0_2.length c0_2], .agg #[.string a1_0, .int .i64 a1_1, .slice A1_2 l1_2.length c1_2]] w fun e w' => e = .returned (.bool r) ∧ Below w.heap.size w w' := by
  have hu25 := Try.underlying25
  have HR0_2 := Aside0.mk hr0_2
  have HC0_2 := Aside0.mk hc0_2
  clear hr0_2 hc0_2
  have HR1_2 := Aside0.mk hr1_2
  have HC1_2 := Aside0.mk hc1_2
  clear hr1_2 hc1_2
  have HB := Aside0.mk (Below.refl w.heap.size w)
  have H : ((schema_May.f a0_0 a0_1 l0_2).bind fun t112 => (if t112 = true then ((schema_May.f a1_0 a1_1 l1_2).bind fun t113 => (if t113 = true then (if (l1_2.length : Int) < (l0_2.length : Int) then (some false) else (if 0 ≤ (l0_2.length : Int) then (if (l0_2.length : Int) ≤ (l1_2.length : Int) then ((schema_Same.f k a0_0 a0_1 l0_2 a1_0 (wrap64 (a1_1 - 1)) (l1_2.take ((l0_2.length : Int) : Int).toNat)).bind fun t118 => (some t118)) else (none)) else (none))) else (some false))) else (some false))) = some r := h
  clear h
  replace H := Option.bind_eq_some_iff.mp H
  obtain ⟨t112, A30, H⟩ := H
  replace H : (if t112 = true then ((schema_May.f a1_0 a1_1 l1_2).bind fun t113 => (if t113 = true then (if (l1_2.length : Int) < (l0_2.length : Int) then (some false) else (if 0 ≤ (l0_2.length : Int) then (if (l0_2.length : Int) ≤ (l1_2.length : Int) then ((schema_Same.f k a0_0 a0_1 l0_2 a1_0 (wrap64 (a1_1 - 1)) (l1_2.take ((l0_2.length : Int) : Int).toNat)).bind fun t118 => (some t118)) else (none)) else (none))) else (some false))) else (some false)) = some r := H
  have A3 := Aside0.mk A30
  clear A30
  by_cases c4 : t112 = true
  · subst c4
    have H1 : ((schema_May.f a1_0 a1_1 l1_2).bind fun t113 => (if t113 = true then (if (l1_2.length : Int) < (l0_2.length : Int) then (some false) else (if 0 ≤ (l0_2.length : Int) then (if (l0_2.length : Int) ≤ (l1_2.length : Int) then ((schema_Same.f k a0_0 a0_1 l0_2 a1_0 (wrap64 (a1_1 - 1)) (l1_2.take ((l0_2.length : Int) : Int).toNat)).bind fun t118 => (some t118)) else (none)) else (none))) else (some false))) = some r := by rw [if_pos rfl] at H; exact H
    clear H
    have H := H1
    clear H1
    replace H := Option.bind_eq_some_iff.mp H
    obtain ⟨t113, A50, H⟩ := H
    replace H : (if t113 = true then (if (l1_2.length : Int) < (l0_2.length : Int) then (some false) else (if 0 ≤ (l0_2.length : Int) then (if (l0_2.length : Int) ≤ (l1_2.length : Int) then ((schema_Same.f k a0_0 a0_1 l0_2 a1_0 (wrap64 (a1_1 - 1)) (l1_2.take ((l0_2.length : Int) : Int).toNat)).bind fun t118 => (some t118)) else (none)) else (none))) else (some false)) = some r := H
    have A5 := Aside0.mk A50
    clear A50
    by_cases c6 : t113 = true
    · subst c6
      have H1 : (if (l1_2.length : Int) < (l0_2.length : Int) then (some false) else (if 0 ≤ (l0_2.length : Int) then (if (l0_2.length : Int) ≤ (l1_2.length : Int) then ((schema_Same.f k a0_0 a0_1 l0_2 a1_0 (wrap64 (a1_1 - 1)) (l1_2.take ((l0_2.length : Int) : Int).toNat)).bind fun t118 => (some t118)) else (none)) else (none))) = some r := by rw [if_pos rfl] at H; exact H
      clear H
      have H := H1
      clear H1
      by_cases c7 : (l1_2.length : Int) < (l0_2.length : Int)
      · rw [if_pos c7] at H
        have c7b0 : decide ((l1_2.length : Int) < (l0_2.length : Int)) = true := decide_eq_true c7
        have c7b1 : decide (l1_2.length < l0_2.length) = true := decide_eq_true (Int.ofNat_lt.mp c7)
        clear c7
        obtain rfl := Option.some.inj H
        go_enter Try.func38, Try.ntmps38
        go_wp2_with (first | ((with_reducible refine gate_dst (N := 2) rfl ?_); (try (refine gate_guard (by rfl) ?_; dsimp only)); refine box_event ?hg (N := 2) ?hd (cs := #[.string a0_0, .int .i64 a0_1, .slice A0_2 l0_2.length c0_2]) (t := 25) ?hr ?_; (case hd => rfl); (case hg => rfl); (case hr => first | (go_simp; done) | (go_simp; rfl)); intro gb110 hg w8 hbox hb; have n0_ := Aside0.mk (below_step (by repeat (first | (with_reducible first | exact HB.out | apply below_alloc | apply pw_below_drewN | apply below_drew1) | exact HB.out)) hb); have n1_ := Aside0.mk (hbox); have n2_ := Aside0.mk ((by rw [hg]; exact (below_size (by repeat (first | (with_reducible first | exact HB.out | apply below_alloc | apply pw_below_drewN | apply below_drew1) | exact HB.out))) : w.heap.size ≤ gb110)); have n3_ := Aside0.mk ((by rw [hg]; exact (below_size (by repeat (first | (with_reducible first | exact HB.out | apply below_alloc | apply pw_below_drewN | apply below_drew1) | exact HB.out))) : w.heap.size ≤ gb110)); clear HB; have HB := n0_; have BK110 := n1_; have GW110 := n2_; have GE110 := n3_; clear n0_ n1_ n2_ n3_; clear hb hbox hg) | ((with_reducible refine gate_dst (N := 3) rfl ?_); (try (refine gate_guard (by rfl) ?_; dsimp only)); refine box_event ?hg (N := 3) ?hd (cs := #[.string a1_0, .int .i64 a1_1, .slice A1_2 l1_2.length c1_2]) (t := 25) ?hr ?_; (case hd => rfl); (case hg => rfl); (case hr => first | (go_simp; done) | (go_simp; rfl)); intro gb111 hg w9 hbox hb; have n0_ := Aside0.mk (blk_below (g := gb110) (o := .cells #[.string a0_0, .int .i64 a0_1, .slice A0_2 l0_2.length c0_2] 25 (0, 0)) (by (with_reducible repeat (first | refine blk_drewN ?_ _ | refine blk_drew ?_ | refine blk_alloc ?_ _)); exact BK110.out) hb); have n1_ := Aside0.mk (below_step (by repeat (first | (with_reducible first | exact HB.out | apply below_alloc | apply pw_below_drewN | apply below_drew1 | refine below_set ?_ GE110.out) | exact HB.out)) hb); have n2_ := Aside0.mk (hbox); have n3_ := Aside0.mk ((by rw [hg]; exact (below_size (by repeat (first | (with_reducible first | exact HB.out | apply below_alloc | apply pw_below_drewN | apply below_drew1 | refine below_set ?_ GE110.out) | exact HB.out))) : w.heap.size ≤ gb111)); have n4_ := Aside0.mk ((by rw [hg]; exact (below_size (by repeat (first | (with_reducible first | exact HB.out | apply below_alloc | apply pw_below_drewN | apply below_drew1 | refine below_set ?_ GE110.out) | exact HB.out))) : w.heap.size ≤ gb111)); have n5_ := Aside0.mk ((by rw [hg]; exact Nat.ne_of_lt (blk_lt (g := gb110) (o := .cells #[.string a0_0, .int .i64 a0_1, .slice A0_2 l0_2.length c0_2] 25 (0, 0)) (by (with_reducible repeat (first | refine blk_drewN ?_ _ | refine blk_drew ?_ | refine blk_alloc ?_ _)); exact BK110.out)) : gb110 ≠ gb111)); have n6_ := Aside0.mk ((by rw [hg]; exact Nat.ne_of_gt (blk_lt (g := gb110) (o := .cells #[.string a0_0, .int .i64 a0_1, .slice A0_2 l0_2.length c0_2] 25 (0, 0)) (by (with_reducible repeat (first | refine blk_drewN ?_ _ | refine blk_drew ?_ | refine blk_alloc ?_ _)); exact BK110.out)) : gb111 ≠ gb110)); clear BK110; clear HB; have BK110 := n0_; have HB := n1_; have BK111 := n2_; have GW111 := n3_; have GE111 := n4_; have NB110_111 := n5_; have NB111_110 := n6_; clear n0_ n1_ n2_ n3_ n4_ n5_ n6_; clear hb hbox hg; have hnb10 := NB110_111.out; have hnc10 := NB111_110.out; have hcz11_0 : w9.cell? ⟨gb110, 0, none⟩ = some (.string a0_0) := (blk_cell BK110.out 0).trans rfl; have hcz11_1 : w9.cell? ⟨gb110, 1, none⟩ = some (.int .i64 a0_1) := (blk_cell BK110.out 1).trans rfl; have hcz11_2 : w9.cell? ⟨gb110, 2, none⟩ = some (.slice A0_2 l0_2.length c0_2) := (blk_cell BK110.out 2).trans rfl; have hfz11_0 := blk_frozen BK110.out 0; have hfz11_1 := blk_frozen BK110.out 1; have hfz11_2 := blk_frozen BK110.out 2) | ((with_reducible refine gate_callee (f := 28) rfl ?_); refine goesL_ (some 6) rfl rfl Try.func28 (by kernel_rfl) rfl #[.agg #[.string a0_0, .int .i64 a0_1, .slice A0_2 l0_2.length c0_2]] rfl (by (try simp only [List.map_toArray, List.map_cons, List.map_nil]); first | done | rfl | (simp only [List.length_drop, List.length_take]; rfl)) ?_; (with_reducible refine (schema_May.calls a0_0 a0_1 _ _ l0_2 true _ ?side1 ?side2 A3.out).mono ?_); (case side1 => repeat (first | exact (Kd.C_below HR0_2.out HB.out) | (with_reducible refine Kd.C_alloc ?_ _) | (with_reducible refine Kd.C_drewN ?_ _) | (with_reducible refine Kd.C_drew ?_))); (case side2 => exact HC0_2.out); rintro e w12 ⟨rfl, hb⟩; refine ⟨_, rfl, ?_⟩; have n0_ := Aside0.mk (blk_below (g := gb110) (o := .cells #[.string a0_0, .int .i64 a0_1, .slice A0_2 l0_2.length c0_2] 25 (0, 0)) (by (with_reducible repeat (first | refine blk_drewN ?_ _ | refine blk_drew ?_ | refine blk_alloc ?_ _)); exact BK110.out) hb); have n1_ := Aside0.mk (blk_below (g := gb111) (o := .cells #[.string a1_0, .int .i64 a1_1, .slice A1_2 l1_2.length c1_2] 25 (0, 0)) (by (with_reducible repeat (first | refine blk_drewN ?_ _ | refine blk_drew ?_ | refine blk_alloc ?_ _)); exact BK111.out) hb); have n2_ := Aside0.mk (below_step (by repeat (first | (with_reducible first | exact HB.out | apply below_alloc | apply pw_below_drewN | apply below_drew1 | refine below_set ?_ GE110.out | refine below_set ?_ GE111.out) | exact HB.out)) hb); clear BK110; clear BK111; clear HB; have BK110 := n0_; have BK111 := n1_; have HB := n2_; clear n0_ n1_ n2_; (try clear hb); (try clear hb2); (try clear hk); (try clear hi); have hcz13_0 : w12.cell? ⟨gb111, 0, none⟩ = some (.string a1_0) := (blk_cell BK111.out 0).trans rfl; have hcz13_1 : w12.cell? ⟨gb111, 1, none⟩ = some (.int .i64 a1_1) := (blk_cell BK111.out 1).trans rfl; have hcz13_2 : w12.cell? ⟨gb111, 2, none⟩ = some (.slice A1_2 l1_2.length c1_2) := (blk_cell BK111.out 2).trans rfl; have hfz13_0 := blk_frozen BK111.out 0; have hfz13_1 := blk_frozen BK111.out 1; have hfz13_2 := blk_frozen BK111.out 2) | (go_at_call 28; (with_reducible refine (schema_May.calls a1_0 a1_1 _ _ l1_2 true _ ?side1 ?side2 A5.out).mono ?_); (case side1 => repeat (first | exact (Kd.C_below HR1_2.out HB.out) | (with_reducible refine Kd.C_alloc ?_ _) | (with_reducible refine Kd.C_drewN ?_ _) | (with_reducible refine Kd.C_drew ?_))); (case side2 => exact HC1_2.out); rintro e w14 ⟨rfl, hb⟩; have n0_ := Aside0.mk (blk_below (g := gb110) (o := .cells #[.string a0_0, .int .i64 a0_1, .slice A0_2 l0_2.length c0_2] 25 (0, 0)) (by (with_reducible repeat (first | refine blk_drewN ?_ _ | refine blk_drew ?_ | refine blk_alloc ?_ _)); exact BK110.out) hb); have n1_ := Aside0.mk (blk_below (g := gb111) (o := .cells #[.string a1_0, .int .i64 a1_1, .slice A1_2 l1_2.length c1_2] 25 (0, 0)) (by (with_reducible repeat (first | refine blk_drewN ?_ _ | refine blk_drew ?_ | refine blk_alloc ?_ _)); exact BK111.out) hb); have n2_ := Aside0.mk (below_step (by repeat (first | (with_reducible first | exact HB.out | apply below_alloc | apply pw_below_drewN | apply below_drew1 | refine below_set ?_ GE110.out | refine below_set ?_ GE111.out) | exact HB.out)) hb); clear BK110; clear BK111; clear HB; have BK110 := n0_; have BK111 := n1_; have HB := n2_; clear n0_ n1_ n2_; (try clear hb); (try clear hb2); (try clear hk); (try clear hi); have hcz15_0 : w14.cell? ⟨gb111, 0, none⟩ = some (.string a1_0) := (blk_cell BK111.out 0).trans rfl; have hcz15_1 : w14.cell? ⟨gb111, 1, none⟩ = some (.int .i64 a1_1) := (blk_cell BK111.out 1).trans rfl; have hcz15_2 : w14.cell? ⟨gb111, 2, none⟩ = some (.slice A1_2 l1_2.length c1_2) := (blk_cell BK111.out 2).trans rfl; have hfz15_0 := blk_frozen BK111.out 0; have hfz15_1 := blk_frozen BK111.out 1; have hfz15_2 := blk_frozen BK111.out 2; have hcz16_0 : w14.cell? ⟨gb110, 0, none⟩ = some (.string a0_0) := (blk_cell BK110.out 0).trans rfl; have hcz16_1 : w14.cell? ⟨gb110, 1, none⟩ = some (.int .i64 a0_1) := (blk_cell BK110.out 1).trans rfl; have hcz16_2 : w14.cell? ⟨gb110, 2, none⟩ = some (.slice A0_2 l0_2.length c0_2) := (blk_cell BK110.out 2).trans rfl; have hfz16_0 := blk_frozen BK110.out 0; have hfz16_1 := blk_frozen BK110.out 1; have hfz16_2 := blk_frozen BK110.out 2))
        go_ret
        exact ⟨by first | rfl | (simp [errW_none, errW_some] <;> rfl) | (simp [*, errW_none, errW_some] <;> rfl), by repeat (first | (with_reducible first | exact HB.out | apply below_alloc | apply pw_below_drewN | apply below_drew1 | refine below_set ?_ GE110.out | refine below_set ?_ GE111.out) | exact HB.out)⟩
      · rw [if_neg c7] at H
        have c7b0 : decide ((l1_2.length : Int) < (l0_2.length : Int)) = false := decide_eq_false c7
        have c7b1 : decide (l1_2.length < l0_2.length) = false := decide_eq_false (fun h => c7 (Int.ofNat_lt.mpr h))
        clear c7
        by_cases c17 : 0 ≤ (l0_2.length : Int)
        · rw [if_pos c17] at H
          have c17b0 := eq_true c17
          have c17b1 : decide (0 ≤ (l0_2.length : Int)) = true := decide_eq_true c17
          clear c17
          by_cases c18 : (l0_2.length : Int) ≤ (l1_2.length : Int)
          · rw [if_pos c18] at H
            have c18b0 := eq_true c18
            have c18b1 : decide ((l0_2.length : Int) ≤ (l1_2.length : Int)) = true := decide_eq_true c18
            clear c18
            obtain ⟨y114, hy114⟩ : ∃ y_ : List (SField), y_ = (l1_2.take ((l0_2.length : Int) : Int).toNat) := ⟨_, rfl⟩
            replace H : ((schema_Same.f k a0_0 a0_1 l0_2 a1_0 (wrap64 (a1_1 - 1)) y114).bind fun t118 => (some t118)) = some r := by first | (rw [hy114]; with_reducible exact H) | (have H2_ := (Option.bind_some _ _).symm.trans H; rw [hy114]; with_reducible exact H2_) | (have H2_ := (Option.bind_some _ _).symm.trans H; with_reducible exact H2_) | with_reducible exact H | (rw [hy114]; exact H) | exact H
            have Ny114 := Aside0.mk hy114
            clear hy114
            replace H := Option.bind_eq_some_iff.mp H
            obtain ⟨t118, A190, H⟩ := H
            replace H : (some t118) = some r := H
            have A19 := Aside0.mk A190
            clear A190
            obtain rfl := Option.some.inj H
            go_enter Try.func38, Try.ntmps38
            go_wp2_with (first | ((with_reducible refine gate_dst (N := 2) rfl ?_); (try (refine gate_guard (by rfl) ?_; dsimp only)); refine box_event ?hg (N := 2) ?hd (cs := #[.string a0_0, .int .i64 a0_1, .slice A0_2 l0_2.length c0_2]) (t := 25) ?hr ?_; (case hd => rfl); (case hg => rfl); (case hr => first | (go_simp; done) | (go_simp; rfl)); intro gb110 hg w20 hbox hb; have n0_ := Aside0.mk (below_step (by repeat (first | (with_reducible first | exact HB.out | apply below_alloc | apply pw_below_drewN | apply below_drew1) | exact HB.out)) hb); have n1_ := Aside0.mk (hbox); have n2_ := Aside0.mk ((by rw [hg]; exact (below_size (by repeat (first | (with_reducible first | exact HB.out | apply below_alloc | apply pw_below_drewN | apply below_drew1) | exact HB.out))) : w.heap.size ≤ gb110)); have n3_ := Aside0.mk ((by rw [hg]; exact (below_size (by repeat (first | (with_reducible first | exact HB.out | apply below_alloc | apply pw_below_drewN | apply below_drew1) | exact HB.out))) : w.heap.size ≤ gb110)); clear HB; have HB := n0_; have BK110 := n1_; have GW110 := n2_; have GE110 := n3_; clear n0_ n1_ n2_ n3_; clear hb hbox hg) | ((with_reducible refine gate_dst (N := 3) rfl ?_); (try (refine gate_guard (by rfl) ?_; dsimp only)); refine box_event ?hg (N := 3) ?hd (cs := #[.string a1_0, .int .i64 a1_1, .slice A1_2 l1_2.length c1_2]) (t := 25) ?hr ?_; (case hd => rfl); (case hg => rfl); (case hr => first | (go_simp; done) | (go_simp; rfl)); intro gb111 hg w21 hbox hb; have n0_ := Aside0.mk (blk_below (g := gb110) (o := .cells #[.string a0_0, .int .i64 a0_1, .slice A0_2 l0_2.length c0_2] 25 (0, 0)) (by (with_reducible repeat (first | refine blk_drewN ?_ _ | refine blk_drew ?_ | refine blk_alloc ?_ _)); exact BK110.out) hb); have n1_ := Aside0.mk (below_step (by repeat (first | (with_reducible first | exact HB.out | apply below_alloc | apply pw_below_drewN | apply below_drew1 | refine below_set ?_ GE110.out) | exact HB.out)) hb); have n2_ := Aside0.mk (hbox); have n3_ := Aside0.mk ((by rw [hg]; exact (below_size (by repeat (first | (with_reducible first | exact HB.out | apply below_alloc | apply pw_below_drewN | apply below_drew1 | refine below_set ?_ GE110.out) | exact HB.out))) : w.heap.size ≤ gb111)); have n4_ := Aside0.mk ((by rw [hg]; exact (below_size (by repeat (first | (with_reducible first | exact HB.out | apply below_alloc | apply pw_below_drewN | apply below_drew1 | refine below_set ?_ GE110.out) | exact HB.out))) : w.heap.size ≤ gb111)); have n5_ := Aside0.mk ((by rw [hg]; exact Nat.ne_of_lt (blk_lt (g := gb110) (o := .cells #[.string a0_0, .int .i64 a0_1, .slice A0_2 l0_2.length c0_2] 25 (0, 0)) (by (with_reducible repeat (first | refine blk_drewN ?_ _ | refine blk_drew ?_ | refine blk_alloc ?_ _)); exact BK110.out)) : gb110 ≠ gb111)); have n6_ := Aside0.mk ((by rw [hg]; exact Nat.ne_of_gt (blk_lt (g := gb110) (o := .cells #[.string a0_0, .int .i64 a0_1, .slice A0_2 l0_2.length c0_2] 25 (0, 0)) (by (with_reducible repeat (first | refine blk_drewN ?_ _ | refine blk_drew ?_ | refine blk_alloc ?_ _)); exact BK110.out)) : gb111 ≠ gb110)); clear BK110; clear HB; have BK110 := n0_; have HB := n1_; have BK111 := n2_; have GW111 := n3_; have GE111 := n4_; have NB110_111 := n5_; have NB111_110 := n6_; clear n0_ n1_ n2_ n3_ n4_ n5_ n6_; clear hb hbox hg; have hnb22 := NB110_111.out; have hnc22 := NB111_110.out; have hcz23_0 : w21.cell? ⟨gb110, 0, none⟩ = some (.string a0_0) := (blk_cell BK110.out 0).trans rfl; have hcz23_1 : w21.cell? ⟨gb110, 1, none⟩ = some (.int .i64 a0_1) := (blk_cell BK110.out 1).trans rfl; have hcz23_2 : w21.cell? ⟨gb110, 2, none⟩ = some (.slice A0_2 l0_2.length c0_2) := (blk_cell BK110.out 2).trans rfl; have hfz23_0 := blk_frozen BK110.out 0; have hfz23_1 := blk_frozen BK110.out 1; have hfz23_2 := blk_frozen BK110.out 2) | ((with_reducible refine gate_callee (f := 28) rfl ?_); refine goesL_ (some 6) rfl rfl Try.func28 (by kernel_rfl) rfl #[.agg #[.string a0_0, .int .i64 a0_1, .slice A0_2 l0_2.length c0_2]] rfl (by (try simp only [List.map_toArray, List.map_cons, List.map_nil]); first | done | rfl | (simp only [List.length_drop, List.length_take]; rfl)) ?_; (with_reducible refine (schema_May.calls a0_0 a0_1 _ _ l0_2 true _ ?side1 ?side2 A3.out).mono ?_); (case side1 => repeat (first | exact (Kd.C_below HR0_2.out HB.out) | (with_reducible refine Kd.C_alloc ?_ _) | (with_reducible refine Kd.C_drewN ?_ _) | (with_reducible refine Kd.C_drew ?_))); (case side2 => exact HC0_2.out); rintro e w24 ⟨rfl, hb⟩; refine ⟨_, rfl, ?_⟩; have n0_ := Aside0.mk (blk_below (g := gb110) (o := .cells #[.string a0_0, .int .i64 a0_1, .slice A0_2 l0_2.length c0_2] 25 (0, 0)) (by (with_reducible repeat (first | refine blk_drewN ?_ _ | refine blk_drew ?_ | refine blk_alloc ?_ _)); exact BK110.out) hb); have n1_ := Aside0.mk (blk_below (g := gb111) (o := .cells #[.string a1_0, .int .i64 a1_1, .slice A1_2 l1_2.length c1_2] 25 (0, 0)) (by (with_reducible repeat (first | refine blk_drewN ?_ _ | refine blk_drew ?_ | refine blk_alloc ?_ _)); exact BK111.out) hb); have n2_ := Aside0.mk (below_step (by repeat (first | (with_reducible first | exact HB.out | apply below_alloc | apply pw_below_drewN | apply below_drew1 | refine below_set ?_ GE110.out | refine below_set ?_ GE111.out) | exact HB.out)) hb); clear BK110; clear BK111; clear HB; have BK110 := n0_; have BK111 := n1_; have HB := n2_; clear n0_ n1_ n2_; (try clear hb); (try clear hb2); (try clear hk); (try clear hi); have hcz25_0 : w24.cell? ⟨gb111, 0, none⟩ = some (.string a1_0) := (blk_cell BK111.out 0).trans rfl; have hcz25_1 : w24.cell? ⟨gb111, 1, none⟩ = some (.int .i64 a1_1) := (blk_cell BK111.out 1).trans rfl; have hcz25_2 : w24.cell? ⟨gb111, 2, none⟩ = some (.slice A1_2 l1_2.length c1_2) := (blk_cell BK111.out 2).trans rfl; have hfz25_0 := blk_frozen BK111.out 0; have hfz25_1 := blk_frozen BK111.out 1; have hfz25_2 := blk_frozen BK111.out 2) | (go_at_call 28; (with_reducible refine (schema_May.calls a1_0 a1_1 _ _ l1_2 true _ ?side1 ?side2 A5.out).mono ?_); (case side1 => repeat (first | exact (Kd.C_below HR1_2.out HB.out) | (with_reducible refine Kd.C_alloc ?_ _) | (with_reducible refine Kd.C_drewN ?_ _) | (with_reducible refine Kd.C_drew ?_))); (case side2 => exact HC1_2.out); rintro e w26 ⟨rfl, hb⟩; have n0_ := Aside0.mk (blk_below (g := gb110) (o := .cells #[.string a0_0, .int .i64 a0_1, .slice A0_2 l0_2.length c0_2] 25 (0, 0)) (by (with_reducible repeat (first | refine blk_drewN ?_ _ | refine blk_drew ?_ | refine blk_alloc ?_ _)); exact BK110.out) hb); have n1_ := Aside0.mk (blk_below (g := gb111) (o := .cells #[.string a1_0, .int .i64 a1_1, .slice A1_2 l1_2.length c1_2] 25 (0, 0)) (by (with_reducible repeat (first | refine blk_drewN ?_ _ | refine blk_drew ?_ | refine blk_alloc ?_ _)); exact BK111.out) hb); have n2_ := Aside0.mk (below_step (by repeat (first | (with_reducible first | exact HB.out | apply below_alloc | apply pw_below_drewN | apply below_drew1 | refine below_set ?_ GE110.out | refine below_set ?_ GE111.out) | exact HB.out)) hb); clear BK110; clear BK111; clear HB; have BK110 := n0_; have BK111 := n1_; have HB := n2_; clear n0_ n1_ n2_; (try clear hb); (try clear hb2); (try clear hk); (try clear hi); have hcz27_0 : w26.cell? ⟨gb111, 0, none⟩ = some (.string a1_0) := (blk_cell BK111.out 0).trans rfl; have hcz27_1 : w26.cell? ⟨gb111, 1, none⟩ = some (.int .i64 a1_1) := (blk_cell BK111.out 1).trans rfl; have hcz27_2 : w26.cell? ⟨gb111, 2, none⟩ = some (.slice A1_2 l1_2.length c1_2) := (blk_cell BK111.out 2).trans rfl; have hfz27_0 := blk_frozen BK111.out 0; have hfz27_1 := blk_frozen BK111.out 1; have hfz27_2 := blk_frozen BK111.out 2; have hcz28_0 : w26.cell? ⟨gb110, 0, none⟩ = some (.string a0_0) := (blk_cell BK110.out 0).trans rfl; have hcz28_1 : w26.cell? ⟨gb110, 1, none⟩ = some (.int .i64 a0_1) := (blk_cell BK110.out 1).trans rfl; have hcz28_2 : w26.cell? ⟨gb110, 2, none⟩ = some (.slice A0_2 l0_2.length c0_2) := (blk_cell BK110.out 2).trans rfl; have hfz28_0 := blk_frozen BK110.out 0; have hfz28_1 := blk_frozen BK110.out 1; have hfz28_2 := blk_frozen BK110.out 2; have q29 : ((l0_2.length : Int) : Int) ≤ ((l1_2.length : Int) : Int) := of_decide_eq_true (by first | (with_reducible assumption) | assumption); obtain ⟨i029, hi029, _, hsz29, _⟩ := info_parts infoField; have hroom29 : l1_2.length ≤ c1_2 := HC1_2.out; have hC29 : Kd.C kField _ A1_2 l1_2.length l1_2 := HR1_2.out; have hcut29 := cut_to (P := Try.prog) 23 39 .i64 Try.underlying23 hi029 A1_2 l1_2.length c1_2 (l0_2.length : Int) (of_decide_eq_true (by first | (with_reducible assumption) | assumption)) q29 hroom29; have hr29 := Kd.C_take (m := ((l0_2.length : Int) : Int).toNat) hC29 (by omega); have hy29 : y114.length = ((l0_2.length : Int) : Int).toNat := (by rw [Ny114.out, List.length_take]; omega); rw [← Ny114.out] at hr29; rw [← hy29] at hcut29; have HR117 := Aside0.mk hr29; have HC117 := Aside0.mk (show y114.length ≤ c1_2 from by omega); clear hr29 hC29 hroom29 hi029 hsz29; have KY29 := Aside0.mk hy29; clear hy29; replace q29 := eq_true q29) | ((with_reducible refine gate_callee (f := 27) rfl ?_); refine goesL_ (some 35) rfl rfl Try.func27 (by kernel_rfl) rfl #[.agg #[.string a0_0, .int .i64 a0_1, .slice A0_2 l0_2.length c0_2], .agg #[.string a1_0, .int .i64 (wrap64 (a1_1 - 1)), .slice A1_2 y114.length c1_2]] rfl (by (try simp only [List.map_toArray, List.map_cons, List.map_nil]); first | done | rfl | (simp only [List.length_drop, List.length_take]; rfl)) ?_; (with_reducible refine (schema_Same.calls k a0_0 a0_1 _ _ l0_2 a1_0 (wrap64 (a1_1 - 1)) _ _ y114 t118 _ ?side1 ?side2 ?side3 ?side4 A19.out).mono ?_); (case side1 => exact Kd.C_below HR0_2.out (by repeat (first | (with_reducible first | exact HB.out | apply below_alloc | apply pw_below_drewN | apply below_drew1 | refine below_set ?_ GE110.out | refine below_set ?_ GE111.out) | exact HB.out))); (case side2 => exact HC0_2.out); (case side3 => exact Kd.C_below HR117.out (by repeat (first | (with_reducible first | exact HB.out | apply below_alloc | apply pw_below_drewN | apply below_drew1 | refine below_set ?_ GE110.out | refine below_set ?_ GE111.out) | exact HB.out))); (case side4 => exact HC117.out); rintro e w30 ⟨rfl, hb⟩; refine ⟨_, rfl, ?_⟩; have n0_ := Aside0.mk (blk_below (g := gb110) (o := .cells #[.string a0_0, .int .i64 a0_1, .slice A0_2 l0_2.length c0_2] 25 (0, 0)) (by (with_reducible repeat (first | refine blk_drewN ?_ _ | refine blk_drew ?_ | refine blk_alloc ?_ _)); refine blk_far ?_ NB110_111.out _; (with_reducible repeat (first | refine blk_drewN ?_ _ | refine blk_drew ?_ | refine blk_alloc ?_ _)); refine blk_far ?_ NB110_111.out _; (with_reducible repeat (first | refine blk_drewN ?_ _ | refine blk_drew ?_ | refine blk_alloc ?_ _)); exact BK110.out) hb); have n1_ := Aside0.mk (blk_below (g := gb111) (o := .cells #[.string a1_0, .int .i64 (wrap64 (a1_1 - 1)), .slice A1_2 y114.length c1_2] 25 (0, 0)) (by (with_reducible repeat (first | refine blk_drewN ?_ _ | refine blk_drew ?_ | refine blk_alloc ?_ _)); refine blk_put (cs := #[.string a1_0, .int .i64 a1_1, .slice A1_2 y114.length c1_2]) ?_ 1 _ rfl; (with_reducible repeat (first | refine blk_drewN ?_ _ | refine blk_drew ?_ | refine blk_alloc ?_ _)); refine blk_put (cs := #[.string a1_0, .int .i64 a1_1, .slice A1_2 l1_2.length c1_2]) ?_ 2 _ rfl; (with_reducible repeat (first | refine blk_drewN ?_ _ | refine blk_drew ?_ | refine blk_alloc ?_ _)); exact BK111.out) hb); have n2_ := Aside0.mk (below_step (by repeat (first | (with_reducible first | exact HB.out | apply below_alloc | apply pw_below_drewN | apply below_drew1 | refine below_set ?_ GE110.out | refine below_set ?_ GE111.out) | exact HB.out)) hb); clear BK110; clear BK111; clear HB; have BK110 := n0_; have BK111 := n1_; have HB := n2_; clear n0_ n1_ n2_; (try clear hb); (try clear hb2); (try clear hk); (try clear hi)))
            go_ret
            exact ⟨by first | rfl | (simp [errW_none, errW_some] <;> rfl) | (simp [*, errW_none, errW_some] <;> rfl), by repeat (first | (with_reducible first | exact HB.out | apply below_alloc | apply pw_below_drewN | apply below_drew1 | refine below_set ?_ GE110.out | refine below_set ?_ GE111.out) | exact HB.out)⟩
          · rw [if_neg c18] at H
            exact absurd H (by simp)
        · rw [if_neg c17] at H
          exact absurd H (by simp)
    · replace c6 := Bool.eq_false_iff.mpr c6
      subst c6
      have H1 : (some false) = some r := by rw [if_neg (show ¬ (false = true) by decide)] at H; exact H
      clear H
      have H := H1
      clear H1
      obtain rfl := Option.some.inj H
      go_enter Try.func38, Try.ntmps38
      go_wp2_with (first | ((with_reducible refine gate_dst (N := 2) rfl ?_); (try (refine gate_guard (by rfl) ?_; dsimp only)); refine box_event ?hg (N := 2) ?hd (cs := #[.string a0_0, .int .i64 a0_1, .slice A0_2 l0_2.length c0_2]) (t := 25) ?hr ?_; (case hd => rfl); (case hg => rfl); (case hr => first | (go_simp; done) | (go_simp; rfl)); intro gb110 hg w31 hbox hb; have n0_ := Aside0.mk (below_step (by repeat (first | (with_reducible first | exact HB.out | apply below_alloc | apply pw_below_drewN | apply below_drew1) | exact HB.out)) hb); have n1_ := Aside0.mk (hbox); have n2_ := Aside0.mk ((by rw [hg]; exact (below_size (by repeat (first | (with_reducible first | exact HB.out | apply below_alloc | apply pw_below_drewN | apply below_drew1) | exact HB.out))) : w.heap.size ≤ gb110)); have n3_ := Aside0.mk ((by rw [hg]; exact (below_size (by repeat (first | (with_reducible first | exact HB.out | apply below_alloc | apply pw_below_drewN | apply below_drew1) | exact HB.out))) : w.heap.size ≤ gb110)); clear HB; have HB := n0_; have BK110 := n1_; have GW110 := n2_; have GE110 := n3_; clear n0_ n1_ n2_ n3_; clear hb hbox hg) | ((with_reducible refine gate_dst (N := 3) rfl ?_); (try (refine gate_guard (by rfl) ?_; dsimp only)); refine box_event ?hg (N := 3) ?hd (cs := #[.string a1_0, .int .i64 a1_1, .slice A1_2 l1_2.length c1_2]) (t := 25) ?hr ?_; (case hd => rfl); (case hg => rfl); (case hr => first | (go_simp; done) | (go_simp; rfl)); intro gb111 hg w32 hbox hb; have n0_ := Aside0.mk (blk_below (g := gb110) (o := .cells #[.string a0_0, .int .i64 a0_1, .slice A0_2 l0_2.length c0_2] 25 (0, 0)) (by (with_reducible repeat (first | refine blk_drewN ?_ _ | refine blk_drew ?_ | refine blk_alloc ?_ _)); exact BK110.out) hb); have n1_ := Aside0.mk (below_step (by repeat (first | (with_reducible first | exact HB.out | apply below_alloc | apply pw_below_drewN | apply below_drew1 | refine below_set ?_ GE110.out) | exact HB.out)) hb); have n2_ := Aside0.mk (hbox); have n3_ := Aside0.mk ((by rw [hg]; exact (below_size (by repeat (first | (with_reducible first | exact HB.out | apply below_alloc | apply pw_below_drewN | apply below_drew1 | refine below_set ?_ GE110.out) | exact HB.out))) : w.heap.size ≤ gb111)); have n4_ := Aside0.mk ((by rw [hg]; exact (below_size (by repeat (first | (with_reducible first | exact HB.out | apply below_alloc | apply pw_below_drewN | apply below_drew1 | refine below_set ?_ GE110.out) | exact HB.out))) : w.heap.size ≤ gb111)); have n5_ := Aside0.mk ((by rw [hg]; exact Nat.ne_of_lt (blk_lt (g := gb110) (o := .cells #[.string a0_0, .int .i64 a0_1, .slice A0_2 l0_2.length c0_2] 25 (0, 0)) (by (with_reducible repeat (first | refine blk_drewN ?_ _ | refine blk_drew ?_ | refine blk_alloc ?_ _)); exact BK110.out)) : gb110 ≠ gb111)); have n6_ := Aside0.mk ((by rw [hg]; exact Nat.ne_of_gt (blk_lt (g := gb110) (o := .cells #[.string a0_0, .int .i64 a0_1, .slice A0_2 l0_2.length c0_2] 25 (0, 0)) (by (with_reducible repeat (first | refine blk_drewN ?_ _ | refine blk_drew ?_ | refine blk_alloc ?_ _)); exact BK110.out)) : gb111 ≠ gb110)); clear BK110; clear HB; have BK110 := n0_; have HB := n1_; have BK111 := n2_; have GW111 := n3_; have GE111 := n4_; have NB110_111 := n5_; have NB111_110 := n6_; clear n0_ n1_ n2_ n3_ n4_ n5_ n6_; clear hb hbox hg; have hnb33 := NB110_111.out; have hnc33 := NB111_110.out; have hcz34_0 : w32.cell? ⟨gb110, 0, none⟩ = some (.string a0_0) := (blk_cell BK110.out 0).trans rfl; have hcz34_1 : w32.cell? ⟨gb110, 1, none⟩ = some (.int .i64 a0_1) := (blk_cell BK110.out 1).trans rfl; have hcz34_2 : w32.cell? ⟨gb110, 2, none⟩ = some (.slice A0_2 l0_2.length c0_2) := (blk_cell BK110.out 2).trans rfl; have hfz34_0 := blk_frozen BK110.out 0; have hfz34_1 := blk_frozen BK110.out 1; have hfz34_2 := blk_frozen BK110.out 2) | ((with_reducible refine gate_callee (f := 28) rfl ?_); refine goesL_ (some 6) rfl rfl Try.func28 (by kernel_rfl) rfl #[.agg #[.string a0_0, .int .i64 a0_1, .slice A0_2 l0_2.length c0_2]] rfl (by (try simp only [List.map_toArray, List.map_cons, List.map_nil]); first | done | rfl | (simp only [List.length_drop, List.length_take]; rfl)) ?_; (with_reducible refine (schema_May.calls a0_0 a0_1 _ _ l0_2 true _ ?side1 ?side2 A3.out).mono ?_); (case side1 => repeat (first | exact (Kd.C_below HR0_2.out HB.out) | (with_reducible refine Kd.C_alloc ?_ _) | (with_reducible refine Kd.C_drewN ?_ _) | (with_reducible refine Kd.C_drew ?_))); (case side2 => exact HC0_2.out); rintro e w35 ⟨rfl, hb⟩; refine ⟨_, rfl, ?_⟩; have n0_ := Aside0.mk (blk_below (g := gb110) (o := .cells #[.string a0_0, .int .i64 a0_1, .slice A0_2 l0_2.length c0_2] 25 (0, 0)) (by (with_reducible repeat (first | refine blk_drewN ?_ _ | refine blk_drew ?_ | refine blk_alloc ?_ _)); exact BK110.out) hb); have n1_ := Aside0.mk (blk_below (g := gb111) (o := .cells #[.string a1_0, .int .i64 a1_1, .slice A1_2 l1_2.length c1_2] 25 (0, 0)) (by (with_reducible repeat (first | refine blk_drewN ?_ _ | refine blk_drew ?_ | refine blk_alloc ?_ _)); exact BK111.out) hb); have n2_ := Aside0.mk (below_step (by repeat (first | (with_reducible first | exact HB.out | apply below_alloc | apply pw_below_drewN | apply below_drew1 | refine below_set ?_ GE110.out | refine below_set ?_ GE111.out) | exact HB.out)) hb); clear BK110; clear BK111; clear HB; have BK110 := n0_; have BK111 := n1_; have HB := n2_; clear n0_ n1_ n2_; (try clear hb); (try clear hb2); (try clear hk); (try clear hi); have hcz36_0 : w35.cell? ⟨gb111, 0, none⟩ = some (.string a1_0) := (blk_cell BK111.out 0).trans rfl; have hcz36_1 : w35.cell? ⟨gb111, 1, none⟩ = some (.int .i64 a1_1) := (blk_cell BK111.out 1).trans rfl; have hcz36_2 : w35.cell? ⟨gb111, 2, none⟩ = some (.slice A1_2 l1_2.length c1_2) := (blk_cell BK111.out 2).trans rfl; have hfz36_0 := blk_frozen BK111.out 0; have hfz36_1 := blk_frozen BK111.out 1; have hfz36_2 := blk_frozen BK111.out 2) | (go_at_call 28; (with_reducible refine (schema_May.calls a1_0 a1_1 _ _ l1_2 false _ ?side1 ?side2 A5.out).mono ?_); (case side1 => repeat (first | exact (Kd.C_below HR1_2.out HB.out) | (with_reducible refine Kd.C_alloc ?_ _) | (with_reducible refine Kd.C_drewN ?_ _) | (with_reducible refine Kd.C_drew ?_))); (case side2 => exact HC1_2.out); rintro e w37 ⟨rfl, hb⟩; have n0_ := Aside0.mk (blk_below (g := gb110) (o := .cells #[.string a0_0, .int .i64 a0_1, .slice A0_2 l0_2.length c0_2] 25 (0, 0)) (by (with_reducible repeat (first | refine blk_drewN ?_ _ | refine blk_drew ?_ | refine blk_alloc ?_ _)); exact BK110.out) hb); have n1_ := Aside0.mk (blk_below (g := gb111) (o := .cells #[.string a1_0, .int .i64 a1_1, .slice A1_2 l1_2.length c1_2] 25 (0, 0)) (by (with_reducible repeat (first | refine blk_drewN ?_ _ | refine blk_drew ?_ | refine blk_alloc ?_ _)); exact BK111.out) hb); have n2_ := Aside0.mk (below_step (by repeat (first | (with_reducible first | exact HB.out | apply below_alloc | apply pw_below_drewN | apply below_drew1 | refine below_set ?_ GE110.out | refine below_set ?_ GE111.out) | exact HB.out)) hb); clear BK110; clear BK111; clear HB; have BK110 := n0_; have BK111 := n1_; have HB := n2_; clear n0_ n1_ n2_; (try clear hb); (try clear hb2); (try clear hk); (try clear hi)))
      go_ret
      exact ⟨by first | rfl | (simp [errW_none, errW_some] <;> rfl) | (simp [*, errW_none, errW_some] <;> rfl), by repeat (first | (with_reducible first | exact HB.out | apply below_alloc | apply pw_below_drewN | apply below_drew1 | refine below_set ?_ GE110.out | refine below_set ?_ GE111.out) | exact HB.out)⟩
  · replace c4 := Bool.eq_false_iff.mpr c4
    subst c4
    have H1 : (some false) = some r := by rw [if_neg (show ¬ (false = true) by decide)] at H; exact H
    clear H
    have H := H1
    clear H1
    obtain rfl := Option.some.inj H
    go_enter Try.func38, Try.ntmps38
    go_wp2_with (first | ((with_reducible refine gate_dst (N := 2) rfl ?_); (try (refine gate_guard (by rfl) ?_; dsimp only)); refine box_event ?hg (N := 2) ?hd (cs := #[.string a0_0, .int .i64 a0_1, .slice A0_2 l0_2.length c0_2]) (t := 25) ?hr ?_; (case hd => rfl); (case hg => rfl); (case hr => first | (go_simp; done) | (go_simp; rfl)); intro gb110 hg w38 hbox hb; have n0_ := Aside0.mk (below_step (by repeat (first | (with_reducible first | exact HB.out | apply below_alloc | apply pw_below_drewN | apply below_drew1) | exact HB.out)) hb); have n1_ := Aside0.mk (hbox); have n2_ := Aside0.mk ((by rw [hg]; exact (below_size (by repeat (first | (with_reducible first | exact HB.out | apply below_alloc | apply pw_below_drewN | apply below_drew1) | exact HB.out))) : w.heap.size ≤ gb110)); have n3_ := Aside0.mk ((by rw [hg]; exact (below_size (by repeat (first | (with_reducible first | exact HB.out | apply below_alloc | apply pw_below_drewN | apply below_drew1) | exact HB.out))) : w.heap.size ≤ gb110)); clear HB; have HB := n0_; have BK110 := n1_; have GW110 := n2_; have GE110 := n3_; clear n0_ n1_ n2_ n3_; clear hb hbox hg) | ((with_reducible refine gate_dst (N := 3) rfl ?_); (try (refine gate_guard (by rfl) ?_; dsimp only)); refine box_event ?hg (N := 3) ?hd (cs := #[.string a1_0, .int .i64 a1_1, .slice A1_2 l1_2.length c1_2]) (t := 25) ?hr ?_; (case hd => rfl); (case hg => rfl); (case hr => first | (go_simp; done) | (go_simp; rfl)); intro gb111 hg w39 hbox hb; have n0_ := Aside0.mk (blk_below (g := gb110) (o := .cells #[.string a0_0, .int .i64 a0_1, .slice A0_2 l0_2.length c0_2] 25 (0, 0)) (by (with_reducible repeat (first | refine blk_drewN ?_ _ | refine blk_drew ?_ | refine blk_alloc ?_ _)); exact BK110.out) hb); have n1_ := Aside0.mk (below_step (by repeat (first | (with_reducible first | exact HB.out | apply below_alloc | apply pw_below_drewN | apply below_drew1 | refine below_set ?_ GE110.out) | exact HB.out)) hb); have n2_ := Aside0.mk (hbox); have n3_ := Aside0.mk ((by rw [hg]; exact (below_size (by repeat (first | (with_reducible first | exact HB.out | apply below_alloc | apply pw_below_drewN | apply below_drew1 | refine below_set ?_ GE110.out) | exact HB.out))) : w.heap.size ≤ gb111)); have n4_ := Aside0.mk ((by rw [hg]; exact (below_size (by repeat (first | (with_reducible first | exact HB.out | apply below_alloc | apply pw_below_drewN | apply below_drew1 | refine below_set ?_ GE110.out) | exact HB.out))) : w.heap.size ≤ gb111)); have n5_ := Aside0.mk ((by rw [hg]; exact Nat.ne_of_lt (blk_lt (g := gb110) (o := .cells #[.string a0_0, .int .i64 a0_1, .slice A0_2 l0_2.length c0_2] 25 (0, 0)) (by (with_reducible repeat (first | refine blk_drewN ?_ _ | refine blk_drew ?_ | refine blk_alloc ?_ _)); exact BK110.out)) : gb110 ≠ gb111)); have n6_ := Aside0.mk ((by rw [hg]; exact Nat.ne_of_gt (blk_lt (g := gb110) (o := .cells #[.string a0_0, .int .i64 a0_1, .slice A0_2 l0_2.length c0_2] 25 (0, 0)) (by (with_reducible repeat (first | refine blk_drewN ?_ _ | refine blk_drew ?_ | refine blk_alloc ?_ _)); exact BK110.out)) : gb111 ≠ gb110)); clear BK110; clear HB; have BK110 := n0_; have HB := n1_; have BK111 := n2_; have GW111 := n3_; have GE111 := n4_; have NB110_111 := n5_; have NB111_110 := n6_; clear n0_ n1_ n2_ n3_ n4_ n5_ n6_; clear hb hbox hg; have hnb40 := NB110_111.out; have hnc40 := NB111_110.out; have hcz41_0 : w39.cell? ⟨gb110, 0, none⟩ = some (.string a0_0) := (blk_cell BK110.out 0).trans rfl; have hcz41_1 : w39.cell? ⟨gb110, 1, none⟩ = some (.int .i64 a0_1) := (blk_cell BK110.out 1).trans rfl; have hcz41_2 : w39.cell? ⟨gb110, 2, none⟩ = some (.slice A0_2 l0_2.length c0_2) := (blk_cell BK110.out 2).trans rfl; have hfz41_0 := blk_frozen BK110.out 0; have hfz41_1 := blk_frozen BK110.out 1; have hfz41_2 := blk_frozen BK110.out 2) | ((with_reducible refine gate_callee (f := 28) rfl ?_); refine goesL_ (some 6) rfl rfl Try.func28 (by kernel_rfl) rfl #[.agg #[.string a0_0, .int .i64 a0_1, .slice A0_2 l0_2.length c0_2]] rfl (by (try simp only [List.map_toArray, List.map_cons, List.map_nil]); first | done | rfl | (simp only [List.length_drop, List.length_take]; rfl)) ?_; (with_reducible refine (schema_May.calls a0_0 a0_1 _ _ l0_2 false _ ?side1 ?side2 A3.out).mono ?_); (case side1 => repeat (first | exact (Kd.C_below HR0_2.out HB.out) | (with_reducible refine Kd.C_alloc ?_ _) | (with_reducible refine Kd.C_drewN ?_ _) | (with_reducible refine Kd.C_drew ?_))); (case side2 => exact HC0_2.out); rintro e w42 ⟨rfl, hb⟩; refine ⟨_, rfl, ?_⟩; have n0_ := Aside0.mk (blk_below (g := gb110) (o := .cells #[.string a0_0, .int .i64 a0_1, .slice A0_2 l0_2.length c0_2] 25 (0, 0)) (by (with_reducible repeat (first | refine blk_drewN ?_ _ | refine blk_drew ?_ | refine blk_alloc ?_ _)); exact BK110.out) hb); have n1_ := Aside0.mk (blk_below (g := gb111) (o := .cells #[.string a1_0, .int .i64 a1_1, .slice A1_2 l1_2.length c1_2] 25 (0, 0)) (by (with_reducible repeat (first | refine blk_drewN ?_ _ | refine blk_drew ?_ | refine blk_alloc ?_ _)); exact BK111.out) hb); have n2_ := Aside0.mk (below_step (by repeat (first | (with_reducible first | exact HB.out | apply below_alloc | apply pw_below_drewN | apply below_drew1 | refine below_set ?_ GE110.out | refine below_set ?_ GE111.out) | exact HB.out)) hb); clear BK110; clear BK111; clear HB; have BK110 := n0_; have BK111 := n1_; have HB := n2_; clear n0_ n1_ n2_; (try clear hb); (try clear hb2); (try clear hk); (try clear hi)))
    go_ret
    exact ⟨by first | rfl | (simp [errW_none, errW_some] <;> rfl) | (simp [*, errW_none, errW_some] <;> rfl), by repeat (first | (with_reducible first | exact HB.out | apply below_alloc | apply pw_below_drewN | apply below_drew1 | refine below_set ?_ GE110.out | refine below_set ?_ GE111.out) | exact HB.out)⟩

end Go.Proofs.Ytbgdamlidohfhaa.P

namespace Go.Proofs.Ytbgdamlidohfhaa.P
open Go.RowKit Go.Proofs.YtbgdamlidohfhaaW.PrintWords Go.Proofs.YtbgdamlidohfhaaW.PrintLast Go.Proofs.YtbgdamlidohfhaaW.PrintMore
attribute [local go_sem] max2_int min2_int max_two min_two max_three min_three max_four min_four   -- for this text's walks alone
set_option linter.unusedVariables false
set_option linter.unusedSimpArgs false

/-! ### towncrierlaw05_Few: function 17 -/
mutual
def towncrierlaw05_Few.j0 : Nat → Bool → ByteArray → Int → List (SField) → Option (Bool)
  | 0, _, _, _, _ => none
  | k + 1, x13, x184000, x184001, x184002 => if x13 = true then (some false) else (towncrierlaw05_Few.l0 k 0 x184000 x184001 x184002)
def towncrierlaw05_Few.l0 : Nat → Int → ByteArray → Int → List (SField) → Option (Bool)
  | 0, _, _, _, _ => none
  | k + 1, x3, x184000, x184001, x184002 => if x3 < (x184002.length : Int) then (if 0 ≤ x3 then (if (((rd_TField x184002 x3).f0).size : Int) > 60 then (some false) else (towncrierlaw05_Few.l0 k (wrap64 (x3 + 1)) x184000 x184001 x184002)) else (none)) else (some true)
end
def towncrierlaw05_Few.f (k : Nat) (a0_0 : ByteArray) (a0_1 : Int) (l0_2 : List (SField)) : Option (Bool) := if (a0_0.size : Int) > 60 then (towncrierlaw05_Few.j0 k true a0_0 a0_1 l0_2) else (towncrierlaw05_Few.j0 k (decide ((l0_2.length : Int) > 10)) a0_0 a0_1 l0_2)
theorem towncrierlaw05_Few.mono_l : ∀ k, (∀ y0 y1 y2 y3, LeO (towncrierlaw05_Few.j0 k y0 y1 y2 y3) (towncrierlaw05_Few.j0 (k + 1) y0 y1 y2 y3)) ∧ (∀ y0 y1 y2 y3, LeO (towncrierlaw05_Few.l0 k y0 y1 y2 y3) (towncrierlaw05_Few.l0 (k + 1) y0 y1 y2 y3))
  | 0 => ⟨fun _ _ _ _ r h => by simp [towncrierlaw05_Few.j0] at h, fun _ _ _ _ r h => by simp [towncrierlaw05_Few.l0] at h⟩
  | k + 1 => by
    obtain ⟨ih0, ih1⟩ := towncrierlaw05_Few.mono_l k
    refine ⟨?_, ?_⟩
    · intro y0 y1 y2 y3
      unfold towncrierlaw05_Few.j0
      repeat' first
      | (with_reducible exact ih0 _ _ _ _)
      | (with_reducible exact ih1 _ _ _ _)
      | (with_reducible exact LeO.refl _)
      | (with_reducible exact LeO.none _)
      | (with_reducible refine LeO.ite ?_ ?_)
      | (with_reducible refine LeO.bind ?_ (fun _ => ?_))
      | exact ih0 _ _ _ _
      | exact ih1 _ _ _ _
      | exact LeO.none _
      | refine LeO.ite ?_ ?_
      | refine LeO.bind ?_ (fun _ => ?_)
    · intro y0 y1 y2 y3
      unfold towncrierlaw05_Few.l0
      repeat' first
      | (with_reducible exact ih0 _ _ _ _)
      | (with_reducible exact ih1 _ _ _ _)
      | (with_reducible exact LeO.refl _)
      | (with_reducible exact LeO.none _)
      | (with_reducible refine LeO.ite ?_ ?_)
      | (with_reducible refine LeO.bind ?_ (fun _ => ?_))
      | exact ih0 _ _ _ _
      | exact ih1 _ _ _ _
      | exact LeO.none _
      | refine LeO.ite ?_ ?_
      | refine LeO.bind ?_ (fun _ => ?_)
theorem towncrierlaw05_Few.mono : ∀ a0 a1 a2 k, LeO (towncrierlaw05_Few.f k a0 a1 a2) (towncrierlaw05_Few.f (k + 1) a0 a1 a2) := by
  intro a0 a1 a2 k
  obtain ⟨ih0, ih1⟩ := towncrierlaw05_Few.mono_l k
  unfold towncrierlaw05_Few.f
  repeat' first
      | (with_reducible exact ih0 _ _ _ _)
      | (with_reducible exact ih1 _ _ _ _)
      | (with_reducible exact LeO.refl _)
      | (with_reducible exact LeO.none _)
      | (with_reducible refine LeO.ite ?_ ?_)
      | (with_reducible refine LeO.bind ?_ (fun _ => ?_))
      | exact ih0 _ _ _ _
      | exact ih1 _ _ _ _
      | exact LeO.none _
      | refine LeO.ite ?_ ?_
      | refine LeO.bind ?_ (fun _ => ?_)
set_option maxHeartbeats 8000000 in
set_option maxRecDepth 100000 in
theorem towncrierlaw05_Few.calls (k : Nat) (a0_0 : ByteArray) (a0_1 : Int) (A0_2 : Option Addr) (c0_2 : Nat) (l0_2 : List (SField)) (r : Bool) (w : World) (hr0_2 : Kd.C kField w A0_2 l0_2.length l0_2) (hc0_2 : l0_2.length ≤ c0_2) (h : towncrierlaw05_Few.f k a0_0 a0_1 l0_2 = some r) :
    Calls Try.prog 17 #[.agg #[.string a0_0, .int .i64 a0_1, .slice A0_2 l0_2.length c0_2]] w fun e w' => e = .returned (.bool r) ∧ Below w.heap.size w w' := by
  have hu25 := Try.underlying25
  have HR0_2 := Aside0.mk hr0_2
  have HC0_2 := Aside0.mk hc0_2
  clear hr0_2 hc0_2
  have HB := Aside0.mk (Below.refl w.heap.size w)
  have H : (if (a0_0.size : Int) > 60 then (towncrierlaw05_Few.j0 k true a0_0 a0_1 l0_2) else (towncrierlaw05_Few.j0 k (decide ((l0_2.length : Int) > 10)) a0_0 a0_1 l0_2)) = some r := h
  clear h
  have HC2 := Aside0.mk H
  clear H
  go_enter Try.func17, Try.ntmps17
  go_upto_region 1 with (first | ((with_reducible refine gate_dst (N := 1) rfl ?_); (try (refine gate_guard (by rfl) ?_; dsimp only)); refine box_event ?hg (N := 1) ?hd (cs := #[.string a0_0, .int .i64 a0_1, .slice A0_2 l0_2.length c0_2]) (t := 25) ?hr ?_; (case hd => rfl); (case hg => rfl); (case hr => first | (go_simp; done) | (go_simp; rfl)); intro gb183 hg w3 hbox hb; have n0_ := Aside0.mk (below_step (by repeat (first | (with_reducible first | exact HB.out | apply below_alloc | apply pw_below_drewN | apply below_drew1) | exact HB.out)) hb); have n1_ := Aside0.mk (hbox); have n2_ := Aside0.mk ((by rw [hg]; exact (below_size (by repeat (first | (with_reducible first | exact HB.out | apply below_alloc | apply pw_below_drewN | apply below_drew1) | exact HB.out))) : w.heap.size ≤ gb183)); have n3_ := Aside0.mk ((by rw [hg]; exact (below_size (by repeat (first | (with_reducible first | exact HB.out | apply below_alloc | apply pw_below_drewN | apply below_drew1) | exact HB.out))) : w.heap.size ≤ gb183)); clear HB; have HB := n0_; have BK183 := n1_; have GW183 := n2_; have GE183 := n3_; clear n0_ n1_ n2_ n3_; clear hb hbox hg))
  (try simp only [Act.put, List.setIfInBounds_toArray, List.set_cons_zero, List.set_cons_succ])
  go_cut [13] (fun v13 wc => ∃ (kq : Nat) (x13_1 : Bool), v13 = .bool x13_1 ∧ Aside0 (towncrierlaw05_Few.j0 kq x13_1 a0_0 a0_1 l0_2 = some r) ∧ Aside0 (kq ≤ k) ∧ Aside0 (wc.heap[gb183]? = some (.cells #[.string a0_0, .int .i64 a0_1, (.slice A0_2 l0_2.length c0_2)] 25 (0, 0))) ∧ Aside0 (Below w.heap.size w wc))
  case first =>
    have H := HC2.out
    clear HC2
    by_cases c4 : (a0_0.size : Int) > 60
    · rw [if_pos c4] at H
      have c4b0 : decide (60 < (a0_0.size : Int)) = true := decide_eq_true c4
      have c4b1 : decide (60 < a0_0.size) = true := decide_eq_true (by omega)
      clear c4
      (first | rw [c4b0] | (simp only [i64_w, i32_w]; rw [c4b0]) | skip)
      have H' := Aside0.mk H
      clear H
      have hcz5_0 : w3.cell? ⟨gb183, 0, none⟩ = some (.string a0_0) := (blk_cell BK183.out 0).trans rfl
      have hcz5_1 : w3.cell? ⟨gb183, 1, none⟩ = some (.int .i64 a0_1) := (blk_cell BK183.out 1).trans rfl
      have hcz5_2 : w3.cell? ⟨gb183, 2, none⟩ = some (.slice A0_2 l0_2.length c0_2) := (blk_cell BK183.out 2).trans rfl
      have hfz5_0 := blk_frozen BK183.out 0
      have hfz5_1 := blk_frozen BK183.out 1
      have hfz5_2 := blk_frozen BK183.out 2
      go_wp2
      go_meet
      case rel => exact ⟨_, (true), (by first | rfl | (simp; done) | (simp [*]; done)), H', ⟨by first | omega | exact Nat.le_refl _⟩, ⟨by (with_reducible repeat (first | refine blk_drewN ?_ _ | refine blk_drew ?_ | refine blk_alloc ?_ _)); exact BK183.out⟩, ⟨by repeat (first | (with_reducible first | exact HB.out | apply below_alloc | apply pw_below_drewN | apply below_drew1 | refine below_set ?_ GE183.out) | exact HB.out)⟩⟩
    · rw [if_neg c4] at H
      have c4b0 : decide (60 < (a0_0.size : Int)) = false := decide_eq_false c4
      have c4b1 : decide (60 < a0_0.size) = false := decide_eq_false (by omega)
      clear c4
      (first | rw [c4b0] | (simp only [i64_w, i32_w]; rw [c4b0]) | skip)
      have H' := Aside0.mk H
      clear H
      have hcz6_0 : w3.cell? ⟨gb183, 0, none⟩ = some (.string a0_0) := (blk_cell BK183.out 0).trans rfl
      have hcz6_1 : w3.cell? ⟨gb183, 1, none⟩ = some (.int .i64 a0_1) := (blk_cell BK183.out 1).trans rfl
      have hcz6_2 : w3.cell? ⟨gb183, 2, none⟩ = some (.slice A0_2 l0_2.length c0_2) := (blk_cell BK183.out 2).trans rfl
      have hfz6_0 := blk_frozen BK183.out 0
      have hfz6_1 := blk_frozen BK183.out 1
      have hfz6_2 := blk_frozen BK183.out 2
      go_wp2
      go_meet
      case rel => exact ⟨_, (decide ((l0_2.length : Int) > 10)), (by first | rfl | (simp; done) | (simp [*]; done)), H', ⟨by first | omega | exact Nat.le_refl _⟩, ⟨by (with_reducible repeat (first | refine blk_drewN ?_ _ | refine blk_drew ?_ | refine blk_alloc ?_ _)); exact BK183.out⟩, ⟨by repeat (first | (with_reducible first | exact HB.out | apply below_alloc | apply pw_below_drewN | apply below_drew1 | refine below_set ?_ GE183.out) | exact HB.out)⟩⟩
  case rest =>
    clear HC2
    try clear c1
    try clear p2
    try clear c4
    try clear c4b0
    try clear c4b1
    try clear hcz5_0
    try clear hcz5_1
    try clear hcz5_2
    try clear hcz6_0
    try clear hcz6_1
    try clear hcz6_2
    try clear hfz5_0
    try clear hfz5_1
    try clear hfz5_2
    try clear hfz6_0
    try clear hfz6_1
    try clear hfz6_2
    obtain ⟨kq, x13_1, rfl, HA, HJ1, BK183, HB⟩ := hcut
    cases kq with
    | zero => exact absurd HA.out (by simp [towncrierlaw05_Few.j0])
    | succ kj1 =>
      have H := HA.out
      clear HA
      simp only [towncrierlaw05_Few.j0] at H
      by_cases c7 : x13_1 = true
      · subst c7
        have H1 : (some false) = some r := by rw [if_pos rfl] at H; exact H
        clear H
        have H := H1
        clear H1
        obtain rfl := Option.some.inj H
        go_wp2
        go_ret
        exact ⟨by first | rfl | (simp [errW_none, errW_some] <;> rfl) | (simp [*, errW_none, errW_some] <;> rfl), by repeat (first | (with_reducible first | exact HB.out | apply below_alloc | apply pw_below_drewN | apply below_drew1 | refine below_set ?_ GE183.out) | exact HB.out)⟩
      · replace c7 := Bool.eq_false_iff.mpr c7
        subst c7
        have H1 : (towncrierlaw05_Few.l0 kj1 0 a0_0 a0_1 l0_2) = some r := by rw [if_neg (show ¬ (false = true) by decide)] at H; exact H
        clear H
        have H := H1
        clear H1
        have H' := Aside0.mk H
        clear H
        go_wp2
        go_loopg [3] kj1 (fun kq v3 w' => ∃ (x3_2 : Int), v3 = .int .i64 x3_2 ∧ Aside0 (towncrierlaw05_Few.l0 kq x3_2 a0_0 a0_1 l0_2 = some r) ∧ Aside0 (kq ≤ kj1) ∧ Aside0 (w'.heap[gb183]? = some (.cells #[.string a0_0, .int .i64 a0_1, (.slice A0_2 l0_2.length c0_2)] 25 (0, 0))) ∧ Aside0 (Below w.heap.size w w'))
        case atStart => exact ⟨(0), (by first | rfl | (simp; done) | (simp [*]; done)), H', ⟨Nat.le_refl _⟩, ⟨by (with_reducible repeat (first | refine blk_drewN ?_ _ | refine blk_drew ?_ | refine blk_alloc ?_ _)); exact BK183.out⟩, ⟨by repeat (first | (with_reducible first | exact HB.out | apply below_alloc | apply pw_below_drewN | apply below_drew1 | refine below_set ?_ GE183.out) | exact HB.out)⟩⟩
        case round =>
          clear H'
          try clear c1
          try clear p2
          try clear c4
          try clear c4b0
          try clear c4b1
          try clear c7
          try clear hcz5_0
          try clear hcz5_1
          try clear hcz5_2
          try clear hcz6_0
          try clear hcz6_1
          try clear hcz6_2
          try clear hfz5_0
          try clear hfz5_1
          try clear hfz5_2
          try clear hfz6_0
          try clear hfz6_1
          try clear hfz6_2
          try clear p2
          obtain ⟨x3_2, rfl, HA, HK2, BK183, HB⟩ := hrel
          cases gk with
          | zero => exact absurd HA.out (by simp [towncrierlaw05_Few.l0])
          | succ k2 =>
            have H := HA.out
            clear HA
            simp only [towncrierlaw05_Few.l0] at H
            by_cases c8 : x3_2 < (l0_2.length : Int)
            · rw [if_pos c8] at H
              have c8b0 : decide (x3_2 < (l0_2.length : Int)) = true := decide_eq_true c8
              clear c8
              by_cases c9 : 0 ≤ x3_2
              · rw [if_pos c9] at H
                have c9b0 : decide (0 ≤ x3_2) = true := decide_eq_true c9
                clear c9
                by_cases c10 : (((rd_TField l0_2 x3_2).f0).size : Int) > 60
                · rw [if_pos c10] at H
                  have c10b0 : decide (60 < (((rd_TField l0_2 x3_2).f0).size : Int)) = true := decide_eq_true c10
                  have c10b1 : decide (60 < ((rd_TField l0_2 x3_2).f0).size) = true := decide_eq_true (by omega)
                  clear c10
                  obtain rfl := Option.some.inj H
                  have hcz11_0 : wr.cell? ⟨gb183, 0, none⟩ = some (.string a0_0) := (blk_cell BK183.out 0).trans rfl
                  have hcz11_1 : wr.cell? ⟨gb183, 1, none⟩ = some (.int .i64 a0_1) := (blk_cell BK183.out 1).trans rfl
                  have hcz11_2 : wr.cell? ⟨gb183, 2, none⟩ = some (.slice A0_2 l0_2.length c0_2) := (blk_cell BK183.out 2).trans rfl
                  have hfz11_0 := blk_frozen BK183.out 0
                  have hfz11_1 := blk_frozen BK183.out 1
                  have hfz11_2 := blk_frozen BK183.out 2
                  have p184 : 0 ≤ (x3_2 : Int) := of_decide_eq_true (by first | (with_reducible assumption) | assumption)
                  have q184 : x3_2 < (l0_2.length : Int) := of_decide_eq_true (by first | (with_reducible assumption) | assumption)
                  obtain ⟨ad184, e184, hx184_0, hx184_1⟩ := at_TField HR0_2.out x3_2 p184 q184
                  cases e184
                  replace hx184_0 := (HB.out.cell (World.block_lt_of_cell? w _ hx184_0)).trans hx184_0
                  replace hx184_1 := (HB.out.cell (World.block_lt_of_cell? w _ hx184_1)).trans hx184_1
                  replace p184 := eq_true p184
                  replace q184 := eq_true q184
                  go_wp2
                  go_ret
                  exact ⟨by first | rfl | (simp [errW_none, errW_some] <;> rfl) | (simp [*, errW_none, errW_some] <;> rfl), by repeat (first | (with_reducible first | exact HB.out | apply below_alloc | apply pw_below_drewN | apply below_drew1 | refine below_set ?_ GE183.out) | exact HB.out)⟩
                · rw [if_neg c10] at H
                  have c10b0 : decide (60 < (((rd_TField l0_2 x3_2).f0).size : Int)) = false := decide_eq_false c10
                  have c10b1 : decide (60 < ((rd_TField l0_2 x3_2).f0).size) = false := decide_eq_false (by omega)
                  clear c10
                  have H' := Aside0.mk H
                  clear H
                  have hcz12_0 : wr.cell? ⟨gb183, 0, none⟩ = some (.string a0_0) := (blk_cell BK183.out 0).trans rfl
                  have hcz12_1 : wr.cell? ⟨gb183, 1, none⟩ = some (.int .i64 a0_1) := (blk_cell BK183.out 1).trans rfl
                  have hcz12_2 : wr.cell? ⟨gb183, 2, none⟩ = some (.slice A0_2 l0_2.length c0_2) := (blk_cell BK183.out 2).trans rfl
                  have hfz12_0 := blk_frozen BK183.out 0
                  have hfz12_1 := blk_frozen BK183.out 1
                  have hfz12_2 := blk_frozen BK183.out 2
                  have p184 : 0 ≤ (x3_2 : Int) := of_decide_eq_true (by first | (with_reducible assumption) | assumption)
                  have q184 : x3_2 < (l0_2.length : Int) := of_decide_eq_true (by first | (with_reducible assumption) | assumption)
                  obtain ⟨ad184, e184, hx184_0, hx184_1⟩ := at_TField HR0_2.out x3_2 p184 q184
                  cases e184
                  replace hx184_0 := (HB.out.cell (World.block_lt_of_cell? w _ hx184_0)).trans hx184_0
                  replace hx184_1 := (HB.out.cell (World.block_lt_of_cell? w _ hx184_1)).trans hx184_1
                  replace p184 := eq_true p184
                  replace q184 := eq_true q184
                  go_wp2
                  go_roundg k2
                  case measure => have := HJ1.out; have := HK2.out; omega
                  case rel => exact ⟨(wrap64 (x3_2 + 1)), (by first | rfl | (simp; done) | (simp [*]; done)), H', ⟨by have := HJ1.out; have := HK2.out; omega⟩, ⟨by (with_reducible repeat (first | refine blk_drewN ?_ _ | refine blk_drew ?_ | refine blk_alloc ?_ _)); exact BK183.out⟩, ⟨by repeat (first | (with_reducible first | exact HB.out | apply below_alloc | apply pw_below_drewN | apply below_drew1 | refine below_set ?_ GE183.out) | exact HB.out)⟩⟩
              · rw [if_neg c9] at H
                exact absurd H (by simp)
            · rw [if_neg c8] at H
              have c8b0 : decide (x3_2 < (l0_2.length : Int)) = false := decide_eq_false c8
              clear c8
              obtain rfl := Option.some.inj H
              have hcz13_0 : wr.cell? ⟨gb183, 0, none⟩ = some (.string a0_0) := (blk_cell BK183.out 0).trans rfl
              have hcz13_1 : wr.cell? ⟨gb183, 1, none⟩ = some (.int .i64 a0_1) := (blk_cell BK183.out 1).trans rfl
              have hcz13_2 : wr.cell? ⟨gb183, 2, none⟩ = some (.slice A0_2 l0_2.length c0_2) := (blk_cell BK183.out 2).trans rfl
              have hfz13_0 := blk_frozen BK183.out 0
              have hfz13_1 := blk_frozen BK183.out 1
              have hfz13_2 := blk_frozen BK183.out 2
              go_wp2
              go_ret
              exact ⟨by first | rfl | (simp [errW_none, errW_some] <;> rfl) | (simp [*, errW_none, errW_some] <;> rfl), by repeat (first | (with_reducible first | exact HB.out | apply below_alloc | apply pw_below_drewN | apply below_drew1 | refine below_set ?_ GE183.out) | exact HB.out)⟩

end Go.Proofs.Ytbgdamlidohfhaa.P

namespace Go.Proofs.Ytbgdamlidohfhaa.P
open Go.RowKit Go.Proofs.YtbgdamlidohfhaaW.PrintWords Go.Proofs.YtbgdamlidohfhaaW.PrintLast Go.Proofs.YtbgdamlidohfhaaW.PrintMore
attribute [local go_sem] max2_int min2_int max_two min_two max_three min_three max_four min_four   -- for this text's walks alone
set_option linter.unusedVariables false
set_option linter.unusedSimpArgs false

attribute [local go_sem high] eqAField
/-! ### towncrierref05_Same: function 23 -/
mutual
def towncrierref05_Same.j0 : Nat → Bool → ByteArray → Int → List (SField) → ByteArray → Int → List (SField) → Option (Bool)
  | 0, _, _, _, _, _, _, _ => none
  | k + 1, x26, x188000, x188001, x188002, x189000, x189001, x189002 => if x26 = true then (some false) else (towncrierref05_Same.l0 k 0 x188000 x188001 x188002 x189000 x189001 x189002)
def towncrierref05_Same.l0 : Nat → Int → ByteArray → Int → List (SField) → ByteArray → Int → List (SField) → Option (Bool)
  | 0, _, _, _, _, _, _, _ => none
  | k + 1, x5, x188000, x188001, x188002, x189000, x189001, x189002 => if x5 < (x188002.length : Int) then (if 0 ≤ x5 then (if x5 < (x189002.length : Int) then (if (!((((rd_TField x188002 x5).f0).toList) == (((rd_TField x189002 x5).f0).toList)) || (!(((rd_TField x188002 x5).f1) == ((rd_TField x189002 x5).f1)))) = true then (some false) else (towncrierref05_Same.l0 k (wrap64 (x5 + 1)) x188000 x188001 x188002 x189000 x189001 x189002)) else (none)) else (none)) else (some true)
end
def towncrierref05_Same.f (k : Nat) (a0_0 : ByteArray) (a0_1 : Int) (l0_2 : List (SField)) (a1_0 : ByteArray) (a1_1 : Int) (l1_2 : List (SField)) : Option (Bool) := if a0_0.toList = a1_0.toList then (if a0_1 = a1_1 then (towncrierref05_Same.j0 k ((l0_2.length : Int) != (l1_2.length : Int)) a0_0 a0_1 l0_2 a1_0 a1_1 l1_2) else (towncrierref05_Same.j0 k true a0_0 a0_1 l0_2 a1_0 a1_1 l1_2)) else (towncrierref05_Same.j0 k true a0_0 a0_1 l0_2 a1_0 a1_1 l1_2)
theorem towncrierref05_Same.mono_l : ∀ k, (∀ y0 y1 y2 y3 y4 y5 y6, LeO (towncrierref05_Same.j0 k y0 y1 y2 y3 y4 y5 y6) (towncrierref05_Same.j0 (k + 1) y0 y1 y2 y3 y4 y5 y6)) ∧ (∀ y0 y1 y2 y3 y4 y5 y6, LeO (towncrierref05_Same.l0 k y0 y1 y2 y3 y4 y5 y6) (towncrierref05_Same.l0 (k + 1) y0 y1 y2 y3 y4 y5 y6))
  | 0 => ⟨fun _ _ _ _ _ _ _ r h => by simp [towncrierref05_Same.j0] at h, fun _ _ _ _ _ _ _ r h => by simp [towncrierref05_Same.l0] at h⟩
  | k + 1 => by
    obtain ⟨ih0, ih1⟩ := towncrierref05_Same.mono_l k
    refine ⟨?_, ?_⟩
    · intro y0 y1 y2 y3 y4 y5 y6
      unfold towncrierref05_Same.j0
      repeat' first
      | (with_reducible exact ih0 _ _ _ _ _ _ _)
      | (with_reducible exact ih1 _ _ _ _ _ _ _)
      | (with_reducible exact LeO.refl _)
      | (with_reducible exact LeO.none _)
      | (with_reducible refine LeO.ite ?_ ?_)
      | (with_reducible refine LeO.bind ?_ (fun _ => ?_))
      | exact ih0 _ _ _ _ _ _ _
      | exact ih1 _ _ _ _ _ _ _
      | exact LeO.none _
      | refine LeO.ite ?_ ?_
      | refine LeO.bind ?_ (fun _ => ?_)
    · intro y0 y1 y2 y3 y4 y5 y6
      unfold towncrierref05_Same.l0
      repeat' first
      | (with_reducible exact ih0 _ _ _ _ _ _ _)
      | (with_reducible exact ih1 _ _ _ _ _ _ _)
      | (with_reducible exact LeO.refl _)
      | (with_reducible exact LeO.none _)
      | (with_reducible refine LeO.ite ?_ ?_)
      | (with_reducible refine LeO.bind ?_ (fun _ => ?_))
      | exact ih0 _ _ _ _ _ _ _
      | exact ih1 _ _ _ _ _ _ _
      | exact LeO.none _
      | refine LeO.ite ?_ ?_
      | refine LeO.bind ?_ (fun _ => ?_)
theorem towncrierref05_Same.mono : ∀ a0 a1 a2 a3 a4 a5 k, LeO (towncrierref05_Same.f k a0 a1 a2 a3 a4 a5) (towncrierref05_Same.f (k + 1) a0 a1 a2 a3 a4 a5) := by
  intro a0 a1 a2 a3 a4 a5 k
  obtain ⟨ih0, ih1⟩ := towncrierref05_Same.mono_l k
  unfold towncrierref05_Same.f
  repeat' first
      | (with_reducible exact ih0 _ _ _ _ _ _ _)
      | (with_reducible exact ih1 _ _ _ _ _ _ _)
      | (with_reducible exact LeO.refl _)
      | (with_reducible exact LeO.none _)
      | (with_reducible refine LeO.ite ?_ ?_)
      | (with_reducible refine LeO.bind ?_ (fun _ => ?_))
      | exact ih0 _ _ _ _ _ _ _
      | exact ih1 _ _ _ _ _ _ _
      | exact LeO.none _
      | refine LeO.ite ?_ ?_
      | refine LeO.bind ?_ (fun _ => ?_)
set_option maxHeartbeats 8000000 in
set_option maxRecDepth 100000 in
theorem towncrierref05_Same.calls (k : Nat) (a0_0 : ByteArray) (a0_1 : Int) (A0_2 : Option Addr) (c0_2 : Nat) (l0_2 : List (SField)) (a1_0 : ByteArray) (a1_1 : Int) (A1_2 : Option Addr) (c1_2 : Nat) (l1_2 : List (SField)) (r : Bool) (w : World) (hr0_2 : Kd.C kField w A0_2 l0_2.length l0_2) (hc0_2 : l0_2.length ≤ c0_2) (hr1_2 : Kd.C kField w A1_2 l1_2.length l1_2) (hc1_2 : l1_2.length ≤ c1_2) (h : towncrierref05_Same.f k a0_0 a0_1 l0_2 a1_0 a1_1 l1_2 = some r) :
    Calls Try.prog 23 #[.agg #[.string a0_0, .int .i64 a0_1, .slice A0_2 l0_2.length c0_2], .agg #[.string a1_0, .int .i64 a1_1, .slice A1_2 l1_2.length c1_2]] w fun e w' => e = .returned (.bool r) ∧ Below w.heap.size w w' := by
  have hu25 := Try.underlying25
  have hu39 := Try.underlying39
  have HR0_2 := Aside0.mk hr0_2
  have HC0_2 := Aside0.mk hc0_2
  clear hr0_2 hc0_2
  have HR1_2 := Aside0.mk hr1_2
  have HC1_2 := Aside0.mk hc1_2
  clear hr1_2 hc1_2
  have HB := Aside0.mk (Below.refl w.heap.size w)
  have H : (if a0_0.toList = a1_0.toList then (if a0_1 = a1_1 then (towncrierref05_Same.j0 k ((l0_2.length : Int) != (l1_2.length : Int)) a0_0 a0_1 l0_2 a1_0 a1_1 l1_2) else (towncrierref05_Same.j0 k true a0_0 a0_1 l0_2 a1_0 a1_1 l1_2)) else (towncrierref05_Same.j0 k true a0_0 a0_1 l0_2 a1_0 a1_1 l1_2)) = some r := h
  clear h
  have HC3 := Aside0.mk H
  clear H
  go_enter Try.func23, Try.ntmps23
  go_upto_region 1 with (first | ((with_reducible refine gate_dst (N := 2) rfl ?_); (try (refine gate_guard (by rfl) ?_; dsimp only)); refine box_event ?hg (N := 2) ?hd (cs := #[.string a0_0, .int .i64 a0_1, .slice A0_2 l0_2.length c0_2]) (t := 25) ?hr ?_; (case hd => rfl); (case hg => rfl); (case hr => first | (go_simp; done) | (go_simp; rfl)); intro gb187 hg w4 hbox hb; have n0_ := Aside0.mk (below_step (by repeat (first | (with_reducible first | exact HB.out | apply below_alloc | apply pw_below_drewN | apply below_drew1) | exact HB.out)) hb); have n1_ := Aside0.mk (hbox); have n2_ := Aside0.mk ((by rw [hg]; exact (below_size (by repeat (first | (with_reducible first | exact HB.out | apply below_alloc | apply pw_below_drewN | apply below_drew1) | exact HB.out))) : w.heap.size ≤ gb187)); have n3_ := Aside0.mk ((by rw [hg]; exact (below_size (by repeat (first | (with_reducible first | exact HB.out | apply below_alloc | apply pw_below_drewN | apply below_drew1) | exact HB.out))) : w.heap.size ≤ gb187)); clear HB; have HB := n0_; have BK187 := n1_; have GW187 := n2_; have GE187 := n3_; clear n0_ n1_ n2_ n3_; clear hb hbox hg) | ((with_reducible refine gate_dst (N := 3) rfl ?_); (try (refine gate_guard (by rfl) ?_; dsimp only)); refine box_event ?hg (N := 3) ?hd (cs := #[.string a1_0, .int .i64 a1_1, .slice A1_2 l1_2.length c1_2]) (t := 25) ?hr ?_; (case hd => rfl); (case hg => rfl); (case hr => first | (go_simp; done) | (go_simp; rfl)); intro gb188 hg w5 hbox hb; have n0_ := Aside0.mk (blk_below (g := gb187) (o := .cells #[.string a0_0, .int .i64 a0_1, .slice A0_2 l0_2.length c0_2] 25 (0, 0)) (by (with_reducible repeat (first | refine blk_drewN ?_ _ | refine blk_drew ?_ | refine blk_alloc ?_ _)); exact BK187.out) hb); have n1_ := Aside0.mk (below_step (by repeat (first | (with_reducible first | exact HB.out | apply below_alloc | apply pw_below_drewN | apply below_drew1 | refine below_set ?_ GE187.out) | exact HB.out)) hb); have n2_ := Aside0.mk (hbox); have n3_ := Aside0.mk ((by rw [hg]; exact (below_size (by repeat (first | (with_reducible first | exact HB.out | apply below_alloc | apply pw_below_drewN | apply below_drew1 | refine below_set ?_ GE187.out) | exact HB.out))) : w.heap.size ≤ gb188)); have n4_ := Aside0.mk ((by rw [hg]; exact (below_size (by repeat (first | (with_reducible first | exact HB.out | apply below_alloc | apply pw_below_drewN | apply below_drew1 | refine below_set ?_ GE187.out) | exact HB.out))) : w.heap.size ≤ gb188)); have n5_ := Aside0.mk ((by rw [hg]; exact Nat.ne_of_lt (blk_lt (g := gb187) (o := .cells #[.string a0_0, .int .i64 a0_1, .slice A0_2 l0_2.length c0_2] 25 (0, 0)) (by (with_reducible repeat (first | refine blk_drewN ?_ _ | refine blk_drew ?_ | refine blk_alloc ?_ _)); exact BK187.out)) : gb187 ≠ gb188)); have n6_ := Aside0.mk ((by rw [hg]; exact Nat.ne_of_gt (blk_lt (g := gb187) (o := .cells #[.string a0_0, .int .i64 a0_1, .slice A0_2 l0_2.length c0_2] 25 (0, 0)) (by (with_reducible repeat (first | refine blk_drewN ?_ _ | refine blk_drew ?_ | refine blk_alloc ?_ _)); exact BK187.out)) : gb188 ≠ gb187)); clear BK187; clear HB; have BK187 := n0_; have HB := n1_; have BK188 := n2_; have GW188 := n3_; have GE188 := n4_; have NB187_188 := n5_; have NB188_187 := n6_; clear n0_ n1_ n2_ n3_ n4_ n5_ n6_; clear hb hbox hg))
  repeat (go_quiet (first | ((with_reducible refine gate_dst (N := 2) rfl ?_); (try (refine gate_guard (by rfl) ?_; dsimp only)); refine box_event ?hg (N := 2) ?hd (cs := #[.string a0_0, .int .i64 a0_1, .slice A0_2 l0_2.length c0_2]) (t := 25) ?hr ?_; (case hd => rfl); (case hg => rfl); (case hr => first | (go_simp; done) | (go_simp; rfl)); intro gb187 hg w4 hbox hb; have n0_ := Aside0.mk (below_step (by repeat (first | (with_reducible first | exact HB.out | apply below_alloc | apply pw_below_drewN | apply below_drew1) | exact HB.out)) hb); have n1_ := Aside0.mk (hbox); have n2_ := Aside0.mk ((by rw [hg]; exact (below_size (by repeat (first | (with_reducible first | exact HB.out | apply below_alloc | apply pw_below_drewN | apply below_drew1) | exact HB.out))) : w.heap.size ≤ gb187)); have n3_ := Aside0.mk ((by rw [hg]; exact (below_size (by repeat (first | (with_reducible first | exact HB.out | apply below_alloc | apply pw_below_drewN | apply below_drew1) | exact HB.out))) : w.heap.size ≤ gb187)); clear HB; have HB := n0_; have BK187 := n1_; have GW187 := n2_; have GE187 := n3_; clear n0_ n1_ n2_ n3_; clear hb hbox hg) | ((with_reducible refine gate_dst (N := 3) rfl ?_); (try (refine gate_guard (by rfl) ?_; dsimp only)); refine box_event ?hg (N := 3) ?hd (cs := #[.string a1_0, .int .i64 a1_1, .slice A1_2 l1_2.length c1_2]) (t := 25) ?hr ?_; (case hd => rfl); (case hg => rfl); (case hr => first | (go_simp; done) | (go_simp; rfl)); intro gb188 hg w5 hbox hb; have n0_ := Aside0.mk (blk_below (g := gb187) (o := .cells #[.string a0_0, .int .i64 a0_1, .slice A0_2 l0_2.length c0_2] 25 (0, 0)) (by (with_reducible repeat (first | refine blk_drewN ?_ _ | refine blk_drew ?_ | refine blk_alloc ?_ _)); exact BK187.out) hb); have n1_ := Aside0.mk (below_step (by repeat (first | (with_reducible first | exact HB.out | apply below_alloc | apply pw_below_drewN | apply below_drew1 | refine below_set ?_ GE187.out) | exact HB.out)) hb); have n2_ := Aside0.mk (hbox); have n3_ := Aside0.mk ((by rw [hg]; exact (below_size (by repeat (first | (with_reducible first | exact HB.out | apply below_alloc | apply pw_below_drewN | apply below_drew1 | refine below_set ?_ GE187.out) | exact HB.out))) : w.heap.size ≤ gb188)); have n4_ := Aside0.mk ((by rw [hg]; exact (below_size (by repeat (first | (with_reducible first | exact HB.out | apply below_alloc | apply pw_below_drewN | apply below_drew1 | refine below_set ?_ GE187.out) | exact HB.out))) : w.heap.size ≤ gb188)); have n5_ := Aside0.mk ((by rw [hg]; exact Nat.ne_of_lt (blk_lt (g := gb187) (o := .cells #[.string a0_0, .int .i64 a0_1, .slice A0_2 l0_2.length c0_2] 25 (0, 0)) (by (with_reducible repeat (first | refine blk_drewN ?_ _ | refine blk_drew ?_ | refine blk_alloc ?_ _)); exact BK187.out)) : gb187 ≠ gb188)); have n6_ := Aside0.mk ((by rw [hg]; exact Nat.ne_of_gt (blk_lt (g := gb187) (o := .cells #[.string a0_0, .int .i64 a0_1, .slice A0_2 l0_2.length c0_2] 25 (0, 0)) (by (with_reducible repeat (first | refine blk_drewN ?_ _ | refine blk_drew ?_ | refine blk_alloc ?_ _)); exact BK187.out)) : gb188 ≠ gb187)); clear BK187; clear HB; have BK187 := n0_; have HB := n1_; have BK188 := n2_; have GW188 := n3_; have GE188 := n4_; have NB187_188 := n5_; have NB188_187 := n6_; clear n0_ n1_ n2_ n3_ n4_ n5_ n6_; clear hb hbox hg)); go_upto_region 1 with (first | ((with_reducible refine gate_dst (N := 2) rfl ?_); (try (refine gate_guard (by rfl) ?_; dsimp only)); refine box_event ?hg (N := 2) ?hd (cs := #[.string a0_0, .int .i64 a0_1, .slice A0_2 l0_2.length c0_2]) (t := 25) ?hr ?_; (case hd => rfl); (case hg => rfl); (case hr => first | (go_simp; done) | (go_simp; rfl)); intro gb187 hg w4 hbox hb; have n0_ := Aside0.mk (below_step (by repeat (first | (with_reducible first | exact HB.out | apply below_alloc | apply pw_below_drewN | apply below_drew1) | exact HB.out)) hb); have n1_ := Aside0.mk (hbox); have n2_ := Aside0.mk ((by rw [hg]; exact (below_size (by repeat (first | (with_reducible first | exact HB.out | apply below_alloc | apply pw_below_drewN | apply below_drew1) | exact HB.out))) : w.heap.size ≤ gb187)); have n3_ := Aside0.mk ((by rw [hg]; exact (below_size (by repeat (first | (with_reducible first | exact HB.out | apply below_alloc | apply pw_below_drewN | apply below_drew1) | exact HB.out))) : w.heap.size ≤ gb187)); clear HB; have HB := n0_; have BK187 := n1_; have GW187 := n2_; have GE187 := n3_; clear n0_ n1_ n2_ n3_; clear hb hbox hg) | ((with_reducible refine gate_dst (N := 3) rfl ?_); (try (refine gate_guard (by rfl) ?_; dsimp only)); refine box_event ?hg (N := 3) ?hd (cs := #[.string a1_0, .int .i64 a1_1, .slice A1_2 l1_2.length c1_2]) (t := 25) ?hr ?_; (case hd => rfl); (case hg => rfl); (case hr => first | (go_simp; done) | (go_simp; rfl)); intro gb188 hg w5 hbox hb; have n0_ := Aside0.mk (blk_below (g := gb187) (o := .cells #[.string a0_0, .int .i64 a0_1, .slice A0_2 l0_2.length c0_2] 25 (0, 0)) (by (with_reducible repeat (first | refine blk_drewN ?_ _ | refine blk_drew ?_ | refine blk_alloc ?_ _)); exact BK187.out) hb); have n1_ := Aside0.mk (below_step (by repeat (first | (with_reducible first | exact HB.out | apply below_alloc | apply pw_below_drewN | apply below_drew1 | refine below_set ?_ GE187.out) | exact HB.out)) hb); have n2_ := Aside0.mk (hbox); have n3_ := Aside0.mk ((by rw [hg]; exact (below_size (by repeat (first | (with_reducible first | exact HB.out | apply below_alloc | apply pw_below_drewN | apply below_drew1 | refine below_set ?_ GE187.out) | exact HB.out))) : w.heap.size ≤ gb188)); have n4_ := Aside0.mk ((by rw [hg]; exact (below_size (by repeat (first | (with_reducible first | exact HB.out | apply below_alloc | apply pw_below_drewN | apply below_drew1 | refine below_set ?_ GE187.out) | exact HB.out))) : w.heap.size ≤ gb188)); have n5_ := Aside0.mk ((by rw [hg]; exact Nat.ne_of_lt (blk_lt (g := gb187) (o := .cells #[.string a0_0, .int .i64 a0_1, .slice A0_2 l0_2.length c0_2] 25 (0, 0)) (by (with_reducible repeat (first | refine blk_drewN ?_ _ | refine blk_drew ?_ | refine blk_alloc ?_ _)); exact BK187.out)) : gb187 ≠ gb188)); have n6_ := Aside0.mk ((by rw [hg]; exact Nat.ne_of_gt (blk_lt (g := gb187) (o := .cells #[.string a0_0, .int .i64 a0_1, .slice A0_2 l0_2.length c0_2] 25 (0, 0)) (by (with_reducible repeat (first | refine blk_drewN ?_ _ | refine blk_drew ?_ | refine blk_alloc ?_ _)); exact BK187.out)) : gb188 ≠ gb187)); clear BK187; clear HB; have BK187 := n0_; have HB := n1_; have BK188 := n2_; have GW188 := n3_; have GE188 := n4_; have NB187_188 := n5_; have NB188_187 := n6_; clear n0_ n1_ n2_ n3_ n4_ n5_ n6_; clear hb hbox hg)))
  (try simp only [Act.put, List.setIfInBounds_toArray, List.set_cons_zero, List.set_cons_succ])
  go_cut [26] (fun v26 wc => ∃ (kq : Nat) (x26_2 : Bool), v26 = .bool x26_2 ∧ Aside0 (towncrierref05_Same.j0 kq x26_2 a0_0 a0_1 l0_2 a1_0 a1_1 l1_2 = some r) ∧ Aside0 (kq ≤ k) ∧ Aside0 (wc.heap[gb187]? = some (.cells #[.string a0_0, .int .i64 a0_1, (.slice A0_2 l0_2.length c0_2)] 25 (0, 0))) ∧ Aside0 (wc.heap[gb188]? = some (.cells #[.string a1_0, .int .i64 a1_1, (.slice A1_2 l1_2.length c1_2)] 25 (0, 0))) ∧ Aside0 (Below w.heap.size w wc))
  case first =>
    have H := HC3.out
    clear HC3
    by_cases c6 : a0_0.toList = a1_0.toList
    · rw [if_pos c6] at H
      have c6b0 : (a0_0.toList == a1_0.toList) = true := beq_iff_eq.mpr c6
      have c6b1 : (a0_0.toList != a1_0.toList) = false := bne_eq_false_iff_eq.mpr c6
      clear c6
      (first | rw [c6b0] | (simp only [i64_w, i32_w]; rw [c6b0]) | skip)
      by_cases c7 : a0_1 = a1_1
      · rw [if_pos c7] at H
        have c7b0 : (a0_1 == a1_1) = true := beq_iff_eq.mpr c7
        have c7b1 : (a0_1 != a1_1) = false := bne_eq_false_iff_eq.mpr c7
        clear c7
        have H' := Aside0.mk H
        clear H
        have hnb8 := NB187_188.out
        have hnc8 := NB188_187.out
        have hcz9_0 : w5.cell? ⟨gb187, 0, none⟩ = some (.string a0_0) := (blk_cell BK187.out 0).trans rfl
        have hcz9_1 : w5.cell? ⟨gb187, 1, none⟩ = some (.int .i64 a0_1) := (blk_cell BK187.out 1).trans rfl
        have hcz9_2 : w5.cell? ⟨gb187, 2, none⟩ = some (.slice A0_2 l0_2.length c0_2) := (blk_cell BK187.out 2).trans rfl
        have hfz9_0 := blk_frozen BK187.out 0
        have hfz9_1 := blk_frozen BK187.out 1
        have hfz9_2 := blk_frozen BK187.out 2
        have hcz10_0 : w5.cell? ⟨gb188, 0, none⟩ = some (.string a1_0) := (blk_cell BK188.out 0).trans rfl
        have hcz10_1 : w5.cell? ⟨gb188, 1, none⟩ = some (.int .i64 a1_1) := (blk_cell BK188.out 1).trans rfl
        have hcz10_2 : w5.cell? ⟨gb188, 2, none⟩ = some (.slice A1_2 l1_2.length c1_2) := (blk_cell BK188.out 2).trans rfl
        have hfz10_0 := blk_frozen BK188.out 0
        have hfz10_1 := blk_frozen BK188.out 1
        have hfz10_2 := blk_frozen BK188.out 2
        go_wp2
        repeat (go_quiet (fail); try go_wp2)
        go_meet
        case rel => exact ⟨_, (((l0_2.length : Int) != (l1_2.length : Int))), (by first | rfl | (simp; done) | (simp [*]; done)), H', ⟨by first | omega | exact Nat.le_refl _⟩, ⟨by (with_reducible repeat (first | refine blk_drewN ?_ _ | refine blk_drew ?_ | refine blk_alloc ?_ _)); exact BK187.out⟩, ⟨by (with_reducible repeat (first | refine blk_drewN ?_ _ | refine blk_drew ?_ | refine blk_alloc ?_ _)); exact BK188.out⟩, ⟨by repeat (first | (with_reducible first | exact HB.out | apply below_alloc | apply pw_below_drewN | apply below_drew1 | refine below_set ?_ GE187.out | refine below_set ?_ GE188.out) | exact HB.out)⟩⟩
      · rw [if_neg c7] at H
        have c7b0 : (a0_1 == a1_1) = false := beq_eq_false_iff_ne.mpr c7
        have c7b1 : (a0_1 != a1_1) = true := bne_iff_ne.mpr c7
        have H' := Aside0.mk H
        clear H
        have hnb11 := NB187_188.out
        have hnc11 := NB188_187.out
        have hcz12_0 : w5.cell? ⟨gb187, 0, none⟩ = some (.string a0_0) := (blk_cell BK187.out 0).trans rfl
        have hcz12_1 : w5.cell? ⟨gb187, 1, none⟩ = some (.int .i64 a0_1) := (blk_cell BK187.out 1).trans rfl
        have hcz12_2 : w5.cell? ⟨gb187, 2, none⟩ = some (.slice A0_2 l0_2.length c0_2) := (blk_cell BK187.out 2).trans rfl
        have hfz12_0 := blk_frozen BK187.out 0
        have hfz12_1 := blk_frozen BK187.out 1
        have hfz12_2 := blk_frozen BK187.out 2
        have hcz13_0 : w5.cell? ⟨gb188, 0, none⟩ = some (.string a1_0) := (blk_cell BK188.out 0).trans rfl
        have hcz13_1 : w5.cell? ⟨gb188, 1, none⟩ = some (.int .i64 a1_1) := (blk_cell BK188.out 1).trans rfl
        have hcz13_2 : w5.cell? ⟨gb188, 2, none⟩ = some (.slice A1_2 l1_2.length c1_2) := (blk_cell BK188.out 2).trans rfl
        have hfz13_0 := blk_frozen BK188.out 0
        have hfz13_1 := blk_frozen BK188.out 1
        have hfz13_2 := blk_frozen BK188.out 2
        go_wp2
        repeat (go_quiet (fail); try go_wp2)
        go_meet
        case rel => exact ⟨_, (true), (by first | rfl | (simp; done) | (simp [*]; done)), H', ⟨by first | omega | exact Nat.le_refl _⟩, ⟨by (with_reducible repeat (first | refine blk_drewN ?_ _ | refine blk_drew ?_ | refine blk_alloc ?_ _)); exact BK187.out⟩, ⟨by (with_reducible repeat (first | refine blk_drewN ?_ _ | refine blk_drew ?_ | refine blk_alloc ?_ _)); exact BK188.out⟩, ⟨by repeat (first | (with_reducible first | exact HB.out | apply below_alloc | apply pw_below_drewN | apply below_drew1 | refine below_set ?_ GE187.out | refine below_set ?_ GE188.out) | exact HB.out)⟩⟩
    · rw [if_neg c6] at H
      have c6b0 : (a0_0.toList == a1_0.toList) = false := beq_eq_false_iff_ne.mpr c6
      have c6b1 : (a0_0.toList != a1_0.toList) = true := bne_iff_ne.mpr c6
      (first | rw [c6b0] | (simp only [i64_w, i32_w]; rw [c6b0]) | skip)
      have H' := Aside0.mk H
      clear H
      have hnb14 := NB187_188.out
      have hnc14 := NB188_187.out
      have hcz15_0 : w5.cell? ⟨gb187, 0, none⟩ = some (.string a0_0) := (blk_cell BK187.out 0).trans rfl
      have hcz15_1 : w5.cell? ⟨gb187, 1, none⟩ = some (.int .i64 a0_1) := (blk_cell BK187.out 1).trans rfl
      have hcz15_2 : w5.cell? ⟨gb187, 2, none⟩ = some (.slice A0_2 l0_2.length c0_2) := (blk_cell BK187.out 2).trans rfl
      have hfz15_0 := blk_frozen BK187.out 0
      have hfz15_1 := blk_frozen BK187.out 1
      have hfz15_2 := blk_frozen BK187.out 2
      have hcz16_0 : w5.cell? ⟨gb188, 0, none⟩ = some (.string a1_0) := (blk_cell BK188.out 0).trans rfl
      have hcz16_1 : w5.cell? ⟨gb188, 1, none⟩ = some (.int .i64 a1_1) := (blk_cell BK188.out 1).trans rfl
      have hcz16_2 : w5.cell? ⟨gb188, 2, none⟩ = some (.slice A1_2 l1_2.length c1_2) := (blk_cell BK188.out 2).trans rfl
      have hfz16_0 := blk_frozen BK188.out 0
      have hfz16_1 := blk_frozen BK188.out 1
      have hfz16_2 := blk_frozen BK188.out 2
      go_wp2
      repeat (go_quiet (fail); try go_wp2)
      go_meet
      case rel => exact ⟨_, (true), (by first | rfl | (simp; done) | (simp [*]; done)), H', ⟨by first | omega | exact Nat.le_refl _⟩, ⟨by (with_reducible repeat (first | refine blk_drewN ?_ _ | refine blk_drew ?_ | refine blk_alloc ?_ _)); exact BK187.out⟩, ⟨by (with_reducible repeat (first | refine blk_drewN ?_ _ | refine blk_drew ?_ | refine blk_alloc ?_ _)); exact BK188.out⟩, ⟨by repeat (first | (with_reducible first | exact HB.out | apply below_alloc | apply pw_below_drewN | apply below_drew1 | refine below_set ?_ GE187.out | refine below_set ?_ GE188.out) | exact HB.out)⟩⟩
  case rest =>
    clear HC3
    try clear c1
    try clear c2
    try clear p2
    try clear c6
    try clear c6b0
    try clear c6b1
    try clear c7
    try clear c7b0
    try clear c7b1
    try clear c8
    try clear c11
    try clear c14
    try clear hcz10_0
    try clear hcz10_1
    try clear hcz10_2
    try clear hcz12_0
    try clear hcz12_1
    try clear hcz12_2
    try clear hcz13_0
    try clear hcz13_1
    try clear hcz13_2
    try clear hcz15_0
    try clear hcz15_1
    try clear hcz15_2
    try clear hcz16_0
    try clear hcz16_1
    try clear hcz16_2
    try clear hcz9_0
    try clear hcz9_1
    try clear hcz9_2
    try clear hfz10_0
    try clear hfz10_1
    try clear hfz10_2
    try clear hfz12_0
    try clear hfz12_1
    try clear hfz12_2
    try clear hfz13_0
    try clear hfz13_1
    try clear hfz13_2
    try clear hfz15_0
    try clear hfz15_1
    try clear hfz15_2
    try clear hfz16_0
    try clear hfz16_1
    try clear hfz16_2
    try clear hfz9_0
    try clear hfz9_1
    try clear hfz9_2
    obtain ⟨kq, x26_2, rfl, HA, HJ2, BK187, BK188, HB⟩ := hcut
    cases kq with
    | zero => exact absurd HA.out (by simp [towncrierref05_Same.j0])
    | succ kj2 =>
      have H := HA.out
      clear HA
      simp only [towncrierref05_Same.j0] at H
      by_cases c17 : x26_2 = true
      · subst c17
        have H1 : (some false) = some r := by rw [if_pos rfl] at H; exact H
        clear H
        have H := H1
        clear H1
        obtain rfl := Option.some.inj H
        go_wp2
        repeat (go_quiet (fail); try go_wp2)
        go_ret
        exact ⟨by first | rfl | (simp [errW_none, errW_some] <;> rfl) | (simp [*, errW_none, errW_some] <;> rfl), by repeat (first | (with_reducible first | exact HB.out | apply below_alloc | apply pw_below_drewN | apply below_drew1 | refine below_set ?_ GE187.out | refine below_set ?_ GE188.out) | exact HB.out)⟩
      · replace c17 := Bool.eq_false_iff.mpr c17
        subst c17
        have H1 : (towncrierref05_Same.l0 kj2 0 a0_0 a0_1 l0_2 a1_0 a1_1 l1_2) = some r := by rw [if_neg (show ¬ (false = true) by decide)] at H; exact H
        clear H
        have H := H1
        clear H1
        have H' := Aside0.mk H
        clear H
        go_wp2
        repeat (go_quiet (fail); try go_wp2)
        go_loopg [5] kj2 (fun kq v5 w' => ∃ (x5_2 : Int), v5 = .int .i64 x5_2 ∧ Aside0 (towncrierref05_Same.l0 kq x5_2 a0_0 a0_1 l0_2 a1_0 a1_1 l1_2 = some r) ∧ Aside0 (kq ≤ kj2) ∧ Aside0 (w'.heap[gb187]? = some (.cells #[.string a0_0, .int .i64 a0_1, (.slice A0_2 l0_2.length c0_2)] 25 (0, 0))) ∧ Aside0 (w'.heap[gb188]? = some (.cells #[.string a1_0, .int .i64 a1_1, (.slice A1_2 l1_2.length c1_2)] 25 (0, 0))) ∧ Aside0 (Below w.heap.size w w'))
        case atStart => exact ⟨(0), (by first | rfl | (simp; done) | (simp [*]; done)), H', ⟨Nat.le_refl _⟩, ⟨by (with_reducible repeat (first | refine blk_drewN ?_ _ | refine blk_drew ?_ | refine blk_alloc ?_ _)); exact BK187.out⟩, ⟨by (with_reducible repeat (first | refine blk_drewN ?_ _ | refine blk_drew ?_ | refine blk_alloc ?_ _)); exact BK188.out⟩, ⟨by repeat (first | (with_reducible first | exact HB.out | apply below_alloc | apply pw_below_drewN | apply below_drew1 | refine below_set ?_ GE187.out | refine below_set ?_ GE188.out) | exact HB.out)⟩⟩
        case round =>
          clear H'
          try clear c1
          try clear c2
          try clear p2
          try clear c6
          try clear c6b0
          try clear c6b1
          try clear c7
          try clear c7b0
          try clear c7b1
          try clear c8
          try clear c11
          try clear c14
          try clear c17
          try clear hcz10_0
          try clear hcz10_1
          try clear hcz10_2
          try clear hcz12_0
          try clear hcz12_1
          try clear hcz12_2
          try clear hcz13_0
          try clear hcz13_1
          try clear hcz13_2
          try clear hcz15_0
          try clear hcz15_1
          try clear hcz15_2
          try clear hcz16_0
          try clear hcz16_1
          try clear hcz16_2
          try clear hcz9_0
          try clear hcz9_1
          try clear hcz9_2
          try clear hfz10_0
          try clear hfz10_1
          try clear hfz10_2
          try clear hfz12_0
          try clear hfz12_1
          try clear hfz12_2
          try clear hfz13_0
          try clear hfz13_1
          try clear hfz13_2
          try clear hfz15_0
          try clear hfz15_1
          try clear hfz15_2
          try clear hfz16_0
          try clear hfz16_1
          try clear hfz16_2
          try clear hfz9_0
          try clear hfz9_1
          try clear hfz9_2
          try clear p2
          obtain ⟨x5_2, rfl, HA, HK2, BK187, BK188, HB⟩ := hrel
          cases gk with
          | zero => exact absurd HA.out (by simp [towncrierref05_Same.l0])
          | succ k2 =>
            have H := HA.out
            clear HA
            simp only [towncrierref05_Same.l0] at H
            by_cases c18 : x5_2 < (l0_2.length : Int)
            · rw [if_pos c18] at H
              have c18b0 : decide (x5_2 < (l0_2.length : Int)) = true := decide_eq_true c18
              clear c18
              by_cases c19 : 0 ≤ x5_2
              · rw [if_pos c19] at H
                have c19b0 : decide (0 ≤ x5_2) = true := decide_eq_true c19
                clear c19
                by_cases c20 : x5_2 < (l1_2.length : Int)
                · rw [if_pos c20] at H
                  have c20b0 : decide (x5_2 < (l1_2.length : Int)) = true := decide_eq_true c20
                  clear c20
                  by_cases c21 : (!((((rd_TField l0_2 x5_2).f0).toList) == (((rd_TField l1_2 x5_2).f0).toList)) || (!(((rd_TField l0_2 x5_2).f1) == ((rd_TField l1_2 x5_2).f1)))) = true
                  · rw [if_pos c21] at H
                    have c21b0 : (!((((rd_TField l0_2 x5_2).f0).toList) == (((rd_TField l1_2 x5_2).f0).toList)) || (!(((rd_TField l0_2 x5_2).f1) == ((rd_TField l1_2 x5_2).f1)))) = true := c21
                    clear c21
                    obtain rfl := Option.some.inj H
                    have hnb22 := NB187_188.out
                    have hnc22 := NB188_187.out
                    have hcz23_0 : wr.cell? ⟨gb187, 0, none⟩ = some (.string a0_0) := (blk_cell BK187.out 0).trans rfl
                    have hcz23_1 : wr.cell? ⟨gb187, 1, none⟩ = some (.int .i64 a0_1) := (blk_cell BK187.out 1).trans rfl
                    have hcz23_2 : wr.cell? ⟨gb187, 2, none⟩ = some (.slice A0_2 l0_2.length c0_2) := (blk_cell BK187.out 2).trans rfl
                    have hfz23_0 := blk_frozen BK187.out 0
                    have hfz23_1 := blk_frozen BK187.out 1
                    have hfz23_2 := blk_frozen BK187.out 2
                    have p189 : 0 ≤ (x5_2 : Int) := of_decide_eq_true (by first | (with_reducible assumption) | assumption)
                    have q189 : x5_2 < (l0_2.length : Int) := of_decide_eq_true (by first | (with_reducible assumption) | assumption)
                    obtain ⟨ad189, e189, hx189_0, hx189_1⟩ := at_TField HR0_2.out x5_2 p189 q189
                    cases e189
                    replace hx189_0 := (HB.out.cell (World.block_lt_of_cell? w _ hx189_0)).trans hx189_0
                    replace hx189_1 := (HB.out.cell (World.block_lt_of_cell? w _ hx189_1)).trans hx189_1
                    replace p189 := eq_true p189
                    replace q189 := eq_true q189
                    have hcz24_0 : wr.cell? ⟨gb188, 0, none⟩ = some (.string a1_0) := (blk_cell BK188.out 0).trans rfl
                    have hcz24_1 : wr.cell? ⟨gb188, 1, none⟩ = some (.int .i64 a1_1) := (blk_cell BK188.out 1).trans rfl
                    have hcz24_2 : wr.cell? ⟨gb188, 2, none⟩ = some (.slice A1_2 l1_2.length c1_2) := (blk_cell BK188.out 2).trans rfl
                    have hfz24_0 := blk_frozen BK188.out 0
                    have hfz24_1 := blk_frozen BK188.out 1
                    have hfz24_2 := blk_frozen BK188.out 2
                    have p190 : 0 ≤ (x5_2 : Int) := of_decide_eq_true (by first | (with_reducible assumption) | assumption)
                    have q190 : x5_2 < (l1_2.length : Int) := of_decide_eq_true (by first | (with_reducible assumption) | assumption)
                    obtain ⟨ad190, e190, hx190_0, hx190_1⟩ := at_TField HR1_2.out x5_2 p190 q190
                    cases e190
                    replace hx190_0 := (HB.out.cell (World.block_lt_of_cell? w _ hx190_0)).trans hx190_0
                    replace hx190_1 := (HB.out.cell (World.block_lt_of_cell? w _ hx190_1)).trans hx190_1
                    replace p190 := eq_true p190
                    replace q190 := eq_true q190
                    go_wp2
                    repeat (go_quiet (fail); try go_wp2)
                    go_ret
                    exact ⟨by first | rfl | (simp [errW_none, errW_some] <;> rfl) | (simp [*, errW_none, errW_some] <;> rfl), by repeat (first | (with_reducible first | exact HB.out | apply below_alloc | apply pw_below_drewN | apply below_drew1 | refine below_set ?_ GE187.out | refine below_set ?_ GE188.out) | exact HB.out)⟩
                  · rw [if_neg c21] at H
                    have c21b0 : (!((((rd_TField l0_2 x5_2).f0).toList) == (((rd_TField l1_2 x5_2).f0).toList)) || (!(((rd_TField l0_2 x5_2).f1) == ((rd_TField l1_2 x5_2).f1)))) = false := by simpa using c21
                    clear c21
                    have H' := Aside0.mk H
                    clear H
                    have hnb25 := NB187_188.out
                    have hnc25 := NB188_187.out
                    have hcz26_0 : wr.cell? ⟨gb187, 0, none⟩ = some (.string a0_0) := (blk_cell BK187.out 0).trans rfl
                    have hcz26_1 : wr.cell? ⟨gb187, 1, none⟩ = some (.int .i64 a0_1) := (blk_cell BK187.out 1).trans rfl
                    have hcz26_2 : wr.cell? ⟨gb187, 2, none⟩ = some (.slice A0_2 l0_2.length c0_2) := (blk_cell BK187.out 2).trans rfl
                    have hfz26_0 := blk_frozen BK187.out 0
                    have hfz26_1 := blk_frozen BK187.out 1
                    have hfz26_2 := blk_frozen BK187.out 2
                    have p189 : 0 ≤ (x5_2 : Int) := of_decide_eq_true (by first | (with_reducible assumption) | assumption)
                    have q189 : x5_2 < (l0_2.length : Int) := of_decide_eq_true (by first | (with_reducible assumption) | assumption)
                    obtain ⟨ad189, e189, hx189_0, hx189_1⟩ := at_TField HR0_2.out x5_2 p189 q189
                    cases e189
                    replace hx189_0 := (HB.out.cell (World.block_lt_of_cell? w _ hx189_0)).trans hx189_0
                    replace hx189_1 := (HB.out.cell (World.block_lt_of_cell? w _ hx189_1)).trans hx189_1
                    replace p189 := eq_true p189
                    replace q189 := eq_true q189
                    have hcz27_0 : wr.cell? ⟨gb188, 0, none⟩ = some (.string a1_0) := (blk_cell BK188.out 0).trans rfl
                    have hcz27_1 : wr.cell? ⟨gb188, 1, none⟩ = some (.int .i64 a1_1) := (blk_cell BK188.out 1).trans rfl
                    have hcz27_2 : wr.cell? ⟨gb188, 2, none⟩ = some (.slice A1_2 l1_2.length c1_2) := (blk_cell BK188.out 2).trans rfl
                    have hfz27_0 := blk_frozen BK188.out 0
                    have hfz27_1 := blk_frozen BK188.out 1
                    have hfz27_2 := blk_frozen BK188.out 2
                    have p190 : 0 ≤ (x5_2 : Int) := of_decide_eq_true (by first | (with_reducible assumption) | assumption)
                    have q190 : x5_2 < (l1_2.length : Int) := of_decide_eq_true (by first | (with_reducible assumption) | assumption)
                    obtain ⟨ad190, e190, hx190_0, hx190_1⟩ := at_TField HR1_2.out x5_2 p190 q190
                    cases e190
                    replace hx190_0 := (HB.out.cell (World.block_lt_of_cell? w _ hx190_0)).trans hx190_0
                    replace hx190_1 := (HB.out.cell (World.block_lt_of_cell? w _ hx190_1)).trans hx190_1
                    replace p190 := eq_true p190
                    replace q190 := eq_true q190
                    go_wp2
                    repeat (go_quiet (fail); try go_wp2)
                    go_roundg k2
                    case measure => have := HJ2.out; have := HK2.out; omega
                    case rel => exact ⟨(wrap64 (x5_2 + 1)), (by first | rfl | (simp; done) | (simp [*]; done)), H', ⟨by have := HJ2.out; have := HK2.out; omega⟩, ⟨by (with_reducible repeat (first | refine blk_drewN ?_ _ | refine blk_drew ?_ | refine blk_alloc ?_ _)); exact BK187.out⟩, ⟨by (with_reducible repeat (first | refine blk_drewN ?_ _ | refine blk_drew ?_ | refine blk_alloc ?_ _)); exact BK188.out⟩, ⟨by repeat (first | (with_reducible first | exact HB.out | apply below_alloc | apply pw_below_drewN | apply below_drew1 | refine below_set ?_ GE187.out | refine below_set ?_ GE188.out) | exact HB.out)⟩⟩
                · rw [if_neg c20] at H
                  exact absurd H (by simp)
              · rw [if_neg c19] at H
                exact absurd H (by simp)
            · rw [if_neg c18] at H
              have c18b0 : decide (x5_2 < (l0_2.length : Int)) = false := decide_eq_false c18
              clear c18
              obtain rfl := Option.some.inj H
              have hnb28 := NB187_188.out
              have hnc28 := NB188_187.out
              have hcz29_0 : wr.cell? ⟨gb187, 0, none⟩ = some (.string a0_0) := (blk_cell BK187.out 0).trans rfl
              have hcz29_1 : wr.cell? ⟨gb187, 1, none⟩ = some (.int .i64 a0_1) := (blk_cell BK187.out 1).trans rfl
              have hcz29_2 : wr.cell? ⟨gb187, 2, none⟩ = some (.slice A0_2 l0_2.length c0_2) := (blk_cell BK187.out 2).trans rfl
              have hfz29_0 := blk_frozen BK187.out 0
              have hfz29_1 := blk_frozen BK187.out 1
              have hfz29_2 := blk_frozen BK187.out 2
              go_wp2
              repeat (go_quiet (fail); try go_wp2)
              go_ret
              exact ⟨by first | rfl | (simp [errW_none, errW_some] <;> rfl) | (simp [*, errW_none, errW_some] <;> rfl), by repeat (first | (with_reducible first | exact HB.out | apply below_alloc | apply pw_below_drewN | apply below_drew1 | refine below_set ?_ GE187.out | refine below_set ?_ GE188.out) | exact HB.out)⟩

end Go.Proofs.Ytbgdamlidohfhaa.P

namespace Go.Proofs.Ytbgdamlidohfhaa.P
open Go.RowKit Go.Proofs.YtbgdamlidohfhaaW.PrintWords Go.Proofs.YtbgdamlidohfhaaW.PrintLast Go.Proofs.YtbgdamlidohfhaaW.PrintMore
attribute [local go_sem] max2_int min2_int max_two min_two max_three min_three max_four min_four   -- for this text's walks alone
set_option linter.unusedVariables false
set_option linter.unusedSimpArgs false

/-! ### towncrierref05_Name: function 35 -/
def towncrierref05_Name.l0 : Nat → ByteArray → Int → Option (Bool)
  | 0, _, _ => none
  | k + 1, x0, x3 => if x3 < (x0.size : Int) then (if 0 ≤ x3 then (if (bt x0 x3) ≥ 97 then (if ((bt x0 x3) ≤ 122) then (towncrierref05_Name.l0 k x0 (wrap64 (x3 + 1))) else (if x3 = 0 then (some false) else (if (bt x0 x3) = 95 then (towncrierref05_Name.l0 k x0 (wrap64 (x3 + 1))) else (if (bt x0 x3) < 48 then (some false) else (if (bt x0 x3) > 57 then (some false) else (towncrierref05_Name.l0 k x0 (wrap64 (x3 + 1)))))))) else (if x3 = 0 then (some false) else (if (bt x0 x3) = 95 then (towncrierref05_Name.l0 k x0 (wrap64 (x3 + 1))) else (if (bt x0 x3) < 48 then (some false) else (if (bt x0 x3) > 57 then (some false) else (towncrierref05_Name.l0 k x0 (wrap64 (x3 + 1)))))))) else (none)) else (if (x0.size : Int) ≥ 1 then (some (decide ((x0.size : Int) ≤ 12))) else (some false))
def towncrierref05_Name.f (k : Nat) (a0 : ByteArray) : Option (Bool) := towncrierref05_Name.l0 k a0 0
theorem towncrierref05_Name.mono_l : ∀ k, (∀ y0 y1, LeO (towncrierref05_Name.l0 k y0 y1) (towncrierref05_Name.l0 (k + 1) y0 y1))
  | 0 => fun _ _ r h => by simp [towncrierref05_Name.l0] at h
  | k + 1 => by
    have ih0 := towncrierref05_Name.mono_l k
    · intro y0 y1
      unfold towncrierref05_Name.l0
      repeat' first
      | (with_reducible exact ih0 _ _)
      | (with_reducible exact LeO.refl _)
      | (with_reducible exact LeO.none _)
      | (with_reducible refine LeO.ite ?_ ?_)
      | (with_reducible refine LeO.bind ?_ (fun _ => ?_))
      | exact ih0 _ _
      | exact LeO.none _
      | refine LeO.ite ?_ ?_
      | refine LeO.bind ?_ (fun _ => ?_)
theorem towncrierref05_Name.mono : ∀ a0 k, LeO (towncrierref05_Name.f k a0) (towncrierref05_Name.f (k + 1) a0) := by
  intro a0 k
  have ih0 := towncrierref05_Name.mono_l k
  unfold towncrierref05_Name.f
  repeat' first
      | (with_reducible exact ih0 _ _)
      | (with_reducible exact LeO.refl _)
      | (with_reducible exact LeO.none _)
      | (with_reducible refine LeO.ite ?_ ?_)
      | (with_reducible refine LeO.bind ?_ (fun _ => ?_))
      | exact ih0 _ _
      | exact LeO.none _
      | refine LeO.ite ?_ ?_
      | refine LeO.bind ?_ (fun _ => ?_)
set_option maxHeartbeats 8000000 in
set_option maxRecDepth 100000 in
theorem towncrierref05_Name.calls (k : Nat) (a0 : ByteArray) (r : Bool) (w : World) (h : towncrierref05_Name.f k a0 = some r) :
    Calls Try.prog 35 #[.string a0] w fun e w' => e = .returned (.bool r) ∧ Drawn0 w w' := by
  have H : (towncrierref05_Name.l0 k a0 0) = some r := h
  clear h
  have H' := Aside0.mk H
  clear H
  go_enter Try.func35, Try.ntmps35
  go_wp2
  go_loopg [3] k (fun kq v3 w' => ∃ (x3_1 : Int), v3 = .int .i64 x3_1 ∧ Aside0 (towncrierref05_Name.l0 kq a0 x3_1 = some r) ∧ Aside0 (kq ≤ k) ∧ Drawn0 w w')
  case atStart => exact ⟨(0), (by first | rfl | (simp; done) | (simp [*]; done)), H', ⟨Nat.le_refl _⟩, by repeat (first | exact Drawn0.refl _ | apply Drawn0.step)⟩
  case round =>
    clear H'
    obtain ⟨x3_1, rfl, HA, HK1, ⟨m1, rfl⟩⟩ := hrel
    cases gk with
    | zero => exact absurd HA.out (by simp [towncrierref05_Name.l0])
    | succ k1 =>
      have H := HA.out
      clear HA
      simp only [towncrierref05_Name.l0] at H
      by_cases c2 : x3_1 < (a0.size : Int)
      · rw [if_pos c2] at H
        have c2b0 : decide (x3_1 < (a0.size : Int)) = true := decide_eq_true c2
        clear c2
        by_cases c3 : 0 ≤ x3_1
        · rw [if_pos c3] at H
          have c3b0 : decide (0 ≤ x3_1) = true := decide_eq_true c3
          clear c3
          by_cases c5 : (bt a0 x3_1) ≥ 97
          · rw [if_pos c5] at H
            have c5b0 : decide (97 ≤ (bt a0 x3_1)) = true := decide_eq_true c5
            clear c5
            by_cases c6 : ((bt a0 x3_1) ≤ 122)
            · rw [if_pos c6] at H
              have c6b0 : decide ((bt a0 x3_1) ≤ 122) = true := decide_eq_true c6
              clear c6
              have H' := Aside0.mk H
              clear H
              have p4 : 0 ≤ (x3_1 : Int) := of_decide_eq_true (by first | (with_reducible assumption) | assumption)
              have q4 : x3_1 < (a0.size : Int) := of_decide_eq_true (by first | (with_reducible assumption) | assumption)
              have hx4 := bt_at a0 x3_1
              replace p4 := eq_true p4
              replace q4 := eq_true q4
              go_wp2
              go_roundg k1
              case measure => have := HK1.out; omega
              case rel => exact ⟨(wrap64 (x3_1 + 1)), (by first | rfl | (simp; done) | (simp [*]; done)), H', ⟨by have := HK1.out; omega⟩, by repeat (first | exact Drawn0.refl _ | apply Drawn0.step)⟩
            · rw [if_neg c6] at H
              have c6b0 : decide ((bt a0 x3_1) ≤ 122) = false := decide_eq_false c6
              clear c6
              by_cases c7 : x3_1 = 0
              · rw [if_pos c7] at H
                have c7b0 : (x3_1 == 0) = true := beq_iff_eq.mpr c7
                have c7b1 : (x3_1 != 0) = false := bne_eq_false_iff_eq.mpr c7
                clear c7
                obtain rfl := Option.some.inj H
                have p4 : 0 ≤ (x3_1 : Int) := of_decide_eq_true (by first | (with_reducible assumption) | assumption)
                have q4 : x3_1 < (a0.size : Int) := of_decide_eq_true (by first | (with_reducible assumption) | assumption)
                have hx4 := bt_at a0 x3_1
                replace p4 := eq_true p4
                replace q4 := eq_true q4
                go_wp2
                go_ret
                exact ⟨by first | rfl | (simp; done) | (simp [*]; done), by repeat (first | exact Drawn0.refl _ | apply Drawn0.step)⟩
              · rw [if_neg c7] at H
                have c7b0 : (x3_1 == 0) = false := beq_eq_false_iff_ne.mpr c7
                have c7b1 : (x3_1 != 0) = true := bne_iff_ne.mpr c7
                by_cases c8 : (bt a0 x3_1) = 95
                · rw [if_pos c8] at H
                  have c8b0 : ((bt a0 x3_1) == 95) = true := beq_iff_eq.mpr c8
                  have c8b1 : ((bt a0 x3_1) != 95) = false := bne_eq_false_iff_eq.mpr c8
                  clear c8
                  have H' := Aside0.mk H
                  clear H
                  have p4 : 0 ≤ (x3_1 : Int) := of_decide_eq_true (by first | (with_reducible assumption) | assumption)
                  have q4 : x3_1 < (a0.size : Int) := of_decide_eq_true (by first | (with_reducible assumption) | assumption)
                  have hx4 := bt_at a0 x3_1
                  replace p4 := eq_true p4
                  replace q4 := eq_true q4
                  go_wp2
                  go_roundg k1
                  case measure => have := HK1.out; omega
                  case rel => exact ⟨(wrap64 (x3_1 + 1)), (by first | rfl | (simp; done) | (simp [*]; done)), H', ⟨by have := HK1.out; omega⟩, by repeat (first | exact Drawn0.refl _ | apply Drawn0.step)⟩
                · rw [if_neg c8] at H
                  have c8b0 : ((bt a0 x3_1) == 95) = false := beq_eq_false_iff_ne.mpr c8
                  have c8b1 : ((bt a0 x3_1) != 95) = true := bne_iff_ne.mpr c8
                  by_cases c9 : (bt a0 x3_1) < 48
                  · rw [if_pos c9] at H
                    have c9b0 : decide ((bt a0 x3_1) < 48) = true := decide_eq_true c9
                    clear c9
                    obtain rfl := Option.some.inj H
                    have p4 : 0 ≤ (x3_1 : Int) := of_decide_eq_true (by first | (with_reducible assumption) | assumption)
                    have q4 : x3_1 < (a0.size : Int) := of_decide_eq_true (by first | (with_reducible assumption) | assumption)
                    have hx4 := bt_at a0 x3_1
                    replace p4 := eq_true p4
                    replace q4 := eq_true q4
                    go_wp2
                    go_ret
                    exact ⟨by first | rfl | (simp; done) | (simp [*]; done), by repeat (first | exact Drawn0.refl _ | apply Drawn0.step)⟩
                  · rw [if_neg c9] at H
                    have c9b0 : decide ((bt a0 x3_1) < 48) = false := decide_eq_false c9
                    clear c9
                    by_cases c10 : (bt a0 x3_1) > 57
                    · rw [if_pos c10] at H
                      have c10b0 : decide (57 < (bt a0 x3_1)) = true := decide_eq_true c10
                      clear c10
                      obtain rfl := Option.some.inj H
                      have p4 : 0 ≤ (x3_1 : Int) := of_decide_eq_true (by first | (with_reducible assumption) | assumption)
                      have q4 : x3_1 < (a0.size : Int) := of_decide_eq_true (by first | (with_reducible assumption) | assumption)
                      have hx4 := bt_at a0 x3_1
                      replace p4 := eq_true p4
                      replace q4 := eq_true q4
                      go_wp2
                      go_ret
                      exact ⟨by first | rfl | (simp; done) | (simp [*]; done), by repeat (first | exact Drawn0.refl _ | apply Drawn0.step)⟩
                    · rw [if_neg c10] at H
                      have c10b0 : decide (57 < (bt a0 x3_1)) = false := decide_eq_false c10
                      clear c10
                      have H' := Aside0.mk H
                      clear H
                      have p4 : 0 ≤ (x3_1 : Int) := of_decide_eq_true (by first | (with_reducible assumption) | assumption)
                      have q4 : x3_1 < (a0.size : Int) := of_decide_eq_true (by first | (with_reducible assumption) | assumption)
                      have hx4 := bt_at a0 x3_1
                      replace p4 := eq_true p4
                      replace q4 := eq_true q4
                      go_wp2
                      go_roundg k1
                      case measure => have := HK1.out; omega
                      case rel => exact ⟨(wrap64 (x3_1 + 1)), (by first | rfl | (simp; done) | (simp [*]; done)), H', ⟨by have := HK1.out; omega⟩, by repeat (first | exact Drawn0.refl _ | apply Drawn0.step)⟩
          · rw [if_neg c5] at H
            have c5b0 : decide (97 ≤ (bt a0 x3_1)) = false := decide_eq_false c5
            clear c5
            by_cases c11 : x3_1 = 0
            · rw [if_pos c11] at H
              have c11b0 : (x3_1 == 0) = true := beq_iff_eq.mpr c11
              have c11b1 : (x3_1 != 0) = false := bne_eq_false_iff_eq.mpr c11
              clear c11
              obtain rfl := Option.some.inj H
              have p4 : 0 ≤ (x3_1 : Int) := of_decide_eq_true (by first | (with_reducible assumption) | assumption)
              have q4 : x3_1 < (a0.size : Int) := of_decide_eq_true (by first | (with_reducible assumption) | assumption)
              have hx4 := bt_at a0 x3_1
              replace p4 := eq_true p4
              replace q4 := eq_true q4
              go_wp2
              go_ret
              exact ⟨by first | rfl | (simp; done) | (simp [*]; done), by repeat (first | exact Drawn0.refl _ | apply Drawn0.step)⟩
            · rw [if_neg c11] at H
              have c11b0 : (x3_1 == 0) = false := beq_eq_false_iff_ne.mpr c11
              have c11b1 : (x3_1 != 0) = true := bne_iff_ne.mpr c11
              by_cases c12 : (bt a0 x3_1) = 95
              · rw [if_pos c12] at H
                have c12b0 : ((bt a0 x3_1) == 95) = true := beq_iff_eq.mpr c12
                have c12b1 : ((bt a0 x3_1) != 95) = false := bne_eq_false_iff_eq.mpr c12
                clear c12
                have H' := Aside0.mk H
                clear H
                have p4 : 0 ≤ (x3_1 : Int) := of_decide_eq_true (by first | (with_reducible assumption) | assumption)
                have q4 : x3_1 < (a0.size : Int) := of_decide_eq_true (by first | (with_reducible assumption) | assumption)
                have hx4 := bt_at a0 x3_1
                replace p4 := eq_true p4
                replace q4 := eq_true q4
                go_wp2
                go_roundg k1
                case measure => have := HK1.out; omega
                case rel => exact ⟨(wrap64 (x3_1 + 1)), (by first | rfl | (simp; done) | (simp [*]; done)), H', ⟨by have := HK1.out; omega⟩, by repeat (first | exact Drawn0.refl _ | apply Drawn0.step)⟩
              · rw [if_neg c12] at H
                have c12b0 : ((bt a0 x3_1) == 95) = false := beq_eq_false_iff_ne.mpr c12
                have c12b1 : ((bt a0 x3_1) != 95) = true := bne_iff_ne.mpr c12
                by_cases c13 : (bt a0 x3_1) < 48
                · rw [if_pos c13] at H
                  have c13b0 : decide ((bt a0 x3_1) < 48) = true := decide_eq_true c13
                  clear c13
                  obtain rfl := Option.some.inj H
                  have p4 : 0 ≤ (x3_1 : Int) := of_decide_eq_true (by first | (with_reducible assumption) | assumption)
                  have q4 : x3_1 < (a0.size : Int) := of_decide_eq_true (by first | (with_reducible assumption) | assumption)
                  have hx4 := bt_at a0 x3_1
                  replace p4 := eq_true p4
                  replace q4 := eq_true q4
                  go_wp2
                  go_ret
                  exact ⟨by first | rfl | (simp; done) | (simp [*]; done), by repeat (first | exact Drawn0.refl _ | apply Drawn0.step)⟩
                · rw [if_neg c13] at H
                  have c13b0 : decide ((bt a0 x3_1) < 48) = false := decide_eq_false c13
                  clear c13
                  by_cases c14 : (bt a0 x3_1) > 57
                  · rw [if_pos c14] at H
                    have c14b0 : decide (57 < (bt a0 x3_1)) = true := decide_eq_true c14
                    clear c14
                    obtain rfl := Option.some.inj H
                    have p4 : 0 ≤ (x3_1 : Int) := of_decide_eq_true (by first | (with_reducible assumption) | assumption)
                    have q4 : x3_1 < (a0.size : Int) := of_decide_eq_true (by first | (with_reducible assumption) | assumption)
                    have hx4 := bt_at a0 x3_1
                    replace p4 := eq_true p4
                    replace q4 := eq_true q4
                    go_wp2
                    go_ret
                    exact ⟨by first | rfl | (simp; done) | (simp [*]; done), by repeat (first | exact Drawn0.refl _ | apply Drawn0.step)⟩
                  · rw [if_neg c14] at H
                    have c14b0 : decide (57 < (bt a0 x3_1)) = false := decide_eq_false c14
                    clear c14
                    have H' := Aside0.mk H
                    clear H
                    have p4 : 0 ≤ (x3_1 : Int) := of_decide_eq_true (by first | (with_reducible assumption) | assumption)
                    have q4 : x3_1 < (a0.size : Int) := of_decide_eq_true (by first | (with_reducible assumption) | assumption)
                    have hx4 := bt_at a0 x3_1
                    replace p4 := eq_true p4
                    replace q4 := eq_true q4
                    go_wp2
                    go_roundg k1
                    case measure => have := HK1.out; omega
                    case rel => exact ⟨(wrap64 (x3_1 + 1)), (by first | rfl | (simp; done) | (simp [*]; done)), H', ⟨by have := HK1.out; omega⟩, by repeat (first | exact Drawn0.refl _ | apply Drawn0.step)⟩
        · rw [if_neg c3] at H
          exact absurd H (by simp)
      · rw [if_neg c2] at H
        have c2b0 : decide (x3_1 < (a0.size : Int)) = false := decide_eq_false c2
        clear c2
        by_cases c15 : (a0.size : Int) ≥ 1
        · rw [if_pos c15] at H
          have c15b0 : decide (1 ≤ (a0.size : Int)) = true := decide_eq_true c15
          have c15b1 : decide (1 ≤ a0.size) = true := decide_eq_true (by omega)
          clear c15
          obtain rfl := Option.some.inj H
          go_wp2
          go_ret
          exact ⟨by first | rfl | (simp; done) | (simp [*]; done), by repeat (first | exact Drawn0.refl _ | apply Drawn0.step)⟩
        · rw [if_neg c15] at H
          have c15b0 : decide (1 ≤ (a0.size : Int)) = false := decide_eq_false c15
          have c15b1 : decide (1 ≤ a0.size) = false := decide_eq_false (by omega)
          clear c15
          obtain rfl := Option.some.inj H
          go_wp2
          go_ret
          exact ⟨by first | rfl | (simp; done) | (simp [*]; done), by repeat (first | exact Drawn0.refl _ | apply Drawn0.step)⟩
theorem refName_loop (s : ByteArray) (hs : s.size < 4611686018427387904) : ∀ (d i k : Nat), i + d = s.size → d < k → (∀ j, j < i → nameCh j (bt s (j : Int)) = true) → towncrierref05_Name.l0 k s (i : Int) = some (nameB s) := by
  intro d
  induction d with
  | zero =>
    intro i k hi hk h
    obtain ⟨k, rfl⟩ := rounds_of hk
    simp only [towncrierref05_Name.l0]
    rw [if_neg (by omega), name_all s (fun j hj => h j (by omega))]
    by_cases h0 : s.size = 0
    · rw [if_neg (by omega)]; simp [h0]
    · rw [if_pos (by omega)]
      simp [h0]
      omega
  | succ d ih =>
    intro i k hi hk h
    obtain ⟨k, rfl⟩ := rounds_of hk
    simp only [towncrierref05_Name.l0]
    rw [if_pos (by omega), if_pos (by omega), wrap_succ (by omega)]
    have hhit := name_hit s i (by omega)
    have hnext := fun hc => ih (i + 1) k (by omega) (by omega) (all_next h hc)
    generalize bt s (i : Int) = c at *
    by_cases hc : (97 ≤ c ∧ c ≤ 122) ∨ (0 < i ∧ (c = 95 ∨ (48 ≤ c ∧ c ≤ 57)))
    · have hn := hnext (nameCh_ok hc)
      (repeat' split) <;> first | exact hn | (exfalso; omega)
    · have hf := hhit (nameCh_no hc)
      rw [hf]
      (repeat' split) <;> first | rfl | (exfalso; omega)
theorem refName_is (s : ByteArray) {S k : Nat} (hs : s.size ≤ S) (hS : S < 4611686018427387904) (hk : S < k) : towncrierref05_Name.f k s = some (nameB s) :=
  refName_loop s (by omega) s.size 0 k (by omega) (by omega) (fun j hj => by omega)

end Go.Proofs.Ytbgdamlidohfhaa.P
