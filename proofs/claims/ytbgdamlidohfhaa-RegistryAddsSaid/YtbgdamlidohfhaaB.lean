/- Plain lemmas on lists, and on what is read and called, that the contracts of this seat use: each holds under the conditions that it names. -/
import Derived.Test.YtbgdamlidohfhaaProg
import Derived.WalkKit
import Derived.Below
import Derived.Shelf.Abstract
import Derived.Laws.Cells
import Derived.Deep.LoopGhost
import Derived.WalkSpells
import Derived.Lib.SliceRun
import Derived.Laws.OwnMore
import Derived.IntWalk
import Derived.Test.YtbgdamlidohfhaaWWords
import Derived.Test.YtbgdamlidohfhaaWLast
import Derived.Test.YtbgdamlidohfhaaWMore
namespace Go.Proofs.Ytbgdamlidohfhaa.P
open Go.RowKit Go.Proofs.YtbgdamlidohfhaaW.PrintWords Go.Proofs.YtbgdamlidohfhaaW.PrintLast Go.Proofs.YtbgdamlidohfhaaW.PrintMore

/-- Where the first element of which p holds is; -1: nowhere. -/
def idx {α : Type} (p : α → Bool) : List α → Int
  | [] => -1
  | x :: l => if p x then 0 else let r := idx p l; if r < 0 then -1 else r + 1
theorem idx_skip {α : Type} (p : α → Bool) (z : α) : ∀ (l : List α) (k : Nat), (∀ i, i < k → p (l.getD i z) = false) → k < l.length → p (l.getD k z) = true → idx p l = k
  | [], k, h, hk, hp => by simp at hk
  | x :: l, 0, h, hk, hp => by simp at hp; simp [idx, hp]
  | x :: l, k + 1, h, hk, hp => by
    have h0 := h 0 (by omega)
    have ih := idx_skip p z l k (fun i hi => by have := h (i + 1) (by omega); simpa using this) (by simpa using hk) (by simpa using hp)
    simp at h0
    simp [idx, h0, ih]; omega
theorem idx_none {α : Type} (p : α → Bool) (z : α) : ∀ (l : List α), (∀ i, i < l.length → p (l.getD i z) = false) → idx p l = -1
  | [], h => rfl
  | x :: l, h => by
    have h0 := h 0 (by simp)
    have ih := idx_none p z l (fun i hi => by have := h (i + 1) (by simp; omega); simpa using this)
    simp at h0
    simp [idx, h0, ih]
theorem idx_any {α : Type} (p : α → Bool) : ∀ l : List α, decide (0 ≤ idx p l) = l.any p ∧ -1 ≤ idx p l
  | [] => by simp [idx]
  | x :: l => by
    obtain ⟨h1, h2⟩ := idx_any p l
    cases h : p x with
    | true => simp [idx, h]
    | false =>
      rw [List.any_cons, h, Bool.false_or, ← h1]
      have e : idx p (x :: l) = if idx p l < 0 then -1 else idx p l + 1 := by simp [idx, h]
      rw [e]
      by_cases h3 : idx p l < 0
      · rw [if_pos h3]
        refine ⟨?_, by omega⟩
        rw [decide_eq_decide]; omega
      · rw [if_neg h3]
        refine ⟨?_, by omega⟩
        rw [decide_eq_decide]; omega
theorem take_snoc {α : Type} (z : α) (l : List α) (k : Nat) (h : k < l.length) : l.take (k + 1) = l.take k ++ [l.getD k z] := by
  rw [List.take_succ_eq_append_getElem h]; simp [List.getD, h]
theorem range_all_hit (p : Nat → Bool) (n k : Nat) (hk : k < n) (hp : p k = false) : (List.range n).all p = false := by
  rw [List.all_eq_false]
  exact ⟨k, List.mem_range.2 hk, by rw [hp]; simp⟩
theorem range_all_none (p : Nat → Bool) (n : Nat) (h : ∀ i, i < n → p i = true) : (List.range n).all p = true :=
  List.all_eq_true.2 fun i hi => h i (List.mem_range.1 hi)
theorem all_next {P : Nat → Prop} {k : Nat} (h : ∀ i, i < k → P i) (h2 : P k) : ∀ i, i < k + 1 → P i := by
  intro i hi
  by_cases h3 : i < k
  · exact h i h3
  · obtain rfl : i = k := by omega
    exact h2
theorem lit_i64 {n : Int} (h : (Lit.int .i64 n).wf = true) : -9223372036854775808 ≤ n ∧ n ≤ 9223372036854775807 := by
  have e1 : IntKind.min .i64 = -9223372036854775808 := rfl
  have e2 : IntKind.max .i64 = 9223372036854775807 := rfl
  simp only [Lit.wf, Bool.and_eq_true, decide_eq_true_eq, e1, e2] at h
  exact h
theorem wrap_succ {i : Nat} (h : i < 9223372036854775807) : wrap64 ((i : Int) + 1) = ((i + 1 : Nat) : Int) := by unfold wrap64; omega
theorem rounds_of {k d : Nat} (h : d < k) : ∃ m, k = m + 1 := ⟨k - 1, by omega⟩
theorem getD_mid {α : Type} (A B : List α) (x z : α) : (A ++ x :: B).getD A.length z = x := by simp [List.getD]
theorem set_mid {α : Type} (A B : List α) (x y : α) : (A ++ x :: B).set A.length y = A ++ y :: B := by simp
theorem getD_left {α : Type} (A B : List α) (z : α) {i : Nat} (h : i < A.length) : (A ++ B).getD i z = A.getD i z := by simp [List.getD, List.getElem?_append_left h]
theorem addr_add (a : Addr) (i j : Nat) : (a.add i).add j = a.add (i + j) := by
  unfold Addr.add
  by_cases hi : i = 0 <;> by_cases hj : j = 0 <;> simp [hi, hj, Nat.add_assoc]
theorem cell_past {W : World} {B i : Nat} {v : Value} (o : Obj) (h : W.cell? ⟨B, i, none⟩ = some v) : (W.alloc o).cell? ⟨B, i, none⟩ = some v :=
  (World.cell?_alloc_past _ _ _ (World.block_lt_of_cell? W _ h)).trans h
theorem cell_later {W : World} {a : Addr} {v : Value} (o : Obj) (h : W.cell? a = some v) : (W.alloc o).cell? a = some v :=
  pw_cell_below ((Below.refl W.heap.size W).alloc (Nat.le_refl _) o) h
def idxRel {α : Type} (p : α → Bool) (l0 : List α) (z : α) (w : World) (k : Nat) (w' : World) : Prop := k ≤ l0.length ∧ (∀ i, i < k → p (l0.getD i z) = false) ∧ Below w.heap.size w w'
def idxPost {α : Type} (p : α → Bool) (l0 : List α) (w : World) (e : Ending) (w' : World) : Prop := e = .returned (.int .i64 (idx p l0)) ∧ Below w.heap.size w w'
def boolPost (b : Bool) (w : World) (e : Ending) (w' : World) : Prop := e = .returned (.bool b) ∧ Below w.heap.size w w'
def rowPost {α : Type} (d : Kd α) (e : Nat) (l : List α) (w : World) (en : Ending) (w' : World) : Prop := ∃ v0_ : Value, en = .returned v0_ ∧ Kd.R d e w' w.heap.size (fun _ => True) v0_ l ∧ Below w.heap.size w w'
theorem C_none {α : Type} {d : Kd α} {w : World} {n : Nat} {l : List α} (h : Kd.C d w none n l) : l = [] := by
  obtain ⟨h1, h2, h3⟩ := h
  cases n with
  | zero => exact List.length_eq_zero_iff.1 h1
  | succ n => obtain ⟨ad, e, _⟩ := h3 (by omega); cases e
theorem Kd.R_empty {α : Type} (d : Kd α) (e : Nat) (w : World) (base : Nat) (hb : base ≤ w.heap.size) : Kd.R d e (w.alloc (.cells #[] e)) base (fun _ => True) (.slice (some ⟨w.heap.size, 0, none⟩) 0 0) [] :=
  ⟨fun _ _ => trivial, [], by simpa using World.ownsRow_lit (base := base) (e := e) (size := d.sz) w #[] 0 hb (Nat.zero_le _) (by simp), Reps.none _ _⟩
/-- A function value tells p of a value: whatever has been made since. -/
def Tells {α : Type} (P : Program) (d : Kd α) (g : Nat) (caps : Array Value) (p : α → Bool) (w : World) : Prop := ∀ x cs W, Below w.heap.size w W → d.K W x cs → Calls P g (#[.agg cs.toArray] ++ caps) W fun e w' => e = .returned (.bool (p x)) ∧ Below W.heap.size W w'
theorem Tells.below {α : Type} {P : Program} {d : Kd α} {g : Nat} {caps : Array Value} {p : α → Bool} {w w1 : World} (h : Tells P d g caps p w) (hb : Below w.heap.size w w1) : Tells P d g caps p w1 :=
  fun x cs W hW hK => h x cs W (below_step hb hW) hK
/-- A function value tells p of two values: whatever has been made since. -/
def Tells2 {α : Type} (P : Program) (d : Kd α) (g : Nat) (caps : Array Value) (p : α → α → Bool) (w : World) : Prop := ∀ x y cs ds W, Below w.heap.size w W → d.K W x cs → d.K W y ds → Calls P g (#[.agg cs.toArray, .agg ds.toArray] ++ caps) W fun e w' => e = .returned (.bool (p x y)) ∧ Below W.heap.size W w'
/-- Are two lists the same, one by one? -/
def eqf {α : Type} (p : α → α → Bool) (z : α) (a b : List α) : Bool := decide (a.length = b.length) && (List.range a.length).all fun i => p (a.getD i z) (b.getD i z)
theorem eqf_len {α : Type} {p : α → α → Bool} {z : α} {a b : List α} (h : ¬ a.length = b.length) : eqf p z a b = false := by
  unfold eqf
  rw [decide_eq_false h, Bool.false_and]
theorem eqf_hit {α : Type} {p : α → α → Bool} {z : α} {a b : List α} (k : Nat) (hk : k < a.length) (h : p (a.getD k z) (b.getD k z) = false) : eqf p z a b = false := by
  unfold eqf
  rw [range_all_hit _ _ k hk h, Bool.and_false]
theorem eqf_all {α : Type} {p : α → α → Bool} {z : α} {a b : List α} (hl : a.length = b.length) (h : ∀ i, i < a.length → p (a.getD i z) (b.getD i z) = true) : eqf p z a b = true := by
  unfold eqf
  rw [range_all_none _ _ h, decide_eq_true hl]
  rfl
theorem cells1 : ∀ cs : List Value, cs.length = 1 → ∃ c0, cs = [c0]
  | [c0], _ => ⟨c0, rfl⟩
theorem cells2 : ∀ cs : List Value, cs.length = 2 → ∃ c0 c1, cs = [c0, c1]
  | [c0, c1], _ => ⟨c0, c1, rfl⟩
theorem cells3 : ∀ cs : List Value, cs.length = 3 → ∃ c0 c1 c2, cs = [c0, c1, c2]
  | [c0, c1, c2], _ => ⟨c0, c1, c2, rfl⟩
theorem cells4 : ∀ cs : List Value, cs.length = 4 → ∃ c0 c1 c2 c3, cs = [c0, c1, c2, c3]
  | [c0, c1, c2, c3], _ => ⟨c0, c1, c2, c3, rfl⟩
theorem cells5 : ∀ cs : List Value, cs.length = 5 → ∃ c0 c1 c2 c3 c4, cs = [c0, c1, c2, c3, c4]
  | [c0, c1, c2, c3, c4], _ => ⟨c0, c1, c2, c3, c4, rfl⟩
theorem cells6 : ∀ cs : List Value, cs.length = 6 → ∃ c0 c1 c2 c3 c4 c5, cs = [c0, c1, c2, c3, c4, c5]
  | [c0, c1, c2, c3, c4, c5], _ => ⟨c0, c1, c2, c3, c4, c5, rfl⟩
theorem cells7 : ∀ cs : List Value, cs.length = 7 → ∃ c0 c1 c2 c3 c4 c5 c6, cs = [c0, c1, c2, c3, c4, c5, c6]
  | [c0, c1, c2, c3, c4, c5, c6], _ => ⟨c0, c1, c2, c3, c4, c5, c6, rfl⟩
theorem cells8 : ∀ cs : List Value, cs.length = 8 → ∃ c0 c1 c2 c3 c4 c5 c6 c7, cs = [c0, c1, c2, c3, c4, c5, c6, c7]
  | [c0, c1, c2, c3, c4, c5, c6, c7], _ => ⟨c0, c1, c2, c3, c4, c5, c6, c7, rfl⟩
theorem cells9 : ∀ cs : List Value, cs.length = 9 → ∃ c0 c1 c2 c3 c4 c5 c6 c7 c8, cs = [c0, c1, c2, c3, c4, c5, c6, c7, c8]
  | [c0, c1, c2, c3, c4, c5, c6, c7, c8], _ => ⟨c0, c1, c2, c3, c4, c5, c6, c7, c8, rfl⟩
theorem cells10 : ∀ cs : List Value, cs.length = 10 → ∃ c0 c1 c2 c3 c4 c5 c6 c7 c8 c9, cs = [c0, c1, c2, c3, c4, c5, c6, c7, c8, c9]
  | [c0, c1, c2, c3, c4, c5, c6, c7, c8, c9], _ => ⟨c0, c1, c2, c3, c4, c5, c6, c7, c8, c9, rfl⟩
theorem cells11 : ∀ cs : List Value, cs.length = 11 → ∃ c0 c1 c2 c3 c4 c5 c6 c7 c8 c9 c10, cs = [c0, c1, c2, c3, c4, c5, c6, c7, c8, c9, c10]
  | [c0, c1, c2, c3, c4, c5, c6, c7, c8, c9, c10], _ => ⟨c0, c1, c2, c3, c4, c5, c6, c7, c8, c9, c10, rfl⟩
theorem cells12 : ∀ cs : List Value, cs.length = 12 → ∃ c0 c1 c2 c3 c4 c5 c6 c7 c8 c9 c10 c11, cs = [c0, c1, c2, c3, c4, c5, c6, c7, c8, c9, c10, c11]
  | [c0, c1, c2, c3, c4, c5, c6, c7, c8, c9, c10, c11], _ => ⟨c0, c1, c2, c3, c4, c5, c6, c7, c8, c9, c10, c11, rfl⟩
theorem cells13 : ∀ cs : List Value, cs.length = 13 → ∃ c0 c1 c2 c3 c4 c5 c6 c7 c8 c9 c10 c11 c12, cs = [c0, c1, c2, c3, c4, c5, c6, c7, c8, c9, c10, c11, c12]
  | [c0, c1, c2, c3, c4, c5, c6, c7, c8, c9, c10, c11, c12], _ => ⟨c0, c1, c2, c3, c4, c5, c6, c7, c8, c9, c10, c11, c12, rfl⟩
theorem cells14 : ∀ cs : List Value, cs.length = 14 → ∃ c0 c1 c2 c3 c4 c5 c6 c7 c8 c9 c10 c11 c12 c13, cs = [c0, c1, c2, c3, c4, c5, c6, c7, c8, c9, c10, c11, c12, c13]
  | [c0, c1, c2, c3, c4, c5, c6, c7, c8, c9, c10, c11, c12, c13], _ => ⟨c0, c1, c2, c3, c4, c5, c6, c7, c8, c9, c10, c11, c12, c13, rfl⟩
end Go.Proofs.Ytbgdamlidohfhaa.P
