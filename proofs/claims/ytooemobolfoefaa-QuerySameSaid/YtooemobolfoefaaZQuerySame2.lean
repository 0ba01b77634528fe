/- What QuerySame's row stands on: words, contracts of the functions that it reaches, plain facts, its walk (part 2): no condition but those that each theorem names. -/
import Derived.Test.YtooemobolfoefaaZQuerySame1
import Derived.Test.YtooemobolfoefaaProg
import Derived.WalkKit
import Derived.Below
import Derived.Shelf.Abstract
import Derived.Laws.Cells
import Derived.Deep.LoopGhost
import Derived.WalkSpells
import Derived.Lib.SliceRun
import Derived.Laws.OwnMore
import Derived.IntWalk
import Derived.Deep.DeepCutAuto
import Derived.Deep.RegionHeld3
import Derived.Deep.Draws
import Derived.Deep.AppendLies
import Derived.Maps.AppendAt
import Derived.OwnWalk
import Derived.Laws.BytesArg
import Derived.Laws.MakeOwn
import Derived.Deep.OwnRows
import Derived.Tactics
import Derived.Lib.ConvBytes
import Derived.Laws.Slices
import Derived.KernelRfl
import Derived.RowKit3
import Derived.Deep.QuietTactic
import Derived.BigQuiet
import Derived.WideLaws
import Derived.Deep.CutBlock
import Derived.Laws.Rows
import Derived.Lib.AppendStr
import Derived.ArgAppend
import Derived.Laws.IdiomCopy
import Derived.OrdersHeld
import Derived.Laws.BitsLemmas
import Derived.RowKit
import Derived.Laws.EntriesVeiled
import Derived.Deep.RegionLaw
import Derived.ChangeArms
import Derived.Deep.Slices
import Derived.SizedLaws
import Derived.ProofKit
import Derived.Laws.Cover1
import Derived.OpenShut
import Derived.ShutString
import Derived.ChangeOld
import Derived.Carry
set_option linter.unusedVariables false
set_option linter.unusedSimpArgs false
namespace Go.Proofs.Ytooemobolfoefaa.P
open Go.RowKit Go.Proofs.YtooemobolfoefaaW.PrintWords Go.Proofs.YtooemobolfoefaaW.PrintLast Go.Proofs.YtooemobolfoefaaW.PrintMore
def idx {α : Type} (p : α → Bool) : List α → Int
 | [] => -1
 | x :: l => if p x then 0 else let r := idx p l; if r < 0 then -1 else r + 1
theorem idx_skip {α : Type} (p : α → Bool) (z : α) : ∀ (l : List α) (k : Nat), (∀ i, i < k → p (l.getD i z) = false) → k < l.length → p (l.getD k z) = true → idx p l = k
 | [], k, h, hk, hp => by simp at hk
 | x :: l, 0, h, hk, hp => by simp at hp; simp [idx, hp]
 | x :: l, k + 1, h, hk, hp => by
  have h0 := h 0 (by omega)
  have ih := idx_skip p z l k (fun i hi => by have := h (i + 1) (by omega); simpa using this) (by simpa using hk) (by simpa using hp)
  simp at h0
  simp [idx, h0, ih]; omega
theorem idx_none {α : Type} (p : α → Bool) (z : α) : ∀ (l : List α), (∀ i, i < l.length → p (l.getD i z) = false) → idx p l = -1
 | [], h => rfl
 | x :: l, h => by
  have h0 := h 0 (by simp)
  have ih := idx_none p z l (fun i hi => by have := h (i + 1) (by simp; omega); simpa using this)
  simp at h0
  simp [idx, h0, ih]
theorem idx_any {α : Type} (p : α → Bool) : ∀ l : List α, decide (0 ≤ idx p l) = l.any p ∧ -1 ≤ idx p l
 | [] => by simp [idx]
 | x :: l => by
  obtain ⟨h1, h2⟩ := idx_any p l
  cases h : p x with
  | true => simp [idx, h]
  | false =>
   rw [List.any_cons, h, Bool.false_or, ← h1]
   have e : idx p (x :: l) = if idx p l < 0 then -1 else idx p l + 1 := by simp [idx, h]
   rw [e]
   by_cases h3 : idx p l < 0
   ·rw [if_pos h3]
    refine ⟨?_, by omega⟩
    rw [decide_eq_decide]; omega
   ·rw [if_neg h3]
    refine ⟨?_, by omega⟩
    rw [decide_eq_decide]; omega
theorem take_snoc {α : Type} (z : α) (l : List α) (k : Nat) (h : k < l.length) : l.take (k + 1) = l.take k ++ [l.getD k z] := by
 rw [List.take_succ_eq_append_getElem h]; simp [List.getD, h]
theorem range_all_hit (p : Nat → Bool) (n k : Nat) (hk : k < n) (hp : p k = false) : (List.range n).all p = false := by
 rw [List.all_eq_false]
 exact ⟨k, List.mem_range.2 hk, by rw [hp]; simp⟩
theorem range_all_none (p : Nat → Bool) (n : Nat) (h : ∀ i, i < n → p i = true) : (List.range n).all p = true :=
 List.all_eq_true.2 fun i hi => h i (List.mem_range.1 hi)
theorem all_next {P : Nat → Prop} {k : Nat} (h : ∀ i, i < k → P i) (h2 : P k) : ∀ i, i < k + 1 → P i := by
 intro i hi
 by_cases h3 : i < k
 ·exact h i h3
 ·obtain rfl : i = k := by omega
  exact h2
theorem lit_i64 {n : Int} (h : (Lit.int .i64 n).wf = true) : -9223372036854775808 ≤ n ∧ n ≤ 9223372036854775807 := by
 have e1 : IntKind.min .i64 = -9223372036854775808 := rfl
 have e2 : IntKind.max .i64 = 9223372036854775807 := rfl
 simp only [Lit.wf, Bool.and_eq_true, decide_eq_true_eq, e1, e2] at h
 exact h
theorem wrap_succ {i : Nat} (h : i < 9223372036854775807) : wrap64 ((i : Int) + 1) = ((i + 1 : Nat) : Int) := by unfold wrap64; omega
theorem rounds_of {k d : Nat} (h : d < k) : ∃ m, k = m + 1 := ⟨k - 1, by omega⟩
def zaE (n : Nat) : List Int := if n < 128 then [(n : Int)] else ((n % 128 + 128 : Nat) : Int) :: zaE (n / 128)
termination_by n
decreasing_by omega
theorem zaZ {n : Nat} (h : n < 128) : zaE n = [(n : Int)] := by rw [zaE, if_pos h]
theorem zbm {n : Nat} (h : ¬ n < 128) : zaE n = ((n % 128 + 128 : Nat) : Int) :: zaE (n / 128) := by rw [zaE, if_neg h]
theorem lePut_few {n k a : Nat} (h : n * 128 ^ k ≤ a) (ha : a < 18446744073709551616) (hn : 1 ≤ n) : k ≤ 9 := by
 by_cases hk : k ≤ 9
 ·exact hk
 ·have h1 : 128 ^ 10 ≤ 128 ^ k := Nat.pow_le_pow_right (by decide) (by omega)
  have h2 : 128 ^ k ≤ n * 128 ^ k := Nat.le_mul_of_pos_left _ hn
  have h3 : (128 : Nat) ^ 10 = 1180591620717411303424 := by decide
  omega
theorem addr_add (a : Addr) (i j : Nat) : (a.add i).add j = a.add (i + j) := by
 unfold Addr.add
 by_cases hi : i = 0 <;> by_cases hj : j = 0 <;> simp [hi, hj, Nat.add_assoc]
theorem zav {W : World} {a : Addr} {v : Value} (o : Obj) (h : W.cell? a = some v) : (W.alloc o).cell? a = some v :=
 zaB ((Below.refl W.heap.size W).alloc (Nat.le_refl _) o) h
def idxRel {α : Type} (p : α → Bool) (l0 : List α) (z : α) (w : World) (k : Nat) (w' : World) : Prop := k ≤ l0.length ∧ (∀ i, i < k → p (l0.getD i z) = false) ∧ Below w.heap.size w w'
def idxPost {α : Type} (p : α → Bool) (l0 : List α) (w : World) (e : Ending) (w' : World) : Prop := e = .returned (.int .i64 (idx p l0)) ∧ Below w.heap.size w w'
def zaS (b : Bool) (w : World) (e : Ending) (w' : World) : Prop := e = .returned (.bool b) ∧ Below w.heap.size w w'
def rowPost {α : Type} (d : Kd α) (e : Nat) (l : List α) (w : World) (en : Ending) (w' : World) : Prop := ∃ v0_ : Value, en = .returned v0_ ∧ Kd.R d e w' w.heap.size (fun _ => True) v0_ l ∧ Below w.heap.size w w'
theorem C_none {α : Type} {d : Kd α} {w : World} {n : Nat} {l : List α} (h : Kd.C d w none n l) : l = [] := by
 obtain ⟨h1, h2, h3⟩ := h
 cases n with
 | zero => exact List.length_eq_zero_iff.1 h1
 | succ n => obtain ⟨ad, e, _⟩ := h3 (by omega); cases e
theorem Kd.R_empty {α : Type} (d : Kd α) (e : Nat) (w : World) (base : Nat) (hb : base ≤ w.heap.size) : Kd.R d e (w.alloc (.cells #[] e)) base (fun _ => True) (.slice (some ⟨w.heap.size, 0, none⟩) 0 0) [] :=
 ⟨fun _ _ => trivial, [], by simpa using World.ownsRow_lit (base := base) (e := e) (size := d.sz) w #[] 0 hb (Nat.zero_le _) (by simp), Reps.none _ _⟩
def Tells {α : Type} (P : Program) (d : Kd α) (g : Nat) (caps : Array Value) (p : α → Bool) (w : World) : Prop := ∀ x cs W, Below w.heap.size w W → d.K W x cs → Calls P g (#[.agg cs.toArray] ++ caps) W fun e w' => e = .returned (.bool (p x)) ∧ Below W.heap.size W w'
theorem Tells.below {α : Type} {P : Program} {d : Kd α} {g : Nat} {caps : Array Value} {p : α → Bool} {w w1 : World} (h : Tells P d g caps p w) (hb : Below w.heap.size w w1) : Tells P d g caps p w1 :=
 fun x cs W hW hK => h x cs W (zah hb hW) hK
def TellsW {α : Type} (P : Program) (d : Kd α) (g : Nat) (caps : Array Value) (p : α → Bool) (wf : α → Prop) (w : World) : Prop := ∀ x cs W, wf x → Below w.heap.size w W → d.K W x cs → Calls P g (#[.agg cs.toArray] ++ caps) W fun e w' => e = .returned (.bool (p x)) ∧ Below W.heap.size W w'
theorem getD_in {α : Type} (z : α) {l : List α} {i : Nat} (h : i < l.length) : l.getD i z ∈ l := by simp [List.getD, h]
def Tells2 {α : Type} (P : Program) (d : Kd α) (g : Nat) (caps : Array Value) (p : α → α → Bool) (w : World) : Prop := ∀ x y cs ds W, Below w.heap.size w W → d.K W x cs → d.K W y ds → Calls P g (#[.agg cs.toArray, .agg ds.toArray] ++ caps) W fun e w' => e = .returned (.bool (p x y)) ∧ Below W.heap.size W w'
def eqf {α : Type} (p : α → α → Bool) (z : α) (a b : List α) : Bool := decide (a.length = b.length) && (List.range a.length).all fun i => p (a.getD i z) (b.getD i z)
theorem eqf_len {α : Type} {p : α → α → Bool} {z : α} {a b : List α} (h : ¬ a.length = b.length) : eqf p z a b = false := by
 unfold eqf
 rw [decide_eq_false h, Bool.false_and]
theorem eqf_hit {α : Type} {p : α → α → Bool} {z : α} {a b : List α} (k : Nat) (hk : k < a.length) (h : p (a.getD k z) (b.getD k z) = false) : eqf p z a b = false := by
 unfold eqf
 rw [range_all_hit _ _ k hk h, Bool.and_false]
theorem eqf_all {α : Type} {p : α → α → Bool} {z : α} {a b : List α} (hl : a.length = b.length) (h : ∀ i, i < a.length → p (a.getD i z) (b.getD i z) = true) : eqf p z a b = true := by
 unfold eqf
 rw [range_all_none _ _ h, decide_eq_true hl]
 rfl
theorem cells2 : ∀ cs : List Value, cs.length = 2 → ∃ c0 c1, cs = [c0, c1]
 | [c0, c1], _ => ⟨c0, c1, rfl⟩
theorem cells3 : ∀ cs : List Value, cs.length = 3 → ∃ c0 c1 c2, cs = [c0, c1, c2]
 | [c0, c1, c2], _ => ⟨c0, c1, c2, rfl⟩
theorem cells5 : ∀ cs : List Value, cs.length = 5 → ∃ c0 c1 c2 c3 c4, cs = [c0, c1, c2, c3, c4]
 | [c0, c1, c2, c3, c4], _ => ⟨c0, c1, c2, c3, c4, rfl⟩
def za6 (i acc : Nat) : List Int → Option (Nat × Nat)
 | [] => none
 | c :: l => if 10 ≤ i then none else if 128 ≤ c then za6 (i + 1) (acc + c.toNat % 128 * 128 ^ i) l else if (0 < i ∧ c = 0) ∨ (i = 9 ∧ 1 < c) then none else some (acc + c.toNat * 128 ^ i, i + 1)
def getN (l : List Int) : Option (Nat × Nat) := za6 0 0 l
def tellN : Option (Nat × Nat) → Int × Int × Bool
 | some (n, u) => ((n : Int), (u : Int), true)
 | none => (0, 0, false)
def zaJ (l : List Int) : Prop := ∀ c ∈ l, 0 ≤ c ∧ c < 256
instance (l : List Int) : Decidable (zaJ l) := inferInstanceAs (Decidable (∀ c ∈ l, 0 ≤ c ∧ c < 256))
theorem getNAux_late (acc : Nat) (l : List Int) {i : Nat} (h : 10 ≤ i) : za6 i acc l = none := by
 cases l with
 | nil => rfl
 | cons c l => unfold za6; rw [if_pos h]
theorem getNAux_used : ∀ (l : List Int) (i acc n u : Nat), za6 i acc l = some (n, u) → i < u ∧ u ≤ i + l.length ∧ u ≤ 10
 | [], i, acc, n, u, h => by simp [za6] at h
 | c :: l, i, acc, n, u, h => by
  unfold za6 at h
  by_cases h1 : 10 ≤ i
  ·rw [if_pos h1] at h; simp at h
  ·rw [if_neg h1] at h
   by_cases h2 : 128 ≤ c
   ·rw [if_pos h2] at h
    have := getNAux_used l _ _ _ _ h
    simp only [List.length_cons]
    omega
   ·rw [if_neg h2] at h
    split at h
    ·simp at h
    ·simp only [Option.some.injEq, Prod.mk.injEq] at h
     simp only [List.length_cons]
     omega
theorem getN_used {l : List Int} {n u : Nat} (h : getN l = some (n, u)) : 1 ≤ u ∧ u ≤ l.length ∧ u ≤ 10 := by
 have := getNAux_used l 0 0 n u h
 omega
def za1 : List Int → Nat
 | [] => 0
 | c :: l => c.toNat % 128 + 128 * za1 l
theorem leVal_snoc : ∀ (l : List Int) (c : Int), za1 (l ++ [c]) = za1 l + c.toNat % 128 * 128 ^ l.length
 | [], c => by simp [za1]
 | d :: l, c => by
  have ih := leVal_snoc l c
  simp only [List.cons_append, za1, ih, List.length_cons, Nat.pow_succ]
  rw [Nat.mul_add, Nat.mul_comm (128 ^ l.length) 128, ← Nat.mul_assoc (c.toNat % 128) 128, Nat.mul_comm (c.toNat % 128) 128, Nat.mul_assoc 128]
  omega
theorem leVal_lt : ∀ l : List Int, za1 l < 128 ^ l.length
 | [] => by simp [za1]
 | d :: l => by
  have ih := leVal_lt l
  simp only [za1, List.length_cons, Nat.pow_succ]
  omega
theorem leVal_put (n : Nat) : za1 (zaE n) = n := by
 induction n using Nat.strongRecOn with
 | _ n ih =>
  by_cases h : n < 128
  ·rw [zaZ h]; simp [za1]; omega
  ·rw [zbm h]
   have := ih (n / 128) (by omega)
   simp only [za1, this]
   omega
theorem zaT (n : Nat) : zaJ (zaE n) := by
 induction n using Nat.strongRecOn with
 | _ n ih =>
  intro c hc
  by_cases h : n < 128
  ·rw [zaZ h] at hc; simp at hc; omega
  ·rw [zbm h] at hc
   rcases List.mem_cons.1 hc with rfl | hc
   ·omega
   ·exact ih (n / 128) (by omega) c hc
theorem lePut_pos (n : Nat) : 1 ≤ (zaE n).length := by
 by_cases h : n < 128
 ·rw [zaZ h]; simp
 ·rw [zbm h]; simp
theorem lePut_val : ∀ (t : List Int) (c : Int), (∀ x ∈ t, 128 ≤ x ∧ x < 256) → 0 ≤ c → c < 128 → (t = [] ∨ c ≠ 0) → zaE (za1 (t ++ [c])) = t ++ [c]
 | [], c, _, h0, h1, _ => by
  have e : za1 ([] ++ [c]) = c.toNat := by simp [za1]; omega
  rw [e, zaZ (by omega)]
  simp; omega
 | d :: t, c, ht, h0, h1, h2 => by
  have hc : c ≠ 0 := by rcases h2 with h2 | h2; cases h2; exact h2
  have hd := ht d (by simp)
  have ih := lePut_val t c (fun x hx => ht x (by simp [hx])) h0 h1 (.inr hc)
  have hv : 1 ≤ za1 (t ++ [c]) := by
   rw [leVal_snoc]
   have h3 : 1 ≤ c.toNat % 128 := by omega
   have h4 : 0 < 128 ^ t.length := Nat.pow_pos (by decide)
   have : 1 * 128 ^ t.length ≤ c.toNat % 128 * 128 ^ t.length := Nat.mul_le_mul_right _ h3
   omega
  have e : za1 (d :: t ++ [c]) = d.toNat % 128 + 128 * za1 (t ++ [c]) := rfl
  rw [e, zbm (by omega)]
  rw [show (d.toNat % 128 + 128 * za1 (t ++ [c])) / 128 = za1 (t ++ [c]) from by omega, ih]
  simp only [List.cons_append, List.cons.injEq, and_true]
  omega
theorem lePut_last (n : Nat) : ∀ t : List Int, zaE n = t ++ [0] → t = [] := by
 induction n using Nat.strongRecOn with
 | _ n ih =>
  intro t h
  by_cases hn : n < 128
  ·rw [zaZ hn] at h
   have := congrArg List.length h
   simp at this
   exact this
  ·rw [zbm hn] at h
   cases t with
   | nil =>
    have := congrArg List.length h
    have h2 := lePut_pos (n / 128)
    simp only [List.length_cons, List.nil_append, List.length_nil] at this
    omega
   | cons d t =>
    simp only [List.cons_append, List.cons.injEq] at h
    have h3 := ih (n / 128) (by omega) t h.2
    rw [h3] at h
    have h4 := congrArg za1 h.2
    rw [leVal_put] at h4
    simp [za1] at h4
    omega
def leCont (t : List Int) : Prop := ∀ x ∈ t, 128 ≤ x ∧ x < 256
theorem getN_end {t : List Int} {c : Int} {l : List Int} (ht : leCont t) (h0 : 0 ≤ c) (h1 : c < 128) (hl : t.length ≤ 9) :
  za6 t.length (za1 t) (c :: l) = if zaE ((za1 (t ++ [c])) % 18446744073709551616) = t ++ [c] then some (za1 (t ++ [c]), t.length + 1) else none := by
 have hv := leVal_snoc t c
 have hm : c.toNat % 128 = c.toNat := by omega
 rw [hm] at hv
 unfold za6
 rw [if_neg (by omega), if_neg (by omega)]
 have hlt := leVal_lt t
 have hpl : 128 ^ t.length ≤ 128 ^ 9 := Nat.pow_le_pow_right (by decide) hl
 have h9 : (128 : Nat) ^ 9 = 9223372036854775808 := by decide
 have hval : ∀ m, zaE (m % 18446744073709551616) = t ++ [c] → m % 18446744073709551616 = za1 (t ++ [c]) := fun m h => by rw [← h, leVal_put]
 by_cases hc : 0 < t.length ∧ c = 0
 ·rw [if_pos (.inl hc), if_neg]
  intro h
  rw [hc.2] at h
  have := lePut_last _ _ h
  simp [this] at hc
 ·by_cases h9c : t.length = 9 ∧ 1 < c
  ·rw [if_pos (.inr h9c), if_neg]
   intro h
   have h2 := hval _ h
   have h3 : 2 * 128 ^ t.length ≤ c.toNat * 128 ^ t.length := Nat.mul_le_mul_right _ (by omega)
   rw [h9c.1] at h3
   rw [h9c.1] at hv
   omega
  ·rw [if_neg (by rintro (h | h); exact hc h; exact h9c h)]
   have hsmall : za1 (t ++ [c]) < 18446744073709551616 := by
    rw [hv]
    by_cases h8 : t.length = 9
    ·have h3 : c.toNat * 128 ^ t.length ≤ 1 * 128 ^ t.length := Nat.mul_le_mul_right _ (by omega)
     rw [h8] at h3 hlt ⊢
     omega
    ·have hpl8 : 128 ^ t.length ≤ 128 ^ 8 := Nat.pow_le_pow_right (by decide) (by omega)
     have h88 : (128 : Nat) ^ 8 = 72057594037927936 := by decide
     have hx : c.toNat * 128 ^ t.length ≤ 127 * 128 ^ t.length := Nat.mul_le_mul_right _ (by omega)
     omega
   rw [Nat.mod_eq_of_lt hsmall, if_pos, hv]
   refine lePut_val t c ht h0 h1 ?_
   by_cases h : t = []
   ·exact .inl h
   ·refine .inr (fun h2 => hc ⟨?_, h2⟩)
    cases t with
    | nil => exact absurd rfl h
    | cons _ _ => simp
theorem getN_more {t : List Int} {c : Int} {l : List Int} (hl : t.length ≤ 9) (h : 128 ≤ c) : za6 t.length (za1 t) (c :: l) = za6 (t ++ [c]).length (za1 (t ++ [c])) l := by
 rw [za6, if_neg (by omega), if_pos h, leVal_snoc, List.length_append, List.length_singleton]
theorem getNAux_put (n : Nat) : ∀ (t rest : List Int), leCont t → t.length ≤ 9 → za1 t + n * 128 ^ t.length < 18446744073709551616 → (t = [] ∨ n ≠ 0) → za6 t.length (za1 t) (zaE n ++ rest) = some (za1 t + n * 128 ^ t.length, t.length + (zaE n).length) := by
 induction n using Nat.strongRecOn with
 | _ n ih =>
  intro t rest ht hl hb hz
  by_cases hn : n < 128
  ·rw [zaZ hn, List.singleton_append, getN_end ht (by omega) (by omega) hl]
   have hv : za1 (t ++ [(n : Int)]) = za1 t + n * 128 ^ t.length := by rw [leVal_snoc, Int.toNat_natCast, Nat.mod_eq_of_lt hn]
   rw [hv, Nat.mod_eq_of_lt hb, if_pos]
   ·rfl
   ·rw [← hv]
    exact lePut_val t _ ht (by omega) (by omega) (by rcases hz with h | h; exact .inl h; exact .inr (by omega))
  ·rw [zbm hn, List.cons_append, getN_more hl (by omega)]
   have hv : za1 (t ++ [((n % 128 + 128 : Nat) : Int)]) = za1 t + n % 128 * 128 ^ t.length := by
    rw [leVal_snoc, Int.toNat_natCast, show (n % 128 + 128) % 128 = n % 128 from by omega]
   have hs : n % 128 * 128 ^ t.length + n / 128 * 128 ^ (t.length + 1) = n * 128 ^ t.length := by
    rw [Nat.pow_succ, Nat.mul_comm (128 ^ t.length) 128, ← Nat.mul_assoc, ← Nat.add_mul]
    congr 1
    omega
   have hlen : t.length < 9 := by
    by_cases h9 : t.length = 9
    ·rw [h9] at hb
     have h3 : 128 * 128 ^ 9 ≤ n * 128 ^ 9 := Nat.mul_le_mul_right _ (by omega)
     have h99 : (128 : Nat) * 128 ^ 9 = 1180591620717411303424 := by decide
     omega
    ·omega
   have h := ih (n / 128) (by omega) (t ++ [((n % 128 + 128 : Nat) : Int)]) rest (by
     intro x hx
     rcases List.mem_append.1 hx with hx | hx
     ·exact ht x hx
     ·simp at hx; omega) (by simp; omega) (by rw [hv]; simp only [List.length_append, List.length_singleton]; omega) (.inr (by omega))
   rw [h, hv]
   rw [show (t ++ [((n % 128 + 128 : Nat) : Int)]).length = t.length + 1 from by simp]
   simp only [List.length_cons, Option.some.injEq, Prod.mk.injEq]
   omega
theorem getN_put (n : Nat) (rest : List Int) (h : n < 18446744073709551616) : getN (zaE n ++ rest) = some (n, (zaE n).length) := by
 have := getNAux_put n [] rest (fun x hx => by simp at hx) (by simp) (by simpa [za1] using h) (.inl rfl)
 simpa [za1, getN] using this
theorem getNAux_some : ∀ (l t : List Int) (n u : Nat), zaJ l → leCont t → za6 t.length (za1 t) l = some (n, u) → n < 18446744073709551616 ∧ ∃ v, u = t.length + v ∧ v ≤ l.length ∧ t ++ l.take v = zaE n
 | [], t, n, u, _, _, h => by simp [za6] at h
 | c :: l, t, n, u, hb, ht, h => by
  by_cases h10 : 10 ≤ t.length
  ·rw [getNAux_late _ _ h10] at h; simp at h
  ·have hc := hb c (by simp)
   by_cases h2 : 128 ≤ c
   ·rw [getN_more (by omega) h2] at h
    obtain ⟨h3, v, h4, h5, h6⟩ := getNAux_some l (t ++ [c]) n u (fun x hx => hb x (by simp [hx])) (by
     intro x hx
     rcases List.mem_append.1 hx with hx | hx
     ·exact ht x hx
     ·simp at hx; omega) h
    refine ⟨h3, v + 1, by simp at h4; omega, by simp; omega, by rw [← h6]; simp⟩
   ·rw [getN_end ht hc.1 (by omega) (by omega)] at h
    by_cases h3 : zaE (za1 (t ++ [c]) % 18446744073709551616) = t ++ [c]
    ·rw [if_pos h3] at h
     simp only [Option.some.injEq, Prod.mk.injEq] at h
     obtain ⟨rfl, rfl⟩ := h
     have h4 : za1 (t ++ [c]) % 18446744073709551616 = za1 (t ++ [c]) := by
      have := congrArg za1 h3
      rw [leVal_put] at this
      exact this
     rw [h4] at h3
     refine ⟨by omega, 1, rfl, by simp, ?_⟩
     rw [h3]
     simp
    ·rw [if_neg h3] at h; simp at h
theorem getN_some {l : List Int} {n u : Nat} (hb : zaJ l) (h : getN l = some (n, u)) : n < 18446744073709551616 ∧ u ≤ l.length ∧ l.take u = zaE n := by
 obtain ⟨h1, v, h2, h3, h4⟩ := getNAux_some l [] n u hb (fun x hx => by simp at hx) h
 simp only [List.length_nil, Nat.zero_add] at h2
 subst h2
 exact ⟨h1, h3, by simpa using h4⟩
def getPost (l : List Int) (w : World) (e : Ending) (w' : World) : Prop := e = .returned (.tuple #[.int .u64 (tellN (getN l)).1, .int .i64 (tellN (getN l)).2.1, .bool (tellN (getN l)).2.2]) ∧ Below w.heap.size w w'
theorem u64_mod (n : Nat) : IntKind.wrap .u64 (n : Int) = ((n % 18446744073709551616 : Nat) : Int) := by
 rw [show IntKind.wrap .u64 (n : Int) = (n : Int) % 18446744073709551616 from rfl]
 omega
theorem u64_small' {n : Nat} (h : n < 18446744073709551616) : IntKind.wrap .u64 (n : Int) = (n : Int) := by rw [u64_mod, Nat.mod_eq_of_lt h]
def nameCh (i : Nat) (c : Int) : Bool := (decide (97 ≤ c) && decide (c ≤ 122)) || (decide (0 < i) && (c == 95 || (decide (48 ≤ c) && decide (c ≤ 57))))
def nameB (s : ByteArray) : Bool := ((List.range s.size).all fun i => nameCh i (bt s (i : Int))) && (decide (s.size ≠ 0) && decide (s.size ≤ 12))
theorem bytesOf_byte (s : ByteArray) : zaJ (bytesOf s) := by
 intro c hc
 obtain ⟨b, _, rfl⟩ := List.mem_map.1 hc
 have := UInt8.toNat_lt b
 omega
theorem bytesOf_str {l : List Int} (h : zaJ l) : bytesOf (strOfNums l) = l := by
 unfold bytesOf strOfNums
 rw [List.map_map]
 conv => rhs; rw [← List.map_id l]
 refine List.map_congr_left (fun c hc => ?_)
 have := h c hc
 simp only [Function.comp, id]
 rw [UInt8.toNat_ofNat']
 omega
theorem str_bytesOf (s : ByteArray) : strOfNums (bytesOf s) = s := by
 unfold bytesOf strOfNums
 rw [List.map_map]
 have : s.data.toList.map ((fun n : Int => UInt8.ofNat n.toNat) ∘ fun b : UInt8 => (b.toNat : Int)) = s.data.toList := by
  conv => rhs; rw [← List.map_id s.data.toList]
  refine List.map_congr_left (fun c _ => ?_)
  simp
 rw [this]
theorem strOfNums_size (l : List Int) : (strOfNums l).size = l.length := by
 unfold strOfNums
 show (List.map _ l).toArray.size = _
 simp
theorem toList_inj {a b : ByteArray} (h : a.toList = b.toList) : a = b := by
 rw [ByteArray.toList_eq, ByteArray.toList_eq] at h
 have := Array.toList_inj.1 h
 cases a; cases b
 simpa using this
theorem str_inj {a b : List Int} (ha : zaJ a) (hb : zaJ b) (h : (strOfNums a).toList = (strOfNums b).toList) : a = b := by
 rw [← bytesOf_str ha, ← bytesOf_str hb, toList_inj h]
theorem byteL_take {l : List Int} (h : zaJ l) (n : Nat) : zaJ (l.take n) := fun c hc => h c (List.mem_of_mem_take hc)
theorem zbn {l : List Int} (h : zaJ l) (n : Nat) : zaJ (l.drop n) := fun c hc => h c (List.mem_of_mem_drop hc)
theorem zaH {a b : List Int} (ha : zaJ a) (hb : zaJ b) : zaJ (a ++ b) := fun c hc => by
 rcases List.mem_append.1 hc with h | h
 ·exact ha c h
 ·exact hb c h
def textL (s : ByteArray) : List Int := zaE s.size ++ bytesOf s
theorem textL_small {s : ByteArray} (h : s.size ≤ 12) : (textL s).length = s.size + 1 := by
 unfold textL
 rw [zaZ (by omega), List.length_append, za0]
 simp; omega
theorem lePut_short {n : Nat} (h : n < 16384) : (zaE n).length ≤ 2 := by
 by_cases h2 : n < 128
 ·rw [zaZ h2]; simp
 ·rw [zbm h2, zaZ (by omega)]; simp
theorem za7 (w : World) (o o2 : Obj) : ((w.alloc o).alloc o2).heap[w.heap.size + 1]? = some o2 := by
 have := zat (w.alloc o) o2
 rwa [World.size_alloc] at this
def getM (l : List Int) (most : Nat) : Option (Nat × Nat) := match getN l with
 | none => none
 | some (n, u) => if n ≤ most then some (n, u) else none
def numYes (n u : Nat) (w : World) (e : Ending) (w' : World) : Prop := e = .returned (.tuple #[.int .u64 (n : Int), .int .i64 (u : Int), .bool true]) ∧ Below w.heap.size w w'
def numNo (w : World) (e : Ending) (w' : World) : Prop := e = .returned (.tuple #[.int .u64 0, .int .i64 0, .bool false]) ∧ Below w.heap.size w w'
theorem getM_none {l : List Int} {m : Nat} (h : getN l = none) : getM l m = none := by unfold getM; rw [h]
theorem getM_some {l : List Int} {m n u : Nat} (h : getN l = some (n, u)) : getM l m = if n ≤ m then some (n, u) else none := by unfold getM; rw [h]
theorem getM_used {l : List Int} {m n u : Nat} (h : getM l m = some (n, u)) : getN l = some (n, u) ∧ n ≤ m ∧ u ≤ l.length := by
 cases hg : getN l with
 | none => rw [getM_none hg] at h; simp at h
 | some p =>
  obtain ⟨a, b⟩ := p
  rw [getM_some hg] at h
  by_cases h2 : a ≤ m
  ·rw [if_pos h2] at h
   simp only [Option.some.injEq, Prod.mk.injEq] at h
   obtain ⟨rfl, rfl⟩ := h
   exact ⟨rfl, h2, (getN_used hg).2.1⟩
  ·rw [if_neg h2] at h; simp at h
theorem mid_row {α : Type} {P : Program} {d : Kd α} {t e : TypeId} {i0 : TypeInfo} (ht : P.underlying t = some (.slice e)) (hi0 : P.info? e = some i0) (hsz : i0.size = d.sz) (A : Option Addr) (c : Nat) (l : List α) (lo k : Nat) (i j : Int) (hi : i = lo) (hj : j = lo + k) (hk : lo + k ≤ l.length) (hc : l.length ≤ c) :
  ∃ A' : Option Addr, (∀ W : World, (Instr.slice t (.slice A l.length c) (some (.int .i64 i)) (some (.int .i64 j)) none).run P W = .ok (.slice A' k (c - lo)) W) ∧ (∀ w : World, Kd.C d w A l.length l → Kd.C d w A' k ((l.drop lo).take k)) ∧ ((l.drop lo).take k).length = k := by
 have hln : ((l.take (lo + k)).drop lo).length = k := by rw [List.length_drop, List.length_take]; omega
 have hdt : (l.take (lo + k)).drop lo = (l.drop lo).take k := by rw [List.drop_take]; congr 1; omega
 refine ⟨if c = lo then A else A.map (·.add (lo * d.sz)), fun W => ?_, fun w h => ?_, by rw [← hdt]; exact hln⟩
 ·have h := cut_mid (P := P) t e .i64 .i64 ht hi0 d.sz hsz A l.length c i j (by omega) (by omega) (by omega) hc W
  rw [show j.toNat - i.toNat = k from by omega, show i.toNat = lo from by omega] at h
  exact h
 ·have h2 := Kd.C_mid (lo := lo) (hi := lo + k) h (by omega) hk hc
  rw [hln, hdt] at h2
  exact h2
theorem drop_row {α : Type} {P : Program} {d : Kd α} {t e : TypeId} {i0 : TypeInfo} (ht : P.underlying t = some (.slice e)) (hi0 : P.info? e = some i0) (hsz : i0.size = d.sz) (A : Option Addr) (c : Nat) (l : List α) (lo : Nat) (i : Int) (hi : i = lo) (hk : lo ≤ l.length) (hc : l.length ≤ c) :
  ∃ A' : Option Addr, (∀ W : World, (Instr.slice t (.slice A l.length c) (some (.int .i64 i)) none none).run P W = .ok (.slice A' (l.drop lo).length (c - lo)) W) ∧ (∀ w : World, Kd.C d w A l.length l → Kd.C d w A' (l.drop lo).length (l.drop lo)) ∧ (l.drop lo).length ≤ c - lo := by
 refine ⟨if c = lo then A else A.map (·.add (lo * d.sz)), fun W => ?_, fun w h => Kd.C_drop h hk hc, by rw [List.length_drop]; omega⟩
 have hel : P.elem t = e := by simp [Program.elem, ht]
 have hu : P.underlying t = some (.slice (P.elem t)) := by rw [hel]; exact ht
 rw [run_slice_l W t A l.length c hu .i64 i (by omega) (by omega), hel, List.length_drop]
 simp [sizeOf, typeInfo, hi0, hsz, sliced, Result.andThen, hi]
theorem take_row {α : Type} {P : Program} {d : Kd α} {t e : TypeId} {i0 : TypeInfo} (ht : P.underlying t = some (.slice e)) (hi0 : P.info? e = some i0) (A : Option Addr) (c : Nat) (l : List α) (k : Nat) (i : Int) (hi : i = k) (hk : k ≤ l.length) (hc : l.length ≤ c) :
  (∀ W : World, (Instr.slice t (.slice A l.length c) none (some (.int .i64 i)) none).run P W = .ok (.slice A k c) W) ∧ (∀ w : World, Kd.C d w A l.length l → Kd.C d w A k (l.take k)) := by
 have hln : (l.take k).length = k := by rw [List.length_take]; omega
 refine ⟨fun W => ?_, fun w h => ?_⟩
 ·have hel : P.elem t = e := by simp [Program.elem, ht]
  have hu : P.underlying t = some (.slice (P.elem t)) := by rw [hel]; exact ht
  have ha : (A.map fun x => x.add 0) = A := by cases A <;> simp [Addr.add]
  rw [run_slice_h W t A l.length c hu .i64 i (by omega) (by omega), hel]
  simp [sizeOf, typeInfo, hi0, sliced, Result.andThen, hi, ha]
 ·have := Kd.C_take h hk
  rwa [hln] at this
def Only (B : Nat) (w w' : World) : Prop := Below B w w' ∧ ∀ i, i ≠ B → i < w.heap.size → w'.heap[i]? = w.heap[i]?
theorem Only.refl (B : Nat) (w : World) : Only B w w := ⟨Below.refl _ _, fun _ _ _ => rfl⟩
theorem Only.of_below {B : Nat} {w w' : World} (h : Below w.heap.size w w') (hB : B ≤ w.heap.size) : Only B w w' := ⟨h.mono hB, fun i _ hi => h.block i hi⟩
theorem Only.trans {B : Nat} {a b c : World} (h : Only B a b) (k : Only B b c) : Only B a c :=
 ⟨h.1.trans k.1, fun i hi hl => (k.2 i hi (Nat.lt_of_lt_of_le hl h.1.size)).trans (h.2 i hi hl)⟩
theorem Only.set {B j : Nat} {w w' : World} (h : Only B w w') (u : Value) : Only B w (w'.setCell ⟨B, j, none⟩ u) :=
 ⟨h.1.setCell (Nat.le_refl _) u, fun i hi hl => (Below.heap_setCell w' ⟨B, j, none⟩ u i hi).trans (h.2 i hi hl)⟩
theorem Only.step {B : Nat} {w w' w2 : World} (h : Only B w w') (k : Below w'.heap.size w' w2) (hB : B ≤ w'.heap.size) : Only B w w2 := h.trans (Only.of_below k hB)
theorem Only.below {n B : Nat} {w0 w w' : World} (h0 : Below n w0 w) (h : Only B w w') (hn : n ≤ B) : Below n w0 w' := h0.trans (h.1.mono hn)
theorem Only.blk {B i : Nat} {w w' : World} {o : Obj} (h : Only B w w') (hk : w.heap[i]? = some o) (hi : i ≠ B) : w'.heap[i]? = some o := (h.2 i hi (zaA hk)).trans hk
theorem Only.row {α : Type} {d : Kd α} {e B t base : Nat} {w w' : World} {ok : Nat → Prop} {v : Value} {xs : List α} {cells : Array Value} (ho : Only B w w') (h : d.R e w base ok v xs) (hb : w.heap[B]? = some (.cells cells t (0, 0))) (ht : ∀ q, q ∈ e :: d.E → q ≠ t) : d.R e w' base ok v xs :=
 Kd.R_mono (Kd.R_step (Kd.R_types h hb ht) (fun k hk hl => ho.2 k hk.2 hl)) (fun _ hk => hk.1)
theorem zbh {w : World} {b i : Nat} {v x : Value} {p : Addr} (h : w.cell? ⟨b, i, none⟩ = some v) (hne : b ≠ p.block) : (w.setCell p x).cell? ⟨b, i, none⟩ = some v :=
 (World.cell?_of_block (w := w) (a := ⟨b, i, none⟩) (Below.heap_setCell w p x b hne)).trans h
theorem getM_put {n m : Nat} (rest : List Int) (h : n ≤ m) (hm : m < 18446744073709551616) : getM (zaE n ++ rest) m = some (n, (zaE n).length) := by
 rw [getM_some (getN_put n rest (by omega)), if_pos h]
theorem getM_take {l : List Int} {m n u : Nat} (hb : zaJ l) (h : getM l m = some (n, u)) : l.take u = zaE n ∧ u = (zaE n).length := by
 obtain ⟨h1, _, h3⟩ := getM_used h
 have h4 := (getN_some hb h1).2.2
 refine ⟨h4, ?_⟩
 rw [← h4, List.length_take]
 omega
def zigN (n : Int) : Nat := if 0 ≤ n then (2 * n).toNat else (-2 * n - 1).toNat
def zagN (m : Nat) : Int := if m % 2 = 0 then ((m / 2 : Nat) : Int) else -((m / 2 : Nat) : Int) - 1
theorem zag_zig (n : Int) : zagN (zigN n) = n := by
 unfold zigN zagN
 split <;> split <;> omega
theorem zig_zag (m : Nat) : zigN (zagN m) = m := by
 unfold zigN zagN
 split <;> split <;> omega
theorem zig_lt {n : Int} (h0 : -9223372036854775808 ≤ n) (h1 : n ≤ 9223372036854775807) : zigN n < 18446744073709551616 := by unfold zigN; split <;> omega
theorem zag_in {m : Nat} (h : m < 18446744073709551616) : -9223372036854775808 ≤ zagN m ∧ zagN m ≤ 9223372036854775807 := by unfold zagN; split <;> omega
theorem xor_zeroU (a : Int) (ha : IntKind.wrap .u64 ((BitVec.ofInt 64 a).toNat : Int) = a) : Go.bits .xor .u64 a 0 = a := by
 show IntKind.wrap .u64 (((BitVec.ofInt 64 a ^^^ BitVec.ofInt 64 0).toNat : Nat) : Int) = a
 rw [show BitVec.ofInt 64 0 = 0#64 from by decide, BitVec.xor_zero]
 exact ha
theorem xor_zeroI (a : Int) (ha : IntKind.wrap .i64 ((BitVec.ofInt 64 a).toNat : Int) = a) : Go.bits .xor .i64 a 0 = a := by
 show IntKind.wrap .i64 (((BitVec.ofInt 64 a ^^^ BitVec.ofInt 64 0).toNat : Nat) : Int) = a
 rw [show BitVec.ofInt 64 0 = 0#64 from by decide, BitVec.xor_zero]
 exact ha
theorem ofInt_u64 {a : Int} (h0 : 0 ≤ a) (h1 : a < 18446744073709551616) : (BitVec.ofInt 64 a).toNat = a.toNat := by
 rw [BitVec.toNat_ofInt]
 omega
theorem wrap_u64 (n : Int) : IntKind.wrap .u64 n = n % 18446744073709551616 := rfl
theorem wrap_i64 (n : Int) : IntKind.wrap .i64 n = wrap64 n := by
 have h : IntKind.wrap .i64 n = if 9223372036854775808 ≤ n % 18446744073709551616 then n % 18446744073709551616 - 18446744073709551616 else n % 18446744073709551616 := by simp [IntKind.wrap, IntKind.bits, IntKind.signed]
 rw [h]
 unfold wrap64
 split <;> omega
theorem not64 (a : BitVec 64) : (a ^^^ BitVec.allOnes 64).toNat = 18446744073709551615 - a.toNat := by
 rw [BitVec.xor_allOnes, BitVec.toNat_not]
end Go.Proofs.Ytooemobolfoefaa.P


namespace Go.Proofs.Ytooemobolfoefaa.P
open Go.RowKit Go.Proofs.YtooemobolfoefaaW.PrintWords Go.Proofs.YtooemobolfoefaaW.PrintLast Go.Proofs.YtooemobolfoefaaW.PrintMore
def Own8 (e : TypeId) (base : Nat) (w : World) (v : Value) (xs : List Int) : Prop := Kd.R (Kd.int .u8) e w base (fun _ => True) v xs
theorem Own8.below {e : TypeId} {base : Nat} {w w1 : World} {v : Value} {xs : List Int} (h : Own8 e base w v xs) (hb : Below w.heap.size w w1) : Own8 e base w1 v xs := Kd.R_below h hb
theorem Own8.lower {e : TypeId} {base base' : Nat} {w : World} {v : Value} {xs : List Int} (h : Own8 e base w v xs) (hb : base' ≤ base) : Own8 e base' w v xs := Kd.R_lower h hb
theorem Own8.reads {e : TypeId} {base : Nat} {w : World} {v : Value} {xs : List Int} (h : Own8 e base w v xs) : ∃ A c, v = .slice A xs.length c ∧ xs.length ≤ c ∧ Kd.C (Kd.int .u8) w A xs.length xs := Kd.R_reads h
theorem Own8.ne {e : TypeId} {base b t : Nat} {w : World} {v : Value} {xs : List Int} {cs : Array Value} (h : Own8 e base w v xs) (hk : w.heap[b]? = some (.cells cs t (0, 0))) (ht : e ≠ t) : some b ≠ v.ownBlock := Kd.R_ne h hk ht
theorem own8_one (w : World) {e : TypeId} {base : Nat} (x : Int) (hb : base ≤ w.heap.size) : Own8 e base (w.alloc (.cells #[.int .u8 x] e)) (.slice (some ⟨w.heap.size, 0, none⟩) 1 1) [x] :=
 Kd.R_of_own (enc := Value.int .u8) (h1 := fun _ => rfl) (by simpa [encs] using World.ownsRow_lit (base := base) (e := e) (size := 1) w #[.int .u8 x] 1 hb (by simp [maxLen]) (by simp)) (fun _ _ => trivial)
section
variable {P : Program} {ops : Array Oper} {rest : List Oper} {o : Oper} {a : Act} {Q : Exit → Act → World → Prop} {Kc : Act → World → Prop}
theorem app8 {w0 W : World} (base : Nat) (hgd : o.guard = none) (s x : Operand) (t e : TypeId) (ho : o.op = .call { callee := .builtin .append, args := #[s, x], argTypes := #[t, t] })
  (ht : P.underlying t = some (.slice e)) (hinfo : (P.info? e).map (fun i => (i.zero, i.size, i.bytes)) = some (some (.int .u8 0), 1, 1)) (v : Value) (xs ys : List Int) (A : Option Addr) (m c : Nat) (hs : a.eval s = v) (hx : a.eval x = .slice A m c)
  (HO : Own8 e base W v xs) (HR : Kd.C (Kd.int .u8) W A m ys) (HB : Below base w0 W) (hbase : base ≤ W.heap.size) (hl : xs.length + m ≤ 140737488355328)
  (h : ∀ v1 w1, Own8 e base w1 v1 (xs ++ ys) → Below base w0 w1 → W.grownBy w1 v.ownBlock → wpList P ops Q rest (a.put o.dst v1) w1) : wpList P ops Q (o :: rest) a W :=
 Kd.R_append_rows (Kd.int .u8) (Rr := (Kd.int .u8).K W) (w0 := w0) base hgd s x t e (.int .u8 0) 1 ho ht hinfo rfl (by decide) (by decide) v xs ys A m c (fun _ => True) (fun _ => False) hs hx HO HR (fun _ _ h => h) (fun _ h => h.elim) (fun _ _ => trivial) HB hbase (by omega) (fun v1 w1 h1 h2 h3 _ => h v1 w1 h1 h2 h3)
theorem app8s {w0 W : World} (base : Nat) (hgd : o.guard = none) (s x : Operand) (t u e : TypeId) (ho : o.op = .call { callee := .builtin .append, args := #[s, x], argTypes := #[t, u] })
  (ht : P.underlying t = some (.slice e)) (hu : P.underlying u = some .string) (hinfo : (P.info? e).map (fun i => (i.zero, i.size, i.bytes)) = some (some (.int .u8 0), 1, 1)) (v : Value) (xs : List Int) (y : ByteArray) (hs : a.eval s = v) (hx : a.eval x = .string y)
  (HO : Own8 e base W v xs) (HB : Below base w0 W) (hbase : base ≤ W.heap.size) (hl : xs.length + y.size ≤ 140737488355328)
  (h : ∀ v1 w1, Own8 e base w1 v1 (xs ++ bytesOf y) → Below base w0 w1 → W.grownBy w1 v.ownBlock → wpList P ops Q rest (a.put o.dst v1) w1) : wpList P ops Q (o :: rest) a W :=
 print_append_str base hgd s x t u e ho ht hu hinfo v xs y hs hx (Kd.own_of_R HO) HB hbase hl (fun v1 w1 h1 h2 h3 => h v1 w1 (Kd.R_of_own h1 (fun _ _ => trivial)) h2 h3)
theorem app8_step {w0 W : World} (base : Nat) (hw : Region.wanted o (yielded ops a.tmps) = true) (s x : Operand) (t e : TypeId) (ho : o.op = .call { callee := .builtin .append, args := #[s, x], argTypes := #[t, t] })
  (ht : P.underlying t = some (.slice e)) (hinfo : (P.info? e).map (fun i => (i.zero, i.size, i.bytes)) = some (some (.int .u8 0), 1, 1)) (v : Value) (xs ys : List Int) (A : Option Addr) (m c : Nat) (hs : a.eval s = v) (hx : a.eval x = .slice A m c)
  (HO : Own8 e base W v xs) (HR : Kd.C (Kd.int .u8) W A m ys) (HB : Below base w0 W) (hbase : base ≤ W.heap.size) (hl : xs.length + m ≤ 140737488355328)
  (h : ∀ v1 w1, Own8 e base w1 v1 (xs ++ ys) → Below base w0 w1 → W.grownBy w1 v.ownBlock → Kc (a.put o.dst v1) w1) :
  if Region.wanted o (yielded ops a.tmps) = true then Oper.wp P o a W Kc Q else Kc (a.put o.dst undef) W :=
 Kd.R_append_rows_step (Kd.int .u8) (Rr := (Kd.int .u8).K W) (w0 := w0) base hw s x t e (.int .u8 0) 1 ho ht hinfo rfl (by decide) (by decide) v xs ys A m c (fun _ => True) (fun _ => False) hs hx HO HR (fun _ _ h => h) (fun _ h => h.elim) (fun _ _ => trivial) HB hbase (by omega) (fun v1 w1 h1 h2 h3 _ => h v1 w1 h1 h2 h3)
end
theorem append_types {P : Program} {t u e e' : TypeId} (ht : P.underlying t = some (.slice e)) (hu : P.underlying u = some (.slice e')) (ty : TypeId) (v x : Value) (W : World) : (Builtin.append_ #[t, u] ty #[v, x]).run P W = (Builtin.append_ #[t, t] ty #[v, x]).run P W := by
 unfold Builtin.append_
 cases v <;> simp [Sem.run_bind, run_underlying ht, run_underlying hu]
theorem exec_types {P : Program} {o : Oper} {ρ : Operand → Value} {W : World} {s x : Operand} {t u e e' : TypeId} (ho : o.op = .call { callee := .builtin .append, args := #[s, x], argTypes := #[t, u] }) (ht : P.underlying t = some (.slice e)) (hu : P.underlying u = some (.slice e')) :
  (execOp ρ o).run P W = (execOp ρ { o with op := .call { callee := .builtin .append, args := #[s, x], argTypes := #[t, t] } }).run P W := by
 unfold execOp
 simp only [ho, resolve, invoke, builtin, Sem.run_bind, List.map_toArray, List.map_cons, List.map_nil]
 simp [append_types ht hu]
section
variable {P : Program} {ops : Array Oper} {rest : List Oper} {o : Oper} {a : Act} {Q : Exit → Act → World → Prop} {Kc : Act → World → Prop}
theorem app8t_step {w0 W : World} (base : Nat) (hw : Region.wanted o (yielded ops a.tmps) = true) (s x : Operand) (t u e : TypeId) (ho : o.op = .call { callee := .builtin .append, args := #[s, x], argTypes := #[t, u] })
  (ht : P.underlying t = some (.slice e)) (hu : P.underlying u = some (.slice e)) (hinfo : (P.info? e).map (fun i => (i.zero, i.size, i.bytes)) = some (some (.int .u8 0), 1, 1)) (v : Value) (xs ys : List Int) (A : Option Addr) (m c : Nat) (hs : a.eval s = v) (hx : a.eval x = .slice A m c)
  (HO : Own8 e base W v xs) (HR : Kd.C (Kd.int .u8) W A m ys) (HB : Below base w0 W) (hbase : base ≤ W.heap.size) (hl : xs.length + m ≤ 140737488355328)
  (h : ∀ v1 w1, Own8 e base w1 v1 (xs ++ ys) → Below base w0 w1 → W.grownBy w1 v.ownBlock → Kc (a.put o.dst v1) w1) :
  if Region.wanted o (yielded ops a.tmps) = true then Oper.wp P o a W Kc Q else Kc (a.put o.dst undef) W := by
 have h1 := app8_step (o := { o with op := .call { callee := .builtin .append, args := #[s, x], argTypes := #[t, t] } }) (P := P) (ops := ops) (a := a) (Q := Q) (Kc := Kc) (w0 := w0) base hw s x t e rfl ht hinfo v xs ys A m c hs hx HO HR HB hbase hl h
 rw [if_pos hw]
 replace h1 := (if_pos (show Region.wanted { o with op := .call { callee := .builtin .append, args := #[s, x], argTypes := #[t, t] } } (yielded ops a.tmps) = true from hw)).mp h1
 unfold Oper.wp at h1 ⊢
 rw [exec_types ho ht hu]
 exact h1
theorem app8t {w0 W : World} (base : Nat) (hgd : o.guard = none) (s x : Operand) (t u e : TypeId) (ho : o.op = .call { callee := .builtin .append, args := #[s, x], argTypes := #[t, u] })
  (ht : P.underlying t = some (.slice e)) (hu : P.underlying u = some (.slice e)) (hinfo : (P.info? e).map (fun i => (i.zero, i.size, i.bytes)) = some (some (.int .u8 0), 1, 1)) (v : Value) (xs ys : List Int) (A : Option Addr) (m c : Nat) (hs : a.eval s = v) (hx : a.eval x = .slice A m c)
  (HO : Own8 e base W v xs) (HR : Kd.C (Kd.int .u8) W A m ys) (HB : Below base w0 W) (hbase : base ≤ W.heap.size) (hl : xs.length + m ≤ 140737488355328)
  (h : ∀ v1 w1, Own8 e base w1 v1 (xs ++ ys) → Below base w0 w1 → W.grownBy w1 v.ownBlock → wpList P ops Q rest (a.put o.dst v1) w1) : wpList P ops Q (o :: rest) a W := by
 have hw : Region.wanted o (yielded ops a.tmps) = true := by simp [Region.wanted, hgd]
 have h1 := app8t_step (P := P) (ops := ops) (a := a) (Q := Q) (Kc := wpList P ops Q rest) (w0 := w0) base hw s x t u e ho ht hu hinfo v xs ys A m c hs hx HO HR HB hbase hl h
 rw [if_pos hw] at h1
 unfold wpList
 rw [if_pos hw]
 exact .inl h1
end
theorem zero_i64 : -9223372036854775808 ≤ (0 : Int) ∧ (0 : Int) ≤ 9223372036854775807 := by decide
theorem zbt {W : World} {g : Nat} {t : TypeId} {a b c : Value} (h : W.heap[g]? = some (.cells #[a, b, c] t (0, 0))) (x y z : Value) : (((W.setCell ⟨g, 0, none⟩ x).setCell ⟨g, 1, none⟩ y).setCell ⟨g, 2, none⟩ z).heap[g]? = some (.cells #[x, y, z] t (0, 0)) :=
 zar (zar (zar h 0 x rfl) 1 y rfl) 2 z rfl
theorem below_put3 {B : Nat} {w W : World} {g : Nat} (h : Below B w W) (hg : B ≤ g) (x y z : Value) : Below B w (((W.setCell ⟨g, 0, none⟩ x).setCell ⟨g, 1, none⟩ y).setCell ⟨g, 2, none⟩ z) :=
 ((h.setCell (p := ⟨g, 0, none⟩) hg x).setCell (p := ⟨g, 1, none⟩) hg y).setCell (p := ⟨g, 2, none⟩) hg z
theorem za2 {W : World} {g : Nat} {t : TypeId} {cs : Array Value} (h : W.heap[g]? = some (.cells cs t (0, 0))) : ∀ i, W.cell? ⟨g, i, none⟩ = cs[i]? := fun i => zac h i
theorem cells_past {W : World} {g : Nat} {t : TypeId} {cs : Array Value} (h : W.heap[g]? = some (.cells cs t (0, 0))) : ∀ (o : Obj) (i : Nat), (W.alloc o).cell? ⟨g, i, none⟩ = cs[i]? := fun o i => zac (zag h o) i
theorem frozen_of {W : World} {g : Nat} {t : TypeId} {cs : Array Value} (h : W.heap[g]? = some (.cells cs t (0, 0))) : ∀ i, W.frozen? ⟨g, i, none⟩ = false := fun i => zaa h i
theorem frozen_past {W : World} {g : Nat} {t : TypeId} {cs : Array Value} (h : W.heap[g]? = some (.cells cs t (0, 0))) : ∀ (o : Obj) (i : Nat), (W.alloc o).frozen? ⟨g, i, none⟩ = false := fun o i => zaa (zag h o) i
theorem blk_new3 (w : World) (o o2 o3 : Obj) : (((w.alloc o).alloc o2).alloc o3).heap[w.heap.size + 1 + 1]? = some o3 := by
 have h := zat ((w.alloc o).alloc o2) o3
 rwa [show ((w.alloc o).alloc o2).heap.size = w.heap.size + 1 + 1 from by simp] at h
theorem know {W : World} {g : Nat} {t : TypeId} {cs : Array Value} (h : W.heap[g]? = some (.cells cs t (0, 0))) :
  (∀ i, W.cell? ⟨g, i, none⟩ = cs[i]?) ∧ (∀ (o : Obj) (i : Nat), (W.alloc o).cell? ⟨g, i, none⟩ = cs[i]?) ∧ (∀ i, W.frozen? ⟨g, i, none⟩ = false) ∧ (∀ (o : Obj) (i : Nat), (W.alloc o).frozen? ⟨g, i, none⟩ = false) :=
 ⟨za2 h, cells_past h, frozen_of h, frozen_past h⟩
def Spares (S : Nat → Prop) (w w' : World) : Prop := Below 0 w w' ∧ ∀ i, i < w.heap.size → ¬ S i → w'.heap[i]? = w.heap[i]?
theorem Spares.refl (S : Nat → Prop) (w : World) : Spares S w w := ⟨Below.refl _ _, fun _ _ _ => rfl⟩
theorem Spares.of_below {S : Nat → Prop} {w w' : World} (h : Below w.heap.size w w') : Spares S w w' := ⟨h.mono (Nat.zero_le _), fun i hi _ => h.block i hi⟩
theorem Spares.trans {S : Nat → Prop} {a b c : World} (h : Spares S a b) (k : Spares S b c) : Spares S a c :=
 ⟨h.1.trans k.1, fun i hi hs => (k.2 i (Nat.lt_of_lt_of_le hi h.1.size) hs).trans (h.2 i hi hs)⟩
theorem Spares.step {S : Nat → Prop} {a b c : World} (h : Spares S a b) (k : Below b.heap.size b c) : Spares S a c := h.trans (Spares.of_below k)
theorem Spares.set {S : Nat → Prop} {w w' : World} (h : Spares S w w') {g : Nat} (j : Nat) (hg : S g ∨ w.heap.size ≤ g) (u : Value) : Spares S w (w'.setCell ⟨g, j, none⟩ u) :=
 ⟨h.1.setCell (Nat.zero_le _) u, fun i hi hs => (Below.heap_setCell w' ⟨g, j, none⟩ u i (by rintro rfl; rcases hg with hg | hg; exact hs hg; exact absurd hi (Nat.not_lt.2 hg))).trans (h.2 i hi hs)⟩
theorem Spares.blk {S : Nat → Prop} {w w' : World} {i : Nat} {o : Obj} (h : Spares S w w') (hk : w.heap[i]? = some o) (hi : ¬ S i) : w'.heap[i]? = some o := (h.2 i (zaA hk) hi).trans hk
theorem Spares.size {S : Nat → Prop} {w w' : World} (h : Spares S w w') : w.heap.size ≤ w'.heap.size := h.1.size
theorem Spares.below {S : Nat → Prop} {w0 w w' : World} (h0 : Below w0.heap.size w0 w) (h : Spares S w w') (hS : ∀ i, S i → w0.heap.size ≤ i) : Below w0.heap.size w0 w' :=
 ⟨h.1.os.trans h0.os, h.1.tape.trans h0.tape, h.1.output.trans h0.output, Nat.le_trans h0.size h.1.size, fun i hi => (h.2 i (Nat.lt_of_lt_of_le hi h0.size) (fun hs => by have := hS i hs; omega)).trans (h0.block i hi)⟩
theorem below_spares {B : Nat} {w0 w w' : World} (h0 : Below w0.heap.size w0 w) (h : Spares (fun i => i = B) w w') (hB : w0.heap.size ≤ B) : Below w0.heap.size w0 w' := Spares.below h0 h (fun i hi => by omega)
theorem Spares.row {α : Type} {d : Kd α} {e base : Nat} {S : Nat → Prop} {w w' : World} {ok : Nat → Prop} {v : Value} {xs : List α} (h : Spares S w w') (hr : d.R e w base ok v xs) (hok : ∀ k, ok k → k < w.heap.size → ¬ S k) : d.R e w' base ok v xs :=
 Kd.R_step hr (fun k hk hl => h.2 k hl (hok k hk hl))
def bytesPost (e : TypeId) (l : List Int) (b : Bool) (w : World) (en : Ending) (w' : World) : Prop := ∃ v0_ : Value, en = .returned (.tuple #[v0_, .bool b]) ∧ Own8 e w.heap.size w' v0_ l ∧ Below w.heap.size w w'
end Go.Proofs.Ytooemobolfoefaa.P


namespace Go.Proofs.Ytooemobolfoefaa.P
open Go.RowKit Go.Proofs.YtooemobolfoefaaW.PrintWords Go.Proofs.YtooemobolfoefaaW.PrintLast Go.Proofs.YtooemobolfoefaaW.PrintMore
attribute [local go_sem] zaX zaV zbf zbe zaO zaN zaW zaU   -- for this text's walks alone
set_option linter.unusedVariables false
set_option linter.unusedSimpArgs false
def errW : Option Int → Value
 | none => .nilIface
 | some c => .iface 0 (.int .i64 c)
theorem zan : errW none = .nilIface := rfl
theorem zam (c : Int) : errW (some c) = .iface 0 (.int .i64 c) := rfl
theorem info5 : (Try.prog.info? 5).map (fun i => (i.zero, i.size, i.bytes)) = some (some (.int .u8 0), 1, 1) := by kernel_rfl
theorem infoStep : (Try.prog.info? 40).map (fun i => (i.zero, i.size, i.bytes)) = some (some (.agg #[(.string ⟨#[]⟩), (.slice none 0 0), (.int .i64 0), (.int .i64 0), (.bool false), (.string ⟨#[]⟩), (.slice none 0 0)]), 7, 104) := by kernel_rfl
theorem infoField : (Try.prog.info? 67).map (fun i => (i.zero, i.size, i.bytes)) = some (some (.agg #[(.string ⟨#[]⟩), (.int .i64 0)]), 2, 24) := by kernel_rfl
theorem infoValue : (Try.prog.info? 73).map (fun i => (i.zero, i.size, i.bytes)) = some (some (.agg #[(.int .i64 0), (.int .i64 0), (.string ⟨#[]⟩)]), 3, 32) := by kernel_rfl
theorem infoOp : (Try.prog.info? 75).map (fun i => (i.zero, i.size, i.bytes)) = some (some (.agg #[(.int .i64 0), (.int .i64 0), (.int .i64 0), (.int .i64 0), (.string ⟨#[]⟩)]), 5, 48) := by kernel_rfl
structure SValue where
 f0 : Int
 f1 : Int
 f2 : ByteArray
def zaL : SValue := ⟨(0 : Int), (0 : Int), (⟨#[]⟩ : ByteArray)⟩
def kValue : Kd SValue := Kd.iso (Kd.pair (Kd.int .i64) (Kd.pair (Kd.int .i64) Kd.string)) (fun x : SValue => (x.f0, x.f1, x.f2))
theorem kValue_heap : Kd.Heap kValue := Kd.heap_iso _ (Kd.heap_pair (Kd.heap_int .i64) (Kd.heap_pair (Kd.heap_int .i64) Kd.heap_string))
theorem kValue_open {w : World} {x : SValue} {cs : List Value} (h : kValue.K w x cs) : cs = [.int .i64 x.f0, .int .i64 x.f1, .string x.f2] := by
 obtain ⟨_, _, rfl, rfl, ⟨_, _, rfl, rfl, rfl⟩⟩ := h
 exact rfl
theorem kValue_mkM (w : World) (base : Nat) (ok : Nat → Prop) (x : SValue)  : kValue.M w base ok x [.int .i64 x.f0, .int .i64 x.f1, .string x.f2] := ⟨[.int .i64 x.f0], [.int .i64 x.f1, .string x.f2], rfl, rfl, ⟨[.int .i64 x.f1], [.string x.f2], rfl, rfl, rfl⟩⟩
def rd_TValue (xs : List SValue) (i : Int) : SValue := xs.getD i.toNat zaL
theorem at_TValue {w : World} {A : Option Addr} {n : Nat} {xs : List SValue} (h : Kd.C kValue w A n xs) (i : Int) (h0 : 0 ≤ i) (h1 : i < n) : ∃ ad , A = some ad ∧ w.cell? (ad.add (i.toNat * 3)) = some (.int .i64 (rd_TValue xs i).f0) ∧ w.cell? ⟨(ad.add (i.toNat * 3)).block, (ad.add (i.toNat * 3)).off + 1, none⟩ = some (.int .i64 (rd_TValue xs i).f1) ∧ w.cell? ⟨(ad.add (i.toNat * 3)).block, (ad.add (i.toNat * 3)).off + 2, none⟩ = some (.string (rd_TValue xs i).f2) := by
 obtain ⟨ad, c, e, _, hK, hc0⟩ := Kd.C_get h zaL i h0 h1
 have hc : ∀ j u, c[j]? = some u → w.cell? (ad.add (i.toNat * 3 + j)) = some u := hc0
 obtain rfl := kValue_open hK
 exact ⟨ad, e, hc 0 _ rfl, by rw [← zax _ _ 1 (by omega)]; exact hc 1 _ rfl, by rw [← zax _ _ 2 (by omega)]; exact hc 2 _ rfl⟩
structure SOp where
 f0 : Int
 f1 : Int
 f2 : SValue
def zOp : SOp := ⟨(0 : Int), (0 : Int), zaL⟩
def kOp : Kd SOp := Kd.iso (Kd.pair (Kd.int .i64) (Kd.pair (Kd.int .i64) kValue)) (fun x : SOp => (x.f0, x.f1, x.f2))
theorem kOp_heap : Kd.Heap kOp := Kd.heap_iso _ (Kd.heap_pair (Kd.heap_int .i64) (Kd.heap_pair (Kd.heap_int .i64) kValue_heap))
theorem kOp_open {w : World} {x : SOp} {cs : List Value} (h : kOp.K w x cs) : cs = [.int .i64 x.f0, .int .i64 x.f1, .int .i64 x.f2.f0, .int .i64 x.f2.f1, .string x.f2.f2] := by
 obtain ⟨_, _, rfl, rfl, ⟨_, _, rfl, rfl, s2⟩⟩ := h
 obtain rfl := kValue_open s2
 exact rfl
theorem kOp_mkM (w : World) (base : Nat) (ok : Nat → Prop) (x : SOp)  : kOp.M w base ok x [.int .i64 x.f0, .int .i64 x.f1, .int .i64 x.f2.f0, .int .i64 x.f2.f1, .string x.f2.f2] := ⟨[.int .i64 x.f0], [.int .i64 x.f1, .int .i64 x.f2.f0, .int .i64 x.f2.f1, .string x.f2.f2], rfl, rfl, ⟨[.int .i64 x.f1], [.int .i64 x.f2.f0, .int .i64 x.f2.f1, .string x.f2.f2], rfl, rfl, (kValue_mkM w base ok x.f2 )⟩⟩
def zaD (xs : List SOp) (i : Int) : SOp := xs.getD i.toNat zOp
theorem at_TOp {w : World} {A : Option Addr} {n : Nat} {xs : List SOp} (h : Kd.C kOp w A n xs) (i : Int) (h0 : 0 ≤ i) (h1 : i < n) : ∃ ad , A = some ad ∧ w.cell? (ad.add (i.toNat * 5)) = some (.int .i64 (zaD xs i).f0) ∧ w.cell? ⟨(ad.add (i.toNat * 5)).block, (ad.add (i.toNat * 5)).off + 1, none⟩ = some (.int .i64 (zaD xs i).f1) ∧ w.cell? ⟨(ad.add (i.toNat * 5)).block, (ad.add (i.toNat * 5)).off + 2, none⟩ = some (.int .i64 (zaD xs i).f2.f0) ∧ w.cell? ⟨(ad.add (i.toNat * 5)).block, (ad.add (i.toNat * 5)).off + 3, none⟩ = some (.int .i64 (zaD xs i).f2.f1) ∧ w.cell? ⟨(ad.add (i.toNat * 5)).block, (ad.add (i.toNat * 5)).off + 4, none⟩ = some (.string (zaD xs i).f2.f2) := by
 obtain ⟨ad, c, e, _, hK, hc0⟩ := Kd.C_get h zOp i h0 h1
 have hc : ∀ j u, c[j]? = some u → w.cell? (ad.add (i.toNat * 5 + j)) = some u := hc0
 obtain rfl := kOp_open hK
 exact ⟨ad, e, hc 0 _ rfl, by rw [← zax _ _ 1 (by omega)]; exact hc 1 _ rfl, by rw [← zax _ _ 2 (by omega)]; exact hc 2 _ rfl, by rw [← zax _ _ 3 (by omega)]; exact hc 3 _ rfl, by rw [← zax _ _ 4 (by omega)]; exact hc 4 _ rfl⟩
structure SField where
 f0 : ByteArray
 f1 : Int
def za8 : SField := ⟨(⟨#[]⟩ : ByteArray), (0 : Int)⟩
def kField : Kd SField := Kd.iso (Kd.pair Kd.string (Kd.int .i64)) (fun x : SField => (x.f0, x.f1))
theorem kField_open {w : World} {x : SField} {cs : List Value} (h : kField.K w x cs) : cs = [.string x.f0, .int .i64 x.f1] := by
 obtain ⟨_, _, rfl, rfl, rfl⟩ := h
 exact rfl
theorem kField_mkM (w : World) (base : Nat) (ok : Nat → Prop) (x : SField)  : kField.M w base ok x [.string x.f0, .int .i64 x.f1] := ⟨[.string x.f0], [.int .i64 x.f1], rfl, rfl, rfl⟩
def zbc (xs : List SField) (i : Int) : SField := xs.getD i.toNat za8
theorem at_TField {w : World} {A : Option Addr} {n : Nat} {xs : List SField} (h : Kd.C kField w A n xs) (i : Int) (h0 : 0 ≤ i) (h1 : i < n) : ∃ ad , A = some ad ∧ w.cell? (ad.add (i.toNat * 2)) = some (.string (zbc xs i).f0) ∧ w.cell? ⟨(ad.add (i.toNat * 2)).block, (ad.add (i.toNat * 2)).off + 1, none⟩ = some (.int .i64 (zbc xs i).f1) := by
 obtain ⟨ad, c, e, _, hK, hc0⟩ := Kd.C_get h za8 i h0 h1
 have hc : ∀ j u, c[j]? = some u → w.cell? (ad.add (i.toNat * 2 + j)) = some u := hc0
 obtain rfl := kField_open hK
 exact ⟨ad, e, hc 0 _ rfl, by rw [← zax _ _ 1 (by omega)]; exact hc 1 _ rfl⟩
structure SSchema where
 f0 : ByteArray
 f1 : Int
 f2 : (List SField)
def zSchema : SSchema := ⟨(⟨#[]⟩ : ByteArray), (0 : Int), ([] : List SField)⟩
def kSchema : Kd SSchema := Kd.iso (Kd.pair Kd.string (Kd.pair (Kd.int .i64) (Kd.slice 67 kField))) (fun x : SSchema => (x.f0, x.f1, x.f2))
theorem kSchema_open {w : World} {x : SSchema} {cs : List Value} (h : kSchema.K w x cs) : ∃ A2 c2, cs = [.string x.f0, .int .i64 x.f1, .slice A2 x.f2.length c2] ∧ x.f2.length ≤ c2 ∧ kField.C w A2 x.f2.length x.f2 := by
 obtain ⟨_, _, rfl, rfl, ⟨_, _, rfl, rfl, ⟨A2, c2, rfl, l2, g2⟩⟩⟩ := h
 exact ⟨A2, c2, rfl, l2, g2⟩
theorem kSchema_mk (w : World) (x : SSchema) {A2 : Option Addr} {c2 : Nat} (l2 : x.f2.length ≤ c2) (g2 : kField.C w A2 x.f2.length x.f2) : kSchema.K w x [.string x.f0, .int .i64 x.f1, .slice A2 x.f2.length c2] := ⟨[.string x.f0], [.int .i64 x.f1, .slice A2 x.f2.length c2], rfl, rfl, ⟨[.int .i64 x.f1], [.slice A2 x.f2.length c2], rfl, rfl, ⟨A2, c2, rfl, l2, g2⟩⟩⟩
def zaq (xs : List SSchema) (i : Int) : SSchema := xs.getD i.toNat zSchema
theorem at_TSchema {w : World} {A : Option Addr} {n : Nat} {xs : List SSchema} (h : Kd.C kSchema w A n xs) (i : Int) (h0 : 0 ≤ i) (h1 : i < n) : ∃ ad A2 c2, A = some ad ∧ w.cell? (ad.add (i.toNat * 3)) = some (.string (zaq xs i).f0) ∧ w.cell? ⟨(ad.add (i.toNat * 3)).block, (ad.add (i.toNat * 3)).off + 1, none⟩ = some (.int .i64 (zaq xs i).f1) ∧ w.cell? ⟨(ad.add (i.toNat * 3)).block, (ad.add (i.toNat * 3)).off + 2, none⟩ = some (.slice A2 (zaq xs i).f2.length c2) ∧ (zaq xs i).f2.length ≤ c2 ∧ kField.C w A2 (zaq xs i).f2.length (zaq xs i).f2 := by
 obtain ⟨ad, c, e, _, hK, hc0⟩ := Kd.C_get h zSchema i h0 h1
 have hc : ∀ j u, c[j]? = some u → w.cell? (ad.add (i.toNat * 3 + j)) = some u := hc0
 obtain ⟨A2, c2, rfl, l2, g2⟩ := kSchema_open hK
 exact ⟨ad, A2, c2, e, hc 0 _ rfl, by rw [← zax _ _ 1 (by omega)]; exact hc 1 _ rfl, by rw [← zax _ _ 2 (by omega)]; exact hc 2 _ rfl, l2, g2⟩
structure SStep where
 f0 : ByteArray
 f1 : (List SOp)
 f2 : Int
 f3 : Int
 f4 : Bool
 f5 : ByteArray
 f6 : (List SOp)
def zStep : SStep := ⟨(⟨#[]⟩ : ByteArray), ([] : List SOp), (0 : Int), (0 : Int), false, (⟨#[]⟩ : ByteArray), ([] : List SOp)⟩
def kStep : Kd SStep := Kd.iso (Kd.pair Kd.string (Kd.pair (Kd.slice 75 kOp) (Kd.pair (Kd.int .i64) (Kd.pair (Kd.int .i64) (Kd.pair Kd.bool (Kd.pair Kd.string (Kd.slice 75 kOp))))))) (fun x : SStep => (x.f0, x.f1, x.f2, x.f3, x.f4, x.f5, x.f6))
theorem kStep_heap : Kd.Heap kStep := Kd.heap_iso _ (Kd.heap_pair Kd.heap_string (Kd.heap_pair (Kd.heap_slice 75 kOp_heap) (Kd.heap_pair (Kd.heap_int .i64) (Kd.heap_pair (Kd.heap_int .i64) (Kd.heap_pair Kd.heap_bool (Kd.heap_pair Kd.heap_string (Kd.heap_slice 75 kOp_heap)))))))
theorem kStep_open {w : World} {x : SStep} {cs : List Value} (h : kStep.K w x cs) : ∃ A1 c1 A6 c6, cs = [.string x.f0, .slice A1 x.f1.length c1, .int .i64 x.f2, .int .i64 x.f3, .bool x.f4, .string x.f5, .slice A6 x.f6.length c6] ∧ x.f1.length ≤ c1 ∧ kOp.C w A1 x.f1.length x.f1 ∧ x.f6.length ≤ c6 ∧ kOp.C w A6 x.f6.length x.f6 := by
 obtain ⟨_, _, rfl, rfl, ⟨_, _, rfl, ⟨A1, c1, rfl, l1, g1⟩, ⟨_, _, rfl, rfl, ⟨_, _, rfl, rfl, ⟨_, _, rfl, rfl, ⟨_, _, rfl, rfl, ⟨A6, c6, rfl, l6, g6⟩⟩⟩⟩⟩⟩⟩ := h
 exact ⟨A1, c1, A6, c6, rfl, l1, g1, l6, g6⟩
theorem kStep_mk (w : World) (x : SStep) {A1 : Option Addr} {c1 : Nat} (l1 : x.f1.length ≤ c1) (g1 : kOp.C w A1 x.f1.length x.f1) {A6 : Option Addr} {c6 : Nat} (l6 : x.f6.length ≤ c6) (g6 : kOp.C w A6 x.f6.length x.f6) : kStep.K w x [.string x.f0, .slice A1 x.f1.length c1, .int .i64 x.f2, .int .i64 x.f3, .bool x.f4, .string x.f5, .slice A6 x.f6.length c6] := ⟨[.string x.f0], [.slice A1 x.f1.length c1, .int .i64 x.f2, .int .i64 x.f3, .bool x.f4, .string x.f5, .slice A6 x.f6.length c6], rfl, rfl, ⟨[.slice A1 x.f1.length c1], [.int .i64 x.f2, .int .i64 x.f3, .bool x.f4, .string x.f5, .slice A6 x.f6.length c6], rfl, ⟨A1, c1, rfl, l1, g1⟩, ⟨[.int .i64 x.f2], [.int .i64 x.f3, .bool x.f4, .string x.f5, .slice A6 x.f6.length c6], rfl, rfl, ⟨[.int .i64 x.f3], [.bool x.f4, .string x.f5, .slice A6 x.f6.length c6], rfl, rfl, ⟨[.bool x.f4], [.string x.f5, .slice A6 x.f6.length c6], rfl, rfl, ⟨[.string x.f5], [.slice A6 x.f6.length c6], rfl, rfl, ⟨A6, c6, rfl, l6, g6⟩⟩⟩⟩⟩⟩⟩
theorem kStep_mkM (w : World) (base : Nat) (ok : Nat → Prop) (x : SStep) {v1 : Value} (g1 : kOp.R 75 w base ok v1 x.f1) {v6 : Value} (g6 : kOp.R 75 w base ok v6 x.f6) : kStep.M w base ok x [.string x.f0, v1, .int .i64 x.f2, .int .i64 x.f3, .bool x.f4, .string x.f5, v6] := ⟨[.string x.f0], [v1, .int .i64 x.f2, .int .i64 x.f3, .bool x.f4, .string x.f5, v6], rfl, rfl, ⟨[v1], [.int .i64 x.f2, .int .i64 x.f3, .bool x.f4, .string x.f5, v6], rfl, ⟨v1, rfl, g1⟩, ⟨[.int .i64 x.f2], [.int .i64 x.f3, .bool x.f4, .string x.f5, v6], rfl, rfl, ⟨[.int .i64 x.f3], [.bool x.f4, .string x.f5, v6], rfl, rfl, ⟨[.bool x.f4], [.string x.f5, v6], rfl, rfl, ⟨[.string x.f5], [v6], rfl, rfl, ⟨v6, rfl, g6⟩⟩⟩⟩⟩⟩⟩
def zaj (xs : List SStep) (i : Int) : SStep := xs.getD i.toNat zStep
theorem zbi {w : World} {A : Option Addr} {n : Nat} {xs : List SStep} (h : Kd.C kStep w A n xs) (i : Int) (h0 : 0 ≤ i) (h1 : i < n) : ∃ ad A1 c1 A6 c6, A = some ad ∧ w.cell? (ad.add (i.toNat * 7)) = some (.string (zaj xs i).f0) ∧ w.cell? ⟨(ad.add (i.toNat * 7)).block, (ad.add (i.toNat * 7)).off + 1, none⟩ = some (.slice A1 (zaj xs i).f1.length c1) ∧ w.cell? ⟨(ad.add (i.toNat * 7)).block, (ad.add (i.toNat * 7)).off + 2, none⟩ = some (.int .i64 (zaj xs i).f2) ∧ w.cell? ⟨(ad.add (i.toNat * 7)).block, (ad.add (i.toNat * 7)).off + 3, none⟩ = some (.int .i64 (zaj xs i).f3) ∧ w.cell? ⟨(ad.add (i.toNat * 7)).block, (ad.add (i.toNat * 7)).off + 4, none⟩ = some (.bool (zaj xs i).f4) ∧ w.cell? ⟨(ad.add (i.toNat * 7)).block, (ad.add (i.toNat * 7)).off + 5, none⟩ = some (.string (zaj xs i).f5) ∧ w.cell? ⟨(ad.add (i.toNat * 7)).block, (ad.add (i.toNat * 7)).off + 6, none⟩ = some (.slice A6 (zaj xs i).f6.length c6) ∧ (zaj xs i).f1.length ≤ c1 ∧ kOp.C w A1 (zaj xs i).f1.length (zaj xs i).f1 ∧ (zaj xs i).f6.length ≤ c6 ∧ kOp.C w A6 (zaj xs i).f6.length (zaj xs i).f6 := by
 obtain ⟨ad, c, e, _, hK, hc0⟩ := Kd.C_get h zStep i h0 h1
 have hc : ∀ j u, c[j]? = some u → w.cell? (ad.add (i.toNat * 7 + j)) = some u := hc0
 obtain ⟨A1, c1, A6, c6, rfl, l1, g1, l6, g6⟩ := kStep_open hK
 exact ⟨ad, A1, c1, A6, c6, e, hc 0 _ rfl, by rw [← zax _ _ 1 (by omega)]; exact hc 1 _ rfl, by rw [← zax _ _ 2 (by omega)]; exact hc 2 _ rfl, by rw [← zax _ _ 3 (by omega)]; exact hc 3 _ rfl, by rw [← zax _ _ 4 (by omega)]; exact hc 4 _ rfl, by rw [← zax _ _ 5 (by omega)]; exact hc 5 _ rfl, by rw [← zax _ _ 6 (by omega)]; exact hc 6 _ rfl, l1, g1, l6, g6⟩
structure SQuery where
 f0 : (List SStep)
 f1 : Int
 f2 : Int
 f3 : Int
 f4 : Int
def zQuery : SQuery := ⟨([] : List SStep), (0 : Int), (0 : Int), (0 : Int), (0 : Int)⟩
def kQuery : Kd SQuery := Kd.iso (Kd.pair (Kd.slice 40 kStep) (Kd.pair (Kd.int .i64) (Kd.pair (Kd.int .i64) (Kd.pair (Kd.int .i64) (Kd.int .i64))))) (fun x : SQuery => (x.f0, x.f1, x.f2, x.f3, x.f4))
theorem kQuery_open {w : World} {x : SQuery} {cs : List Value} (h : kQuery.K w x cs) : ∃ A0 c0, cs = [.slice A0 x.f0.length c0, .int .i64 x.f1, .int .i64 x.f2, .int .i64 x.f3, .int .i64 x.f4] ∧ x.f0.length ≤ c0 ∧ kStep.C w A0 x.f0.length x.f0 := by
 obtain ⟨_, _, rfl, ⟨A0, c0, rfl, l0, g0⟩, ⟨_, _, rfl, rfl, ⟨_, _, rfl, rfl, ⟨_, _, rfl, rfl, rfl⟩⟩⟩⟩ := h
 exact ⟨A0, c0, rfl, l0, g0⟩
end Go.Proofs.Ytooemobolfoefaa.P


namespace Go.Proofs.Ytooemobolfoefaa.P
open Go.RowKit Go.Proofs.YtooemobolfoefaaW.PrintWords Go.Proofs.YtooemobolfoefaaW.PrintLast Go.Proofs.YtooemobolfoefaaW.PrintMore
set_option linter.unusedVariables false
def i64V (v : SValue) : Prop := -9223372036854775808 ≤ v.f1 ∧ v.f1 ≤ 9223372036854775807
def eqV (x y : SValue) : Bool := (x.f0 == y.f0) && ((x.f1 == y.f1) && (x.f2.toList == y.f2.toList))
theorem eqV_iff {x y : SValue} : eqV x y = true ↔ x = y := by
 unfold eqV
 simp only [Bool.and_eq_true, beq_iff_eq]
 constructor
 ·rintro ⟨h1, h2, h3⟩
  obtain ⟨a, b, c⟩ := x
  obtain ⟨d, e, f⟩ := y
  obtain rfl : a = d := h1
  obtain rfl : b = e := h2
  obtain rfl : c = f := toList_inj h3
  rfl
 ·rintro rfl
  exact ⟨rfl, rfl, rfl⟩
theorem neV {x y : SValue} : (!(x.f0 == y.f0) || (!(x.f1 == y.f1) || !(x.f2.toList == y.f2.toList))) = !(eqV x y) := by
 unfold eqV
 cases (x.f0 == y.f0) <;> cases (x.f1 == y.f1) <;> cases (x.f2.toList == y.f2.toList) <;> rfl
end Go.Proofs.Ytooemobolfoefaa.P


namespace Go.Proofs.Ytooemobolfoefaa.P
open Go.RowKit Go.Proofs.YtooemobolfoefaaW.PrintWords Go.Proofs.YtooemobolfoefaaW.PrintLast Go.Proofs.YtooemobolfoefaaW.PrintMore
def Opens {α : Type} (P : Program) (t : TypeId) (d : Kd α) (wf : α → Prop) : Prop :=
 ∀ {H : Type} (enc : TypeId × Value → H) (W : World) (base : Nat) (spare : Nat → Bool) (held : Bool) (fuel : Nat) (cs : List Value) (x : DataW H × List MemPlace),
  DataW.trod enc P W base spare held fuel t cs = some x → (∀ n ∈ x.1.weights P t, n ≤ reachBytes) → ∃ a, d.K W a cs ∧ wf a
theorem zbk {P : Program} {t : TypeId} {k : IntKind} (hu : P.underlying t = some (.int k)) : Opens P t (Kd.int k) (fun n => (Lit.int k n).wf = true) := by
 intro H enc W base spare held fuel cs x h _
 obtain ⟨n, rfl, _, hw⟩ := DataW.trod_int hu h
 exact ⟨n, rfl, hw⟩
theorem opens_bool {P : Program} {t : TypeId} (hu : P.underlying t = some .bool) : Opens P t Kd.bool (fun _ => True) := by
 intro H enc W base spare held fuel cs x h _
 obtain ⟨b, rfl, _⟩ := DataW.trod_bool hu h
 exact ⟨b, rfl, trivial⟩
theorem opens_string {P : Program} {t : TypeId} (hu : P.underlying t = some .string) : Opens P t Kd.string (fun s => s.size ≤ 140737488351232) := by
 intro H enc W base spare held fuel cs x h hw
 obtain ⟨s, rfl, rfl, _⟩ := DataW.trod_string hu h
 refine ⟨s, rfl, ?_⟩
 have := hw s.data.toList.length (by simp [DataW.weights])
 simpa [reachBytes] using this
theorem weightsAll_mem {H : Type} {P : Program} {e : TypeId} : ∀ (l : List (DataW H)) (d : DataW H), d ∈ l → ∀ n ∈ d.weights P e, n ∈ DataW.weightsAll P e l
 | [], d, h, _, _ => by simp at h
 | a :: l, d, h, n, hn => by
  simp only [DataW.weightsAll, List.mem_append]
  rcases List.mem_cons.1 h with rfl | h
  ·exact .inl hn
  ·exact .inr (weightsAll_mem l d h n hn)
theorem fin_list {α : Type} (n : Nat) (p : Nat → α → Prop) (h : ∀ i, i < n → ∃ a, p i a) : ∃ l : List α, l.length = n ∧ ∀ i a, l[i]? = some a → p i a := by
 induction n with
 | zero => exact ⟨[], rfl, fun i a ha => by simp at ha⟩
 | succ n ih =>
  obtain ⟨l, hl, hp⟩ := ih (fun i hi => h i (by omega))
  obtain ⟨a, ha⟩ := h n (by omega)
  refine ⟨l ++ [a], by simp [hl], fun i b hb => ?_⟩
  by_cases hi : i < n
  ·rw [List.getElem?_append_left (by omega)] at hb
   exact hp i b hb
  ·rw [List.getElem?_append_right (by omega)] at hb
   have : i = n := by
    have := (List.getElem?_eq_some_iff.1 hb).1
    simp at this
    omega
   subst this
   simp [hl] at hb
   exact hb ▸ ha
theorem opens_slice {α : Type} {P : Program} {t e : TypeId} {d : Kd α} {wf : α → Prop} {B : Nat} (ht : P.underlying t = some (.slice e)) (he : Opens P e d wf) (hc : P.cellsOf e = d.sz) (hB : P.bytesOf e = B) :
  Opens P t (Kd.slice e d) (fun l => l.length * B ≤ 140737488351232 ∧ ∀ x ∈ l, wf x) := by
 intro H enc W base spare held fuel cs x h hw
 rcases Go.Deep.open_slice ht h with ⟨rfl, rfl⟩ | ⟨a, len, cap, m, n, D, Pl, rfl, hb, hl, hm, hmm, rfl, hx⟩
 ·exact ⟨[], ⟨none, 0, rfl, Nat.le_refl _, Kd.C_nil _ _⟩, by simp, by simp⟩
 ·simp only [DataW.weights, ht] at hw
  have hle : len ≤ m := by rw [hmm]; split <;> omega
  have hlen : len * B ≤ 140737488351232 := by
   have := hw _ (List.mem_cons_self ..)
   rw [hB] at this
   simp only [List.length_map, List.length_range] at this
   exact Nat.le_trans (Nat.mul_le_mul_right _ (by omega)) this
  obtain ⟨l, hl1, hl2⟩ := fin_list len (fun i a' => ∃ c, c.length = d.sz ∧ (d.K W a' c ∧ wf a') ∧ ∀ j u, c[j]? = some u → W.cell? (a.add (i * d.sz + j)) = some u) (fun i hi => by
   obtain ⟨cs', h1, h2⟩ := hx i (by omega)
   obtain ⟨_, h4, h5⟩ := World.cells?_some h1
   obtain ⟨y, hy⟩ := he enc W base spare held n cs' _ h2 (fun q hq => hw q (List.mem_cons_of_mem _ (List.mem_append_left _ (weightsAll_mem _ _ (List.mem_map.2 ⟨i, List.mem_range.2 hi, rfl⟩) q hq))))
   rw [hc] at h4 h5
   refine ⟨y, cs', h4, hy, fun j u hu => ?_⟩
   have hj : j < d.sz := by rw [← h4]; exact (List.getElem?_eq_some_iff.1 hu).1
   rw [← addr_add, h5 j hj]
   exact hu)
  refine ⟨l, ⟨some a, cap, by rw [hl1], by omega, ?_⟩, by rw [hl1]; exact hlen, fun x hx => ?_⟩
  ·rw [hl1]
   refine ⟨hl1, by unfold maxLen at hm; omega, fun _ => ⟨a, rfl, fun j p hp => ?_⟩⟩
   obtain ⟨c, h1, h2, h3⟩ := hl2 j p hp
   exact ⟨c, h1, h2.1, h3⟩
  ·obtain ⟨i, hi⟩ := List.mem_iff_getElem?.1 hx
   obtain ⟨c, _, h2, _⟩ := hl2 i x hi
   exact h2.2
def OpensF {α : Type} (P : Program) (fs : List Field) (o : Nat) (d : Kd α) (wf : α → Prop) : Prop :=
 ∀ {H : Type} (enc : TypeId × Value → H) (W : World) (base : Nat) (spare : Nat → Bool) (held : Bool) (fuel : Nat) (cs : List Value) (xs : List (DataW H × List MemPlace)),
  xs.length = fs.length → (∀ (i : Nat) (f : Field), fs[i]? = some f → ∃ y, xs[i]? = some y ∧ DataW.trod enc P W base spare held fuel f.type ((cs.drop f.offset).take (P.cellsOf f.type)) = some y) →
  (∀ n ∈ DataW.weightsEach P (fs.map fun f : Field => f.type) (xs.map (·.1)), n ≤ reachBytes) → ∃ a, d.K W a ((cs.drop o).take d.sz) ∧ wf a
theorem opens_one {α : Type} {P : Program} {f : Field} {d : Kd α} {wf : α → Prop} {o : Nat} (h : Opens P f.type d wf) (ho : f.offset = o) (hs : P.cellsOf f.type = d.sz) : OpensF P [f] o d wf := by
 intro H enc W base spare held fuel cs xs hl hx hw
 obtain ⟨y, h1, h2⟩ := hx 0 f rfl
 rw [ho, hs] at h2
 match xs, hl with
 | [z], _ =>
  simp at h1
  subst h1
  exact h enc W base spare held fuel _ _ h2 (fun n hn => hw n (by simp [DataW.weightsEach, hn]))
theorem zaP {α β : Type} {P : Program} {f : Field} {fs : List Field} {d : Kd α} {d' : Kd β} {wf : α → Prop} {wf' : β → Prop} {o : Nat} (h : Opens P f.type d wf) (h' : OpensF P fs (o + d.sz) d' wf') (ho : f.offset = o) (hs : P.cellsOf f.type = d.sz) :
  OpensF P (f :: fs) o (Kd.pair d d') (fun x => wf x.1 ∧ wf' x.2) := by
 intro H enc W base spare held fuel cs xs hl hx hw
 match xs, hl with
 | z :: zs, hl =>
  obtain ⟨y, h1, h2⟩ := hx 0 f rfl
  rw [ho, hs] at h2
  simp at h1
  subst h1
  simp only [List.map_cons, DataW.weightsEach, List.mem_append] at hw
  obtain ⟨a, ha, wa⟩ := h enc W base spare held fuel _ _ h2 (fun n hn => hw n (.inl hn))
  obtain ⟨b, hb, wb⟩ := h' enc W base spare held fuel cs zs (by simpa using hl) (fun i g hg => by simpa using hx (i + 1) g (by simpa using hg)) (fun n hn => hw n (.inr hn))
  refine ⟨(a, b), ⟨_, _, ?_, ha, hb⟩, wa, wb⟩
  show (cs.drop o).take (d.sz + d'.sz) = _
  rw [List.take_add, List.drop_drop]
theorem opens_struct {α β : Type} {P : Program} {t : TypeId} {fs : Array Field} {d : Kd β} {wf : β → Prop} {wf' : α → Prop} (f : α → β) (g : β → α) (ht : P.underlying t = some (.struct fs)) (h : OpensF P fs.toList 0 d wf) (hs : P.cellsOf t = d.sz) (hg : ∀ b, f (g b) = b) (hw : ∀ b, wf b → wf' (g b)) :
  Opens P t (Kd.iso d f) wf' := by
 intro H enc W base spare held fuel cs x hx hwt
 obtain ⟨xs, n, rfl, rfl, h1, h2, h3⟩ := DataW.trod_struct ht hx
 obtain ⟨b, hb, wb⟩ := h enc W base spare held n cs xs (by simpa using h2) (fun i f hf => by
  have hf' : fs[i]? = some f := by simpa using hf
  have hi : i < xs.length := by rw [h2]; exact (Array.getElem?_eq_some_iff.1 hf').1
  exact ⟨xs[i], List.getElem?_eq_getElem hi, (h3 i f hf').trans (List.getElem?_eq_getElem hi)⟩) (fun n hn => hwt n (by simpa [DataW.weights, ht] using hn))
 refine ⟨g b, ?_, hw b wb⟩
 show d.K W (f (g b)) cs
 rw [hg]
 have : (cs.drop 0).take d.sz = cs := by rw [List.drop_zero, List.take_of_length_le (by rw [h1, hs]; exact Nat.le_refl _)]
 rw [← this]
 exact hb
end Go.Proofs.Ytooemobolfoefaa.P


namespace Go.Proofs.Ytooemobolfoefaa.P
open Go.RowKit Go.Proofs.YtooemobolfoefaaW.PrintWords Go.Proofs.YtooemobolfoefaaW.PrintLast Go.Proofs.YtooemobolfoefaaW.PrintMore
attribute [local go_sem] zaX zaV zbf zbe zaO zaN zaW zaU   -- for this text's walks alone
set_option linter.unusedVariables false
set_option linter.unusedSimpArgs false
def wfValue (x_ : SValue) : Prop := ((Lit.int .i64 x_.f0).wf = true) ∧ ((Lit.int .i64 x_.f1).wf = true) ∧ (x_.f2.size ≤ 140737488351232)
theorem openValue : Opens Try.prog 73 kValue wfValue := opens_struct (fun x_ : SValue => (x_.f0, x_.f1, x_.f2)) (fun b_ => ⟨b_.1, b_.2.1, b_.2.2⟩) Try.underlying73 (zaP (zbk Try.underlying3) (zaP (zbk Try.underlying3) (opens_one (opens_string Try.underlying9) rfl (by kernel_rfl)) rfl (by kernel_rfl)) rfl (by kernel_rfl)) (by kernel_rfl) (fun _ => rfl) (fun _ h_ => h_)
def wfOp (x_ : SOp) : Prop := ((Lit.int .i64 x_.f0).wf = true) ∧ ((Lit.int .i64 x_.f1).wf = true) ∧ (wfValue x_.f2)
theorem openOp : Opens Try.prog 75 kOp wfOp := opens_struct (fun x_ : SOp => (x_.f0, x_.f1, x_.f2)) (fun b_ => ⟨b_.1, b_.2.1, b_.2.2⟩) Try.underlying75 (zaP (zbk Try.underlying3) (zaP (zbk Try.underlying3) (opens_one openValue rfl (by kernel_rfl)) rfl (by kernel_rfl)) rfl (by kernel_rfl)) (by kernel_rfl) (fun _ => rfl) (fun _ h_ => h_)
def wfStep (x_ : SStep) : Prop := (x_.f0.size ≤ 140737488351232) ∧ (x_.f1.length * 48 ≤ 140737488351232 ∧ ∀ y_ ∈ x_.f1, wfOp y_) ∧ ((Lit.int .i64 x_.f2).wf = true) ∧ ((Lit.int .i64 x_.f3).wf = true) ∧ (True) ∧ (x_.f5.size ≤ 140737488351232) ∧ (x_.f6.length * 48 ≤ 140737488351232 ∧ ∀ y_ ∈ x_.f6, wfOp y_)
theorem openStep : Opens Try.prog 40 kStep wfStep := opens_struct (fun x_ : SStep => (x_.f0, x_.f1, x_.f2, x_.f3, x_.f4, x_.f5, x_.f6)) (fun b_ => ⟨b_.1, b_.2.1, b_.2.2.1, b_.2.2.2.1, b_.2.2.2.2.1, b_.2.2.2.2.2.1, b_.2.2.2.2.2.2⟩) Try.underlying40 (zaP (opens_string Try.underlying9) (zaP (opens_slice Try.underlying38 openOp (by kernel_rfl) (by kernel_rfl)) (zaP (zbk Try.underlying3) (zaP (zbk Try.underlying3) (zaP (opens_bool Try.underlying4) (zaP (opens_string Try.underlying9) (opens_one (opens_slice Try.underlying38 openOp (by kernel_rfl) (by kernel_rfl)) rfl (by kernel_rfl)) rfl (by kernel_rfl)) rfl (by kernel_rfl)) rfl (by kernel_rfl)) rfl (by kernel_rfl)) rfl (by kernel_rfl)) rfl (by kernel_rfl)) (by kernel_rfl) (fun _ => rfl) (fun _ h_ => h_)
def wfQuery (x_ : SQuery) : Prop := (x_.f0.length * 104 ≤ 140737488351232 ∧ ∀ y_ ∈ x_.f0, wfStep y_) ∧ ((Lit.int .i64 x_.f1).wf = true) ∧ ((Lit.int .i64 x_.f2).wf = true) ∧ ((Lit.int .i64 x_.f3).wf = true) ∧ ((Lit.int .i64 x_.f4).wf = true)
theorem openQuery : Opens Try.prog 24 kQuery wfQuery := opens_struct (fun x_ : SQuery => (x_.f0, x_.f1, x_.f2, x_.f3, x_.f4)) (fun b_ => ⟨b_.1, b_.2.1, b_.2.2.1, b_.2.2.2.1, b_.2.2.2.2⟩) Try.underlying24 (zaP (opens_slice Try.underlying22 openStep (by kernel_rfl) (by kernel_rfl)) (zaP (zbk Try.underlying3) (zaP (zbk Try.underlying3) (zaP (zbk Try.underlying3) (opens_one (zbk Try.underlying3) rfl (by kernel_rfl)) rfl (by kernel_rfl)) rfl (by kernel_rfl)) rfl (by kernel_rfl)) rfl (by kernel_rfl)) (by kernel_rfl) (fun _ => rfl) (fun _ h_ => h_)
def fieldOK (F : List SField) (i : Nat) : Bool := !((F.take i).any (fun x => x.f0.toList == (F.getD i za8).f0.toList)) && (nameB (F.getD i za8).f0 && (decide (0 ≤ (F.getD i za8).f1) && decide ((F.getD i za8).f1 < 4)))
def mayB (nm : ByteArray) (ver : Int) (F : List SField) : Bool := nameB nm && (decide (1 ≤ ver) && (decide (ver ≤ 1000) && (decide (F.length ≤ 6) && (List.range F.length).all (fieldOK F))))
def mayS (x : SSchema) : Bool := mayB x.f0 x.f1 x.f2
def schema_Name.f (a0 : ByteArray) : Option Bool := some (nameB a0)
def nameRel (s : ByteArray) (w : World) (pos : Nat) (w' : World) : Prop := pos ≤ s.size ∧ (∀ i, i < pos → nameCh i (bt s (i : Int)) = true) ∧ w' = w.iter s pos
theorem name_hit (s : ByteArray) (k : Nat) (hk : k < s.size) (h : nameCh k (bt s (k : Int)) = false) : nameB s = false := by
 unfold nameB
 rw [Bool.and_eq_false_iff]
 left
 rw [List.all_eq_false]
 exact ⟨k, List.mem_range.2 hk, by rw [h]; simp⟩
theorem nameCh_ok {i : Nat} {c : Int} (h : (97 ≤ c ∧ c ≤ 122) ∨ (0 < i ∧ (c = 95 ∨ (48 ≤ c ∧ c ≤ 57)))) : nameCh i c = true := by
 unfold nameCh
 rcases h with ⟨h1, h2⟩ | ⟨h1, h2 | ⟨h2, h3⟩⟩
 ·simp [h1, h2]
 ·simp [h1, h2]
 ·simp [h1, h2, h3]
theorem nameCh_no {i : Nat} {c : Int} (h : ¬ ((97 ≤ c ∧ c ≤ 122) ∨ (0 < i ∧ (c = 95 ∨ (48 ≤ c ∧ c ≤ 57))))) : nameCh i c = false := by
 rw [← Bool.not_eq_true]
 intro hc
 apply h
 unfold nameCh at hc
 simp only [Bool.or_eq_true, Bool.and_eq_true, decide_eq_true_eq, beq_iff_eq] at hc
 exact hc
theorem name_next {s : ByteArray} {pos : Nat} {c : Nat} (hs : Aside0 (∀ i : Nat, i < pos → nameCh i (bt s (i : Int)) = true)) (hc : Aside0 (bt s (pos : Int) = (c : Int))) (h : (97 ≤ (c : Int) ∧ (c : Int) ≤ 122) ∨ (0 < pos ∧ ((c : Int) = 95 ∨ (48 ≤ (c : Int) ∧ (c : Int) ≤ 57)))) : ∀ i : Nat, i < pos + 1 → nameCh i (bt s (i : Int)) = true := by
 intro i hi
 by_cases h2 : i < pos
 ·exact hs.out i h2
 ·obtain rfl : i = pos := by omega
  rw [hc.out]
  exact nameCh_ok h
theorem name_fall {s : ByteArray} {pos : Nat} {c : Nat} (hp : pos < s.size) (hc : Aside0 (bt s (pos : Int) = (c : Int))) (h : ¬ ((97 ≤ (c : Int) ∧ (c : Int) ≤ 122) ∨ (0 < pos ∧ ((c : Int) = 95 ∨ (48 ≤ (c : Int) ∧ (c : Int) ≤ 57))))) : nameB s = false := name_hit s pos hp (by rw [hc.out]; exact nameCh_no h)
theorem name_all (s : ByteArray) (h : ∀ i, i < s.size → nameCh i (bt s (i : Int)) = true) : nameB s = (decide (s.size ≠ 0) && decide (s.size ≤ 12)) := by
 unfold nameB
 rw [show ((List.range s.size).all fun i => nameCh i (bt s (i : Int))) = true from List.all_eq_true.2 fun i hi => h i (List.mem_range.1 hi)]
 rfl
set_option maxHeartbeats 1000000 in
set_option maxRecDepth 100000 in
theorem schema_Name.calls (a0 : ByteArray) (r : Bool) (w : World) (h : schema_Name.f a0 = some r) :
  Calls Try.prog 50 #[.string a0] w fun e w' => e = .returned (.bool r) ∧ Below w.heap.size w w' := by
 obtain rfl := Option.some.inj h
 clear h
 show Calls _ _ _ _ (zaS (nameB a0) w)
 go_enter Try.func50, Try.ntmps50
 go_wp2
 go_loopw [3, 4] (fun v3 v4 w' => ∃ pos : Nat, nameRel a0 w pos w') (fun _ _ w' => a0.size - w'.iterPos w.heap.size)
 case atStart => exact ⟨0, Nat.zero_le _, fun i hi => by omega, rfl⟩
 case round =>
  obtain ⟨pos, hp, hall, rfl⟩ := hrel
  have HALL := Aside0.mk hall
  clear hall
  by_cases hlt : pos < a0.size
  ·by_cases ha : (a0[pos]'hlt).toNat < 128
   ·have hnx : ∀ ty, (Instr.next (.pointer (some ⟨w.heap.size, 0, none⟩)) true ty).run Try.prog (w.iter a0 pos) = _ := fun ty => run_next_ascii w a0 pos ty hlt ha
    have HE : Aside0 (bt a0 (pos : Int) = (((a0[pos]'hlt).toNat : Nat) : Int)) := ⟨by simp [bt, hlt]⟩
    generalize (a0[pos]'hlt).toNat = c at *
    go_wp2
    all_goals first
     | (refine ⟨⟨pos + 1, ?_⟩, ?_⟩; (exact ⟨by omega, name_next HALL HE (by first | omega | (simp only [beq_iff_eq, beq_eq_false_iff_ne, ne_eq] at *; omega)), rfl⟩); (simp; omega))
     | (go_ret; rw [name_fall hlt HE (by first | omega | (simp only [beq_iff_eq, beq_eq_false_iff_ne, ne_eq] at *; omega))]; exact ⟨rfl, (Below.refl _ _).alloc (Nat.le_refl _) _⟩)
   ·have hnx : ∀ ty, (Instr.next (.pointer (some ⟨w.heap.size, 0, none⟩)) true ty).run Try.prog (w.iter a0 pos) = _ := fun ty => run_next_any w a0 pos ty hlt
    have hd := (decode_high a0 pos hlt (by omega)).1
    have HE : Aside0 (bt a0 (pos : Int) = (((a0[pos]'hlt).toNat : Nat) : Int)) := ⟨by simp [bt, hlt]⟩
    have hf : nameB a0 = false := name_fall hlt HE (by omega)
    clear HE
    generalize (Utf8.decode a0 pos).1 = c at *
    generalize (Utf8.decode a0 pos).2 = wd at *
    go_wp2
    all_goals first
     | (exfalso; first | omega | (simp only [beq_iff_eq, beq_eq_false_iff_ne, ne_eq] at *; omega))
     | (go_ret; rw [hf]; exact ⟨rfl, (Below.refl _ _).alloc (Nat.le_refl _) _⟩)
  ·have hnx : ∀ ty, (Instr.next (.pointer (some ⟨w.heap.size, 0, none⟩)) true ty).run Try.prog (w.iter a0 pos) = _ := fun ty => run_next_end w a0 pos ty hlt
   have hn := name_all a0 (fun i hi => HALL.out i (by omega))
   by_cases hz : a0.size = 0
   ·have HN : nameB a0 = false := by rw [hn]; simp [hz]
    have he : a0.toList = [] := List.eq_nil_of_length_eq_zero (by rw [ByteArray.toList_eq, data_length]; exact hz)
    clear hn
    go_wp2
    all_goals (go_ret; rw [HN]; exact ⟨by simp [he], (Below.refl _ _).alloc (Nat.le_refl _) _⟩)
   ·have HN : nameB a0 = decide (a0.size ≤ 12) := by rw [hn]; simp [hz]
    have he : a0.toList.isEmpty = false := List.isEmpty_eq_false_iff.mpr fun h => hz (by rw [← data_length, ← ByteArray.toList_eq, h]; rfl)
    have hs : decide ((a0.size : Int) ≤ 12) = decide (a0.size ≤ 12) := decide_eq_decide.2 (by omega)
    clear hn
    go_wp2
    all_goals (go_ret; rw [HN]; exact ⟨by simp [he, hs], (Below.refl _ _).alloc (Nat.le_refl _) _⟩)
set_option maxHeartbeats 400000 in
theorem slices_IndexFunc_api_Field.toldw (g : Nat) (caps : Array Value) (p : SField → Bool) (wf : SField → Prop) (A0 : Option Addr) (cp : Nat) (l0 : List SField) (w : World) (eg : ∀ args w, (callFunc g args).run Try.prog w = .ok (.enter g args) w) (hp : TellsW Try.prog kField g caps p wf w) (hwf : ∀ x ∈ l0, wf x) (hr0 : Kd.C kField w A0 l0.length l0) (hc0 : l0.length ≤ cp) :
  Calls Try.prog 64 #[.slice A0 l0.length cp, .func (.func g) #[] caps] w (idxPost p l0 w) := by
 have HR0 := Aside0.mk hr0
 have HC0 := Aside0.mk hc0
 have HP := Aside0.mk hp
 have HWF := Aside0.mk hwf
 have hm := hr0.2.1
 clear hr0 hc0 hp hwf
 go_enter Try.func64, Try.ntmps64
 go_wp2
 go_loopw [4, 5, 8] (fun v4 v5 v8 w' => ∃ k : Nat, v8 = .int .i64 k ∧ idxRel p l0 za8 w k w') (fun _ _ i _ => l0.length - (intOf i).toNat)
 case atStart => exact ⟨0, rfl, Nat.zero_le _, fun i hi => by omega, Below.refl _ _⟩
 case round =>
  obtain ⟨k, rfl, HK⟩ := hrel
  have HK := Aside0.mk HK
  by_cases hlt : k < l0.length
  ·obtain ⟨ad, cs, e, hl, hK, hcell⟩ := Kd.C_get (Kd.C_below HR0.out HK.out.2.2) za8 (k : Int) (by omega) (by omega)
   cases e
   simp only [Int.toNat_natCast] at hK hcell
   obtain ⟨c0, c1, rfl⟩ := cells2 cs hl
   have hx0 : wr.cell? (ad.add (k * 2)) = some c0 := hcell 0 _ rfl
   have hx1 : wr.cell? ⟨(ad.add (k * 2)).block, (ad.add (k * 2)).off + 1, none⟩ = some c1 := by rw [← zax _ _ 1 (by omega)]; exact hcell 1 _ rfl
   have hcall := HP.out (l0.getD k za8) _ wr (HWF.out _ (getD_in _ hlt)) HK.out.2.2 hK
   clear hcell hK hl
   cases hp : p (l0.getD k za8) with
   | true =>
    rw [hp] at hcall
    have HQ := Aside0.mk hp; clear hp
    go_wp2_with (go_at_fn g; refine hcall.mono ?_; rintro e w1 ⟨rfl, hb1⟩)
    go_ret
    exact ⟨by rw [idx_skip p za8 l0 k HK.out.2.1 hlt HQ.out]; rfl, zah HK.out.2.2 hb1⟩
   | false =>
    rw [hp] at hcall
    have HQ := Aside0.mk hp; clear hp
    go_wp2_with (go_at_fn g; refine hcall.mono ?_; rintro e w1 ⟨rfl, hb1⟩)
    go_roundw
    case rel => exact ⟨k + 1, by go_num, by omega, fun i hi => by rcases Nat.lt_succ_iff_lt_or_eq.1 hi with h | rfl; exact HK.out.2.1 i h; exact HQ.out, zah HK.out.2.2 hb1⟩
    case measure => simp [intOf]; omega
  ·go_wp2
   go_ret
   exact ⟨by rw [idx_none p za8 l0 (fun i hi => HK.out.2.1 i (by omega))]; rfl, HK.out.2.2⟩
set_option maxHeartbeats 400000 in
theorem slices_ContainsFunc_api_Field.toldw (g : Nat) (caps : Array Value) (p : SField → Bool) (wf : SField → Prop) (A0 : Option Addr) (cp : Nat) (l0 : List SField) (w : World) (eg : ∀ args w, (callFunc g args).run Try.prog w = .ok (.enter g args) w) (hp : TellsW Try.prog kField g caps p wf w) (hwf : ∀ x ∈ l0, wf x) (hr0 : Kd.C kField w A0 l0.length l0) (hc0 : l0.length ≤ cp) :
  Calls Try.prog 51 #[.slice A0 l0.length cp, .func (.func g) #[] caps] w (zaS (l0.any p) w) := by
 obtain ⟨ha, hn⟩ := idx_any p l0
 have HA := Aside0.mk ha
 have HC := Aside0.mk (slices_IndexFunc_api_Field.toldw g caps p wf A0 cp l0 w eg hp hwf hr0 hc0)
 clear ha hn eg hp hwf hr0
 go_enter Try.func51, Try.ntmps51
 go_wp2_with (go_at_call 64; refine HC.out.mono ?_; rintro e w1 ⟨rfl, hb1⟩)
 go_ret
 exact ⟨by rw [← HA.out]; rfl, hb1⟩
theorem slices_ContainsFunc_api_Field.told (g : Nat) (caps : Array Value) (p : SField → Bool) (A0 : Option Addr) (cp : Nat) (l0 : List SField) (w : World) (eg : ∀ args w, (callFunc g args).run Try.prog w = .ok (.enter g args) w) (hp : Tells Try.prog kField g caps p w) (hr0 : Kd.C kField w A0 l0.length l0) (hc0 : l0.length ≤ cp) :
  Calls Try.prog 51 #[.slice A0 l0.length cp, .func (.func g) #[] caps] w (zaS (l0.any p) w) :=
 slices_ContainsFunc_api_Field.toldw g caps p (fun _ => True) A0 cp l0 w eg (fun x cs W _ => hp x cs W) (fun _ _ => trivial) hr0 hc0
theorem may1_told (nm : ByteArray) (B : Nat) (w : World) (hB : B < w.heap.size) (hc : w.cell? ⟨B, 0, none⟩ = some (.string nm)) :
  Tells Try.prog kField 52 #[.pointer (some ⟨B, 0, none⟩)] (fun x : SField => x.f0.toList == nm.toList) w := by
 intro x cs W hW hK
 obtain rfl := kField_open hK
 have hc2 : W.cell? ⟨B, 0, none⟩ = some (.string nm) := (hW.cell (p := ⟨B, 0, none⟩) hB).trans hc
 have hB2 : B < W.heap.size := Nat.lt_of_lt_of_le hB hW.size
 clear hc hW hK hB
 show Calls _ _ #[.agg #[.string x.f0, .int .i64 x.f1], .pointer (some ⟨B, 0, none⟩)] W (zaS (x.f0.toList == nm.toList) W)
 go_enter Try.func52, Try.ntmps52
 go_wp2
 go_ret
 exact ⟨rfl, (Below.refl _ _).alloc (Nat.le_refl _) _⟩
theorem name_told {s : ByteArray} {b : Bool} (h : nameB s = b) (W : World) : Calls Try.prog 50 #[.string s] W (zaS b W) := schema_Name.calls s b W (by rw [← h]; rfl)
def schema_May.f (a0_0 : ByteArray) (a0_1 : Int) (l0_2 : List SField) : Option Bool := some (mayB a0_0 a0_1 l0_2)
theorem may_twice (nm : ByteArray) (B k : Nat) (ad : Addr) (c : Nat) (l : List SField) (W : World) (hB : B < W.heap.size) (hc : W.cell? ⟨B, 0, none⟩ = some (.string nm)) (hr : Kd.C kField W (some ad) l.length l) (hk : k ≤ l.length) (hlc : l.length ≤ c) :
  Calls Try.prog 51 #[.slice (some ad) k c, .func (.func 52) #[] #[.pointer (some ⟨B, 0, none⟩)]] W (zaS ((l.take k).any fun x : SField => x.f0.toList == nm.toList) W) := by
 have h := slices_ContainsFunc_api_Field.told 52 #[.pointer (some ⟨B, 0, none⟩)] (fun x : SField => x.f0.toList == nm.toList) (some ad) c (l.take k) W (enters_of Try.func52 (by kernel_rfl) rfl) (may1_told nm B W hB hc) (Kd.C_take hr hk) (by rw [List.length_take]; omega)
 rwa [List.length_take, Nat.min_eq_left hk] at h
theorem may_hit {nm : ByteArray} {ver : Int} {F : List SField} (k : Nat) (hk : k < F.length) (h : fieldOK F k = false) : mayB nm ver F = false := by
 unfold mayB
 rw [range_all_hit _ _ k hk h]
 simp
theorem may_all {nm : ByteArray} {ver : Int} {F : List SField} (h : ∀ i, i < F.length → fieldOK F i = true) : mayB nm ver F = (nameB nm && (decide (1 ≤ ver) && (decide (ver ≤ 1000) && decide (F.length ≤ 6)))) := by
 unfold mayB
 rw [range_all_none _ _ h, Bool.and_true]
theorem nameB_size {s : ByteArray} (h : nameB s = true) : s.size ≠ 0 ∧ s.size ≤ 12 := by
 unfold nameB at h
 simp only [Bool.and_eq_true, decide_eq_true_eq] at h
 exact ⟨h.2.1, h.2.2⟩
theorem fieldOK_parts {F : List SField} {i : Nat} (h : fieldOK F i = true) : nameB (F.getD i za8).f0 = true ∧ 0 ≤ (F.getD i za8).f1 ∧ (F.getD i za8).f1 < 4 := by
 unfold fieldOK at h
 simp only [Bool.and_eq_true, decide_eq_true_eq] at h
 exact ⟨h.2.1, h.2.2.1, h.2.2.2⟩
def mayRel (nm : ByteArray) (ver : Int) (A : Option Addr) (c : Nat) (F : List SField) (w : World) (k : Nat) (w' : World) : Prop :=
 k ≤ F.length ∧ (∀ i, i < k → fieldOK F i = true) ∧ Below w.heap.size w w' ∧ w'.heap[w.heap.size]? = some (.cells #[.string nm, .int .i64 ver, .slice A F.length c] 43 (0, 0))
set_option maxHeartbeats 2000000 in
set_option maxRecDepth 20000 in
theorem schema_May.calls (a0_0 : ByteArray) (a0_1 : Int) (A0_2 : Option Addr) (c0_2 : Nat) (l0_2 : List SField) (r : Bool) (w : World) (hr0_2 : Kd.C kField w A0_2 l0_2.length l0_2) (hc0_2 : l0_2.length ≤ c0_2) (h : schema_May.f a0_0 a0_1 l0_2 = some r) :
  Calls Try.prog 33 #[.agg #[.string a0_0, .int .i64 a0_1, .slice A0_2 l0_2.length c0_2]] w fun e w' => e = .returned (.bool r) ∧ Below w.heap.size w w' := by
 obtain rfl := Option.some.inj h
 clear h
 have hm := hr0_2.2.1
 show Calls _ _ _ _ (zaS (mayB a0_0 a0_1 l0_2) w)
 have HR := Aside0.mk hr0_2
 have HC := Aside0.mk hc0_2
 clear hr0_2 hc0_2
 obtain ⟨q, hq⟩ : ∃ q, mayB a0_0 a0_1 l0_2 = q := ⟨_, rfl⟩
 have HQ := Aside0.mk hq
 rw [hq]
 unfold mayB at hq
 cases hn : nameB a0_0 with
 | false =>
  rw [hn, Bool.false_and] at hq
  have HN := Aside0.mk hn
  subst hq
  clear hn
  go_enter Try.func33, Try.ntmps33
  go_wp2_with (go_at_call 50; refine (name_told HN.out _).mono ?_; rintro e w1 ⟨rfl, hb1⟩)
  go_ret
  exact ⟨rfl, zah ((Below.refl _ _).alloc (Nat.le_refl _) _) hb1⟩
 | true =>
  rw [hn, Bool.true_and] at hq
  have HN := Aside0.mk hn
  have HQ2 := Aside0.mk hq
  clear hn hq
  go_enter Try.func33, Try.ntmps33
  go_wp2_with (go_at_call 50; refine (name_told HN.out _).mono ?_; rintro e w1 ⟨rfl, hb1⟩; have hk1 := zak (zat _ _) hb1; have hS1 : w.heap.size < w1.heap.size := by { have h_ := hb1.size; rw [World.size_alloc] at h_; omega }; have hd1 : w1.cell? ⟨w.heap.size, 1, none⟩ = some (.int .i64 a0_1) := (zac hk1 1).trans rfl; have hd2 : w1.cell? ⟨w.heap.size, 2, none⟩ = some (.slice A0_2 l0_2.length c0_2) := (zac hk1 2).trans rfl; have HK1 := Aside0.mk hk1; clear hk1)
  any_goals (go_ret; exact ⟨by rw [show q = false from by rw [← HQ2.out]; simp only [Bool.and_eq_false_iff, decide_eq_false_iff_not]; omega]; rfl, zah ((Below.refl _ _).alloc (Nat.le_refl _) _) hb1⟩)
  go_loopw [3, 4, 5, 29] (fun _ _ _ v29 w' => ∃ k : Nat, v29 = .int .i64 k ∧ mayRel a0_0 a0_1 A0_2 c0_2 l0_2 w k w') (fun _ _ _ i _ => l0_2.length - (intOf i).toNat)
  case atStart => exact ⟨0, rfl, Nat.zero_le _, fun i hi => by omega, zah ((Below.refl _ _).alloc (Nat.le_refl _) _) hb1, HK1.out⟩
  case round =>
   obtain ⟨k, rfl, HK⟩ := hrel
   obtain ⟨hkl, hall, hb, hblk⟩ := HK
   have HALL := Aside0.mk hall
   have HB := Aside0.mk hb
   have HBLK := Aside0.mk hblk
   clear hall hb hblk
   by_cases hlt : k < l0_2.length
   ·obtain ⟨ad, e, hx0, hx1⟩ := at_TField (Kd.C_below HR.out HB.out) (k : Int) (by omega) (by omega)
    cases e
    simp only [Int.toNat_natCast] at hx0 hx1
    rw [show zbc l0_2 (k : Int) = l0_2.getD k za8 from rfl] at hx0 hx1
    have HF : Aside0 (fieldOK l0_2 k = (!((l0_2.take k).any (fun x => x.f0.toList == (l0_2.getD k za8).f0.toList)) && (nameB (l0_2.getD k za8).f0 && (decide (0 ≤ (l0_2.getD k za8).f1) && decide ((l0_2.getD k za8).f1 < 4))))) := ⟨rfl⟩
    generalize l0_2.getD k za8 = x at *
    have hsz : w.heap.size < wr.heap.size := zaA HBLK.out
    have hlc := HC.out
    have hc2 : wr.cell? ⟨w.heap.size, 2, none⟩ = some (.slice (some ad) l0_2.length c0_2) := (zac HBLK.out 2).trans rfl
    cases ht : (l0_2.take k).any (fun y => y.f0.toList == x.f0.toList) with
    | true =>
     have HT := Aside0.mk ht
     clear ht
     go_wp2_with (go_at_call 51; refine (may_twice x.f0 wr.heap.size k ad c0_2 l0_2 _ (by simp) ((zac (zat _ _) 0).trans rfl) (Kd.C_alloc (Kd.C_below HR.out HB.out) _) (by omega) HC.out).mono ?_; rintro e w2 ⟨rfl, hb2⟩; rw [HT.out])
     go_ret
     exact ⟨by rw [← HQ.out, may_hit k hlt (by rw [HF.out, HT.out]; rfl)]; rfl, zah (zab HB.out _) hb2⟩
    | false =>
     have HT := Aside0.mk ht
     clear ht
     cases hn2 : nameB x.f0 with
     | false =>
      have HN2 := Aside0.mk hn2
      clear hn2
      go_wp2_with (first | (go_at_call 51; refine (may_twice x.f0 wr.heap.size k ad c0_2 l0_2 _ (by simp) ((zac (zat _ _) 0).trans rfl) (Kd.C_alloc (Kd.C_below HR.out HB.out) _) (by omega) HC.out).mono ?_; rintro e w2 ⟨rfl, hb2⟩; rw [HT.out]; have hk2 := zak (zat _ _) hb2; have hS2 : wr.heap.size < w2.heap.size := zaA hk2; have hd0 : w2.cell? ⟨wr.heap.size, 0, none⟩ = some (.string x.f0) := (zac hk2 0).trans rfl; have hd1 : w2.cell? ⟨wr.heap.size, 1, none⟩ = some (.int .i64 x.f1) := (zac hk2 1).trans rfl; have HK2 := Aside0.mk hk2; clear hk2) | (go_at_call 50; refine (name_told HN2.out _).mono ?_; rintro e w3 ⟨rfl, hb3⟩))
      go_ret
      exact ⟨by rw [← HQ.out, may_hit k hlt (by rw [HF.out, HT.out, HN2.out]; rfl)]; rfl, zah (zah (zab HB.out _) hb2) hb3⟩
     | true =>
      have HN2 := Aside0.mk hn2
      clear hn2
      by_cases hkd : 0 ≤ x.f1 ∧ x.f1 < 4
      ·obtain ⟨hkd1, hkd2⟩ := hkd
       have HOK : Aside0 (fieldOK l0_2 k = true) := ⟨by rw [HF.out, HT.out, HN2.out, decide_eq_true hkd1, decide_eq_true hkd2]; rfl⟩
       go_wp2_with (first | (go_at_call 51; refine (may_twice x.f0 wr.heap.size k ad c0_2 l0_2 _ (by simp) ((zac (zat _ _) 0).trans rfl) (Kd.C_alloc (Kd.C_below HR.out HB.out) _) (by omega) HC.out).mono ?_; rintro e w2 ⟨rfl, hb2⟩; rw [HT.out]; have hk2 := zak (zat _ _) hb2; have hS2 : wr.heap.size < w2.heap.size := zaA hk2; have hd0 : w2.cell? ⟨wr.heap.size, 0, none⟩ = some (.string x.f0) := (zac hk2 0).trans rfl; have hd1 : w2.cell? ⟨wr.heap.size, 1, none⟩ = some (.int .i64 x.f1) := (zac hk2 1).trans rfl; have HK2 := Aside0.mk hk2; clear hk2) | (go_at_call 50; refine (name_told HN2.out _).mono ?_; rintro e w3 ⟨rfl, hb3⟩; have hk3 := zak HK2.out hb3; have hS3 : wr.heap.size < w3.heap.size := zaA hk3; have he1 : w3.cell? ⟨wr.heap.size, 1, none⟩ = some (.int .i64 x.f1) := (zac hk3 1).trans rfl; clear hk3))
       have hb5 := zah (zah (zab HB.out _) hb2) hb3
       have hm5 : w3.heap[w.heap.size]? = some (.cells #[.string a0_0, .int .i64 a0_1, .slice (some ad) l0_2.length c0_2] 43 (0, 0)) := zak (zak (zag HBLK.out _) hb2) hb3
       go_roundw
       case rel => exact ⟨k + 1, by go_num, by omega, all_next HALL.out HOK.out, hb5, hm5⟩
       case measure => simp [intOf]; omega
      ·have HOK : Aside0 (fieldOK l0_2 k = false) := ⟨by rw [HF.out, HT.out, HN2.out]; simp only [Bool.not_false, Bool.true_and, Bool.and_eq_false_iff, decide_eq_false_iff_not]; omega⟩
       go_wp2_with (first | (go_at_call 51; refine (may_twice x.f0 wr.heap.size k ad c0_2 l0_2 _ (by simp) ((zac (zat _ _) 0).trans rfl) (Kd.C_alloc (Kd.C_below HR.out HB.out) _) (by omega) HC.out).mono ?_; rintro e w2 ⟨rfl, hb2⟩; rw [HT.out]; have hk2 := zak (zat _ _) hb2; have hS2 : wr.heap.size < w2.heap.size := zaA hk2; have hd0 : w2.cell? ⟨wr.heap.size, 0, none⟩ = some (.string x.f0) := (zac hk2 0).trans rfl; have hd1 : w2.cell? ⟨wr.heap.size, 1, none⟩ = some (.int .i64 x.f1) := (zac hk2 1).trans rfl; have HK2 := Aside0.mk hk2; clear hk2) | (go_at_call 50; refine (name_told HN2.out _).mono ?_; rintro e w3 ⟨rfl, hb3⟩; have hk3 := zak HK2.out hb3; have hS3 : wr.heap.size < w3.heap.size := zaA hk3; have he1 : w3.cell? ⟨wr.heap.size, 1, none⟩ = some (.int .i64 x.f1) := (zac hk3 1).trans rfl; clear hk3))
       all_goals first
        | (exfalso; omega)
        | (go_ret; exact ⟨by rw [← HQ.out, may_hit k hlt HOK.out]; rfl, zah (zah (zab HB.out _) hb2) hb3⟩)
   ·have hq2 := may_all (nm := a0_0) (ver := a0_1) (fun i hi => HALL.out i (by omega))
    have hq3 : q = true := by
     rw [← HQ.out, hq2, HN.out]
     simp only [Bool.true_and, Bool.and_eq_true, decide_eq_true_eq]
     omega
    clear hq2
    subst hq3
    go_wp2
    go_ret
    exact ⟨rfl, HB.out⟩
theorem eqAField (d : Nat) (w : World) (x0 y0 : ByteArray) (x1 y1 : Int) :
  (Op.equalIn (d + 2) 67 (.agg #[.string x0, .int .i64 x1]) (.agg #[.string y0, .int .i64 y1])).run Try.prog w = .ok (x0.toList == y0.toList && (x1 == y1)) w := by
 refine eqA_of Try.underlying67 (by kernel_rfl) ?_
 refine eqf_cons (by rfl) (by go_simp; rfl) (by go_simp; rfl) (by go_simp) ?_
 exact eqf_last (by rfl) (by go_simp; rfl) (by go_simp; rfl) (by go_simp)
end Go.Proofs.Ytooemobolfoefaa.P


namespace Go.Proofs.Ytooemobolfoefaa.P
open Go.RowKit Go.Proofs.YtooemobolfoefaaW.PrintWords Go.Proofs.YtooemobolfoefaaW.PrintLast Go.Proofs.YtooemobolfoefaaW.PrintMore
set_option linter.unusedVariables false
theorem eqf_iff {α : Type} {p : α → α → Bool} {z : α} {a b : List α} : eqf p z a b = true ↔ a.length = b.length ∧ ∀ i, i < a.length → p (a.getD i z) (b.getD i z) = true := by
 unfold eqf
 simp only [Bool.and_eq_true, decide_eq_true_eq, List.all_eq_true, List.mem_range]
end Go.Proofs.Ytooemobolfoefaa.P


namespace Go.Proofs.Ytooemobolfoefaa.P
open Go.RowKit Go.Proofs.YtooemobolfoefaaW.PrintWords Go.Proofs.YtooemobolfoefaaW.PrintLast Go.Proofs.YtooemobolfoefaaW.PrintMore
attribute [local go_sem] zaX zaV zbf zbe zaO zaN zaW zaU   -- for this text's walks alone
set_option linter.unusedVariables false
set_option linter.unusedSimpArgs false
def le_Put.f (a0 : Int) : Option (List Int) := if 0 ≤ a0 then (if a0 < 18446744073709551616 then some (zaE a0.toNat) else none) else none
theorem le_or (n : Nat) : Go.bits .or .u8 (((n : Nat) : Int) % 256) 128 = ((n % 128 + 128 : Nat) : Int) := by
 have h : ∀ b : Fin 256, Go.bits .or .u8 ((b.val : Nat) : Int) 128 = ((b.val % 128 + 128 : Nat) : Int) := by decide +kernel
 have h2 := h ⟨n % 256, Nat.mod_lt _ (by decide)⟩
 have e : ((n : Nat) : Int) % 256 = ((n % 256 : Nat) : Int) := by omega
 rw [e, h2]
 show (((n % 256) % 128 + 128 : Nat) : Int) = _
 omega
def lePutRel (a : Nat) (w : World) (n : Nat) (v : Value) (w' : World) : Prop := ∃ acc : List Int, (1 ≤ n ∨ acc = []) ∧ acc ++ zaE n = zaE a ∧ n * 128 ^ acc.length ≤ a ∧ Kd.R (Kd.int .u8) 5 w' w.heap.size (fun _ => True) v acc ∧ Below w.heap.size w w'
set_option maxHeartbeats 1000000 in
set_option maxRecDepth 100000 in
theorem le_Put.calls (a0 : Int) (r : List Int) (w : World) (h : le_Put.f a0 = some r) :
  Calls Try.prog 41 #[.int .u64 a0] w fun e w' => ∃ v0_ : Value, e = .returned v0_ ∧ Kd.R (Kd.int .u8) 5 w' w.heap.size (fun _ => True) v0_ r ∧ Below w.heap.size w w' := by
 unfold le_Put.f at h
 by_cases h0 : 0 ≤ a0
 ·rw [if_pos h0] at h
  by_cases h1 : a0 < 18446744073709551616
  ·rw [if_pos h1] at h
   obtain rfl := Option.some.inj h
   clear h
   obtain ⟨a, rfl⟩ := Int.eq_ofNat_of_zero_le h0
   have ha : a < 18446744073709551616 := by omega
   rw [Int.toNat_natCast]
   show Calls _ _ _ _ (rowPost (Kd.int .u8) 5 (zaE a) w)
   have HA := Aside0.mk ha
   clear h0 h1 ha
   go_enter Try.func41, Try.ntmps41
   go_wp2
   go_step3
   go_wp2
   go_step3
   go_wp2
   go_loopg [0, 3] (a + 1) (fun kq v0 v3 w' => ∃ n : Nat, v0 = .int .u64 (n : Int) ∧ lePutRel a w n v3 w' ∧ Aside0 (n < kq))
   case atStart => exact ⟨a, rfl, ⟨[], .inr rfl, rfl, by simp, Kd.R_nil _ _ _ _ _, Below.refl _ _⟩, ⟨by omega⟩⟩
   case round =>
    obtain ⟨n, rfl, HR, HK⟩ := hrel
    obtain ⟨acc, h1n, hacc, hle, ho, hb⟩ := HR
    have HACC := Aside0.mk hacc
    have HLE := Aside0.mk hle
    have HO := Aside0.mk ho
    have HB := Aside0.mk hb
    clear hacc hle ho hb
    have hlen : acc.length ≤ 64 := by
     rcases h1n with h | rfl
     ·have := lePut_few HLE.out HA.out h; omega
     ·simp
    clear h1n
    by_cases hn : n < 128
    ·have hn' : ((n : Nat) : Int) < 128 := by omega
     go_wp2_with ((with_reducible refine zaz (b := .append) (xs := #[.tmp 6, .tmp 9]) rfl ?_); at_builtin; refine Kd.R_append (Kd.int .u8) (w0 := w) w.heap.size rfl (.tmp 6) (.tmp 9) 25 5 (.int .u8 0) 1 rfl Try.underlying25 info5 rfl (by decide) (by omega) u3 acc (n : Int) [.int .u8 (n : Int)] (fun _ => True) (fun _ => False) rfl rfl ?aP (fun _ hk => hk.elim) (fun _ _ => trivial) ?aO ?aB ?aS ?aL ?_; (case aP => exact rfl); (case aO => exact HO.out); (case aB => exact HB.out); (case aS => exact zao HB.out); (case aL => omega); intro v1 w2 ho hb hg hat)
     rw [Exit.noGoto_ret]
     go_ret
     exact ⟨v1, rfl, by have h := HACC.out; rw [zaZ hn] at h; rw [← h]; exact ho, hb⟩
    ·have hn' : ¬ ((n : Nat) : Int) < 128 := by omega
     have he := le_or n
     go_wp2_with ((with_reducible refine zaz (b := .append) (xs := #[.tmp 11, .tmp 15]) rfl ?_); at_builtin; refine Kd.R_append (Kd.int .u8) (w0 := w) w.heap.size rfl (.tmp 11) (.tmp 15) 25 5 (.int .u8 0) 1 rfl Try.underlying25 info5 rfl (by decide) (by omega) u3 acc ((n % 128 + 128 : Nat) : Int) [.int .u8 ((n % 128 + 128 : Nat) : Int)] (fun _ => True) (fun _ => False) rfl rfl ?aP (fun _ hk => hk.elim) (fun _ _ => trivial) ?aO ?aB ?aS ?aL ?_; (case aP => exact rfl); (case aO => exact HO.out); (case aB => exact HB.out); (case aS => exact zao HB.out); (case aL => omega); intro v1 w2 ho hb hg hat)
     cases gk with
     | zero => exact absurd HK.out (by omega)
     | succ k1 =>
      go_roundg k1
      case measure => omega
      case rel => exact ⟨n / 128, by simp, ⟨acc ++ [((n % 128 + 128 : Nat) : Int)], .inl (by omega), by have h := HACC.out; rw [zbm hn] at h; simpa using h, by have h := HLE.out; rw [List.length_append, List.length_singleton, Nat.pow_succ, Nat.mul_comm (128 ^ _) 128, ← Nat.mul_assoc]; exact Nat.le_trans (Nat.mul_le_mul_right _ (Nat.div_mul_le_self n 128)) h, ho, hb⟩, ⟨by have := HK.out; omega⟩⟩
  ·rw [if_neg h1] at h
   exact absurd h (by simp)
 ·rw [if_neg h0] at h
  exact absurd h (by simp)
theorem le_Put.told (a : Nat) (w : World) (h : a < 18446744073709551616) : Calls Try.prog 41 #[.int .u64 (a : Int)] w (rowPost (Kd.int .u8) 5 (zaE a) w) :=
 le_Put.calls (a : Int) (zaE a) w (by unfold le_Put.f; rw [if_pos (by omega), if_pos (by omega), Int.toNat_natCast])
def mayV (x : SValue) : Bool := decide ((x.f0 = 0 ∧ x.f2.toList = []) ∨ (x.f0 = 1 ∧ x.f2.toList = [] ∧ 0 ≤ x.f1 ∧ x.f1 < 2) ∨ (x.f0 = 2 ∧ x.f1 = 0 ∧ x.f2.size ≤ 40) ∨ (x.f0 = 3 ∧ x.f2.toList = [] ∧ 0 ≤ x.f1 ∧ x.f1 ≤ 1125899906842624))
theorem mayV_iff {x : SValue} : mayV x = true ↔ (x.f0 = 0 ∧ x.f2.toList = []) ∨ (x.f0 = 1 ∧ x.f2.toList = [] ∧ 0 ≤ x.f1 ∧ x.f1 < 2) ∨ (x.f0 = 2 ∧ x.f1 = 0 ∧ x.f2.size ≤ 40) ∨ (x.f0 = 3 ∧ x.f2.toList = [] ∧ 0 ≤ x.f1 ∧ x.f1 ≤ 1125899906842624) := by
 unfold mayV; rw [decide_eq_true_eq]
def heldV (x : SValue) : Value := if mayV x = true then (if x.f0 = 0 then .iface 3 (.int .i64 x.f1) else if x.f0 = 1 then .iface 4 (.bool (x.f1 == 1)) else if x.f0 = 2 then .iface 9 (.string x.f2) else .iface 114 (.int .i64 x.f1)) else .nilIface
theorem heldV_no {x : SValue} (h : mayV x = false) : heldV x = .nilIface := by unfold heldV; rw [if_neg (by rw [h]; simp)]
theorem heldV_of {x : SValue} (h : mayV x = true) : heldV x = (if x.f0 = 0 then .iface 3 (.int .i64 x.f1) else if x.f0 = 1 then .iface 4 (.bool (x.f1 == 1)) else if x.f0 = 2 then .iface 9 (.string x.f2) else .iface 114 (.int .i64 x.f1)) := by unfold heldV; rw [if_pos h]
theorem zaR {s : ByteArray} (h : s.toList = []) : s = ⟨#[]⟩ := toList_inj (h.trans (by decide +kernel))
def valPost (v : Value) (w : World) (e : Ending) (w' : World) : Prop := e = .returned v ∧ Below w.heap.size w w'
set_option maxHeartbeats 4000000 in
theorem held_told (x : SValue) (w : World) (hb : -9223372036854775808 ≤ x.f1 ∧ x.f1 ≤ 9223372036854775807) : Calls Try.prog 68 #[.agg #[.int .i64 x.f0, .int .i64 x.f1, .string x.f2]] w (valPost (heldV x) w) := by
 obtain ⟨k, n, s⟩ := x
 replace hb : -9223372036854775808 ≤ n ∧ n ≤ 9223372036854775807 := hb
 show Calls _ _ #[.agg #[.int .i64 k, .int .i64 n, .string s]] w _
 obtain ⟨v, hv⟩ : ∃ v, heldV ⟨k, n, s⟩ = v := ⟨_, rfl⟩
 rw [hv]
 by_cases hs : s.toList = []
 ·obtain rfl := zaR hs
  have hmay := @mayV_iff ⟨k, n, ⟨#[]⟩⟩
  have hk : k = 0 ∨ k = 1 ∨ k = 2 ∨ k = 3 ∨ (k ≠ 0 ∧ k ≠ 1 ∧ k ≠ 2 ∧ k ≠ 3) := by omega
  rcases hk with rfl | rfl | rfl | rfl | ⟨h0, h1, h2, h3⟩
  ·rw [heldV_of (hmay.2 (.inl ⟨rfl, hs⟩))] at hv
   subst hv
   clear hmay hs
   go_enter Try.func68, Try.ntmps68
   go_wp2
   go_ret
   exact ⟨rfl, zab (Below.refl _ _) _⟩
  ·by_cases hn : 0 ≤ n ∧ n < 2
   ·rw [heldV_of (hmay.2 (.inr (.inl ⟨rfl, hs, hn⟩)))] at hv
    subst hv
    clear hmay hs
    have hn2 : n = 0 ∨ n = 1 := by omega
    rcases hn2 with rfl | rfl
    all_goals
     clear hn
     go_enter Try.func68, Try.ntmps68
     go_wp2
     go_ret
     exact ⟨rfl, zab (Below.refl _ _) _⟩
   ·rw [heldV_no (by rw [← Bool.not_eq_true, hmay]; simp only; omega)] at hv
    subst hv
    clear hmay hs
    have hnb : 2 ≤ IntKind.wrap .u64 n := by
     rw [show IntKind.wrap .u64 n = n % 18446744073709551616 from rfl]
     have := hb
     omega
    clear hn
    go_enter Try.func68, Try.ntmps68
    go_wp2
    go_ret
    exact ⟨rfl, zab (Below.refl _ _) _⟩
  ·by_cases hn : n = 0
   ·subst hn
    rw [heldV_of (hmay.2 (.inr (.inr (.inl ⟨rfl, rfl, by decide⟩))))] at hv
    subst hv
    clear hmay hs
    go_enter Try.func68, Try.ntmps68
    go_wp2
    go_ret
    exact ⟨rfl, zab (Below.refl _ _) _⟩
   ·rw [heldV_no (by rw [← Bool.not_eq_true, hmay]; simp only; omega)] at hv
    subst hv
    have hn2 : (n == 0) = false := by simpa using hn
    clear hmay hs hn
    go_enter Try.func68, Try.ntmps68
    go_wp2
    go_ret
    exact ⟨rfl, zab (Below.refl _ _) _⟩
  ·by_cases hn : 0 ≤ n ∧ n ≤ 1125899906842624
   ·rw [heldV_of (hmay.2 (.inr (.inr (.inr ⟨rfl, hs, hn⟩))))] at hv
    subst hv
    obtain ⟨hn1, hn2⟩ := hn
    clear hmay hs
    go_enter Try.func68, Try.ntmps68
    go_wp2
    go_ret
    exact ⟨rfl, zab (Below.refl _ _) _⟩
   ·rw [heldV_no (by rw [← Bool.not_eq_true, hmay]; simp only; omega)] at hv
    subst hv
    clear hmay hs
    have hn2 : n < 0 ∨ 1125899906842624 < n := by omega
    rcases hn2 with hn2 | hn2
    all_goals
     clear hn
     go_enter Try.func68, Try.ntmps68
     go_wp2
     go_ret
     exact ⟨rfl, zab (Below.refl _ _) _⟩
  ·rw [heldV_no (by rw [← Bool.not_eq_true, hmay]; simp only; omega)] at hv
   subst hv
   have e0 : (k == 0) = false := by simpa using h0
   have e1 : (k == 1) = false := by simpa using h1
   have e2 : (k == 2) = false := by simpa using h2
   have e3 : (k == 3) = false := by simpa using h3
   have e2' : (k != 2) = true := by simpa using h2
   clear hmay hs h0 h1 h2 h3
   go_enter Try.func68, Try.ntmps68
   go_wp2
   go_ret
   exact ⟨rfl, zab (Below.refl _ _) _⟩
 ·have hse : (s.toList == []) = false := by simpa using hs
  have hse2 : s.toList.isEmpty = false := by simpa using hs
  have hmay := @mayV_iff ⟨k, n, s⟩
  by_cases hk : k = 2
  ·subst hk
   by_cases hn : n = 0 ∧ s.size ≤ 40
   ·obtain ⟨rfl, h40⟩ := hn
    rw [heldV_of (hmay.2 (.inr (.inr (.inl ⟨rfl, rfl, h40⟩))))] at hv
    subst hv
    clear hmay
    go_enter Try.func68, Try.ntmps68
    go_wp2
    go_ret
    exact ⟨rfl, zab (Below.refl _ _) _⟩
   ·rw [heldV_no (by rw [← Bool.not_eq_true, hmay]; simp only [hs, false_and, and_false, or_false, false_or]; omega)] at hv
    subst hv
    by_cases hn0 : n = 0
    ·subst hn0
     have h40 : 40 < s.size := by omega
     clear hmay hn
     go_enter Try.func68, Try.ntmps68
     go_wp2
     go_ret
     exact ⟨rfl, zab (Below.refl _ _) _⟩
    ·have hn2 : (n == 0) = false := by simpa using hn0
     clear hmay hn hn0
     go_enter Try.func68, Try.ntmps68
     go_wp2
     go_ret
     exact ⟨rfl, zab (Below.refl _ _) _⟩
  ·rw [heldV_no (by rw [← Bool.not_eq_true, hmay]; simp only [hs, false_and, and_false, or_false, false_or]; omega)] at hv
   subst hv
   have e2 : (k == 2) = false := by simpa using hk
   have e2' : (k != 2) = true := by simpa using hk
   clear hmay hk
   go_enter Try.func68, Try.ntmps68
   go_wp2
   go_ret
   exact ⟨rfl, zab (Below.refl _ _) _⟩
def le_Zig.f (a0 : Int) : Option (Int) := some (Go.bits .xor .u64 (IntKind.u64.wrap ((IntKind.u64.wrap (a0)) * 2)) (IntKind.u64.wrap (a0 / 9223372036854775808)))
set_option maxHeartbeats 8000000 in
set_option maxRecDepth 100000 in
theorem le_Zig.calls (a0 : Int) (r : Int) (w : World) (h : le_Zig.f a0 = some r) :
  Calls Try.prog 69 #[.int .i64 a0] w fun e w' => e = .returned (.int .u64 r) ∧ Drawn0 w w' := by
 have H : (some (Go.bits .xor .u64 (IntKind.u64.wrap ((IntKind.u64.wrap (a0)) * 2)) (IntKind.u64.wrap (a0 / 9223372036854775808)))) = some r := h
 clear h
 obtain rfl := Option.some.inj H
 go_enter Try.func69, Try.ntmps69
 go_wp2
 go_ret
 exact ⟨by first | rfl | (simp; done) | (simp [*]; done), by repeat (first | exact Drawn0.refl _ | apply Drawn0.step)⟩
theorem zig_is {n : Int} (h0 : -9223372036854775808 ≤ n) (h1 : n ≤ 9223372036854775807) : le_Zig.f n = some (zigN n : Int) := by
 unfold le_Zig.f zigN
 by_cases h : 0 ≤ n
 ·rw [if_pos h, show n / 9223372036854775808 = 0 from by omega, wrap_u64 0, show (0 : Int) % 18446744073709551616 = 0 from rfl, wrap_u64 n, wrap_u64]
  rw [xor_zeroU _ (by rw [ofInt_u64 (by omega) (by omega), wrap_u64]; omega)]
  congr 1
  omega
 ·rw [if_neg h, show n / 9223372036854775808 = -1 from by omega, wrap_u64 (-1), show (-1 : Int) % 18446744073709551616 = 18446744073709551615 from by decide, wrap_u64 n, wrap_u64]
  have e : n % 18446744073709551616 * 2 % 18446744073709551616 = 2 * n + 18446744073709551616 := by omega
  rw [e]
  show some (IntKind.wrap .u64 (((BitVec.ofInt 64 (2 * n + 18446744073709551616) ^^^ BitVec.ofInt 64 18446744073709551615).toNat : Nat) : Int)) = _
  rw [show BitVec.ofInt 64 18446744073709551615 = BitVec.allOnes 64 from by decide, not64, ofInt_u64 (by omega) (by omega), wrap_u64]
  congr 1
  omega
def numV (x : SValue) : Nat := if x.f0 = 0 then zigN x.f1 else if x.f0 = 2 then x.f2.size else x.f1.toNat
def bytesV (x : SValue) : List Int := x.f0 :: (zaE (numV x) ++ bytesOf x.f2)
theorem numV_lt {x : SValue} (hb : -9223372036854775808 ≤ x.f1 ∧ x.f1 ≤ 9223372036854775807) (h : mayV x = true) : numV x < 18446744073709551616 := by
 have h2 := mayV_iff.1 h
 have := zig_lt hb.1 hb.2
 unfold numV
 split
 ·exact this
 ·split <;> omega
theorem lePut_len {n : Nat} (h : n < 18446744073709551616) : (zaE n).length ≤ 10 := by
 have h2 := getN_put n [] h
 rw [List.append_nil] at h2
 exact (getN_used h2).2.2
theorem bytesOf_nil : bytesOf (⟨#[]⟩ : ByteArray) = [] := rfl
def getV (l : List Int) : Option (SValue × Nat) := match l with
 | [] => none
 | k :: r => match getN r with
  | none => none
  | some (n, u) => if k = 0 then some (⟨0, zagN n, ⟨#[]⟩⟩, u + 1)
   else if k = 2 then (if n ≤ 40 ∧ n ≤ r.length - u then some (⟨2, 0, strOfNums ((r.drop u).take n)⟩, u + 1 + n) else none)
   else if (k = 1 ∧ n < 2) ∨ (k = 3 ∧ n ≤ 1125899906842624) then some (⟨k, (n : Int), ⟨#[]⟩⟩, u + 1) else none
def gotV (r : Option (SValue × Nat)) : SValue × Nat × Bool := match r with
 | some (x, n) => (x, n, true)
 | none => (⟨0, 0, ⟨#[]⟩⟩, 0, false)
def valPost3 (x : SValue) (n : Nat) (b : Bool) (w : World) (e : Ending) (w' : World) : Prop := e = .returned (.tuple #[.agg #[.int .i64 x.f0, .int .i64 x.f1, .string x.f2], .int .i64 (n : Int), .bool b]) ∧ Below w.heap.size w w'
theorem getV_rest {k : Int} {r : List Int} {n u : Nat} (hg : getN r = some (n, u)) (h0 : k ≠ 0) (h2 : k ≠ 2) (hn : n < 18446744073709551616) :
  gotV (getV (k :: r)) = if mayV ⟨k, IntKind.wrap .i64 (n : Int), ⟨#[]⟩⟩ then (⟨k, IntKind.wrap .i64 (n : Int), ⟨#[]⟩⟩, u + 1, true) else (⟨0, 0, ⟨#[]⟩⟩, 0, false) := by
 have hw : IntKind.wrap .i64 (n : Int) = wrap64 (n : Int) := wrap_i64 _
 have he : (⟨#[]⟩ : ByteArray).toList = [] := by decide +kernel
 unfold getV
 simp only [hg]
 rw [if_neg h0, if_neg h2, hw]
 have hiff := @mayV_iff ⟨k, wrap64 (n : Int), ⟨#[]⟩⟩
 simp only [he, true_and, and_true] at hiff
 by_cases hc : (k = 1 ∧ n < 2) ∨ (k = 3 ∧ n ≤ 1125899906842624)
 ·have e : wrap64 (n : Int) = (n : Int) := by unfold wrap64; omega
  rw [if_pos hc]
  rw [e] at hiff ⊢
  rw [if_pos (hiff.2 (by rcases hc with ⟨h, h3⟩ | ⟨h, h3⟩; exact .inr (.inl ⟨h, by omega, by omega⟩); exact .inr (.inr (.inr ⟨h, by omega, by omega⟩))))]
  rfl
 ·rw [if_neg hc, if_neg]
  ·rfl
  ·rw [hiff]
   unfold wrap64
   omega
theorem as_int_int (n : Int) (W : World) : (Instr.typeAssert (.iface 3 (.int .i64 n)) 20 3 true).run Try.prog W = .ok (.tuple #[(.int .i64 n : Value), .bool true]) W := by kernel_rfl
theorem as_int_bool (n : Int) (W : World) : (Instr.typeAssert (.iface 3 (.int .i64 n)) 20 4 true).run Try.prog W = .ok (.tuple #[Value.bool false, .bool false]) W := by kernel_rfl
theorem as_int_str (n : Int) (W : World) : (Instr.typeAssert (.iface 3 (.int .i64 n)) 20 9 true).run Try.prog W = .ok (.tuple #[Value.string ⟨#[]⟩, .bool false]) W := by kernel_rfl
theorem as_int_time (n : Int) (W : World) : (Instr.typeAssert (.iface 3 (.int .i64 n)) 20 114 true).run Try.prog W = .ok (.tuple #[Value.int .i64 0, .bool false]) W := by kernel_rfl
theorem as_bool_int (n : Bool) (W : World) : (Instr.typeAssert (.iface 4 (.bool n)) 20 3 true).run Try.prog W = .ok (.tuple #[Value.int .i64 0, .bool false]) W := by kernel_rfl
theorem as_bool_bool (n : Bool) (W : World) : (Instr.typeAssert (.iface 4 (.bool n)) 20 4 true).run Try.prog W = .ok (.tuple #[(.bool n : Value), .bool true]) W := by kernel_rfl
theorem as_bool_str (n : Bool) (W : World) : (Instr.typeAssert (.iface 4 (.bool n)) 20 9 true).run Try.prog W = .ok (.tuple #[Value.string ⟨#[]⟩, .bool false]) W := by kernel_rfl
theorem as_bool_time (n : Bool) (W : World) : (Instr.typeAssert (.iface 4 (.bool n)) 20 114 true).run Try.prog W = .ok (.tuple #[Value.int .i64 0, .bool false]) W := by kernel_rfl
theorem as_str_int (n : ByteArray) (W : World) : (Instr.typeAssert (.iface 9 (.string n)) 20 3 true).run Try.prog W = .ok (.tuple #[Value.int .i64 0, .bool false]) W := by kernel_rfl
theorem as_str_bool (n : ByteArray) (W : World) : (Instr.typeAssert (.iface 9 (.string n)) 20 4 true).run Try.prog W = .ok (.tuple #[Value.bool false, .bool false]) W := by kernel_rfl
theorem as_str_str (n : ByteArray) (W : World) : (Instr.typeAssert (.iface 9 (.string n)) 20 9 true).run Try.prog W = .ok (.tuple #[(.string n : Value), .bool true]) W := by kernel_rfl
theorem as_str_time (n : ByteArray) (W : World) : (Instr.typeAssert (.iface 9 (.string n)) 20 114 true).run Try.prog W = .ok (.tuple #[Value.int .i64 0, .bool false]) W := by kernel_rfl
theorem as_time_int (n : Int) (W : World) : (Instr.typeAssert (.iface 114 (.int .i64 n)) 20 3 true).run Try.prog W = .ok (.tuple #[Value.int .i64 0, .bool false]) W := by kernel_rfl
theorem as_time_bool (n : Int) (W : World) : (Instr.typeAssert (.iface 114 (.int .i64 n)) 20 4 true).run Try.prog W = .ok (.tuple #[Value.bool false, .bool false]) W := by kernel_rfl
theorem as_time_str (n : Int) (W : World) : (Instr.typeAssert (.iface 114 (.int .i64 n)) 20 9 true).run Try.prog W = .ok (.tuple #[Value.string ⟨#[]⟩, .bool false]) W := by kernel_rfl
theorem as_time_time (n : Int) (W : World) : (Instr.typeAssert (.iface 114 (.int .i64 n)) 20 114 true).run Try.prog W = .ok (.tuple #[(.int .i64 n : Value), .bool true]) W := by kernel_rfl
theorem as_nil_int (W : World) : (Instr.typeAssert .nilIface 20 3 true).run Try.prog W = .ok (.tuple #[Value.int .i64 0, .bool false]) W := by kernel_rfl
theorem as_nil_bool (W : World) : (Instr.typeAssert .nilIface 20 4 true).run Try.prog W = .ok (.tuple #[Value.bool false, .bool false]) W := by kernel_rfl
theorem as_nil_str (W : World) : (Instr.typeAssert .nilIface 20 9 true).run Try.prog W = .ok (.tuple #[Value.string ⟨#[]⟩, .bool false]) W := by kernel_rfl
theorem as_nil_time (W : World) : (Instr.typeAssert .nilIface 20 114 true).run Try.prog W = .ok (.tuple #[Value.int .i64 0, .bool false]) W := by kernel_rfl
set_option maxHeartbeats 4000000 in
set_option maxRecDepth 100000 in
theorem value_Put.told (x : SValue) (w : World) (hb : -9223372036854775808 ≤ x.f1 ∧ x.f1 ≤ 9223372036854775807) {b : Bool} (hm : mayV x = b) {P : List Int} (hP : (if b then bytesV x else []) = P) : Calls Try.prog 59 #[.agg #[.int .i64 x.f0, .int .i64 x.f1, .string x.f2]] w (bytesPost 5 P b w) := by
 obtain ⟨k, n, s⟩ := x
 replace hb : -9223372036854775808 ≤ n ∧ n ≤ 9223372036854775807 := hb
 show Calls _ _ #[.agg #[.int .i64 k, .int .i64 n, .string s]] w _
 have HB := Aside0.mk hb
 cases b with
 | false =>
  subst hP
  have HV := Aside0.mk (heldV_no hm)
  have a1 := as_nil_int
  have a2 := as_nil_bool
  have a3 := as_nil_time
  have a4 := as_nil_str
  clear hm hb
  go_enter Try.func59, Try.ntmps59
  go_wp2_with (go_at_call 68; refine (held_told ⟨k, n, s⟩ _ HB.out).mono ?_; rw [HV.out]; rintro e w1 ⟨rfl, hb1⟩)
  go_ret2
  exact ⟨_, rfl, Kd.R_nil _ _ _ _ _, zah (zab (zab (Below.refl _ _) _) _) hb1⟩
 | true =>
  have hiff := mayV_iff.1 hm
  have hnum := numV_lt (x := ⟨k, n, s⟩) hb hm
  have HV := Aside0.mk (heldV_of hm)
  have hP2 : k :: (zaE (numV ⟨k, n, s⟩) ++ bytesOf s) = P := hP
  have hlen := lePut_len hnum
  clear hm hP
  rcases hiff with ⟨h0, hs⟩ | ⟨h0, hs, h1, h2⟩ | ⟨h0, h1, h2⟩ | ⟨h0, hs, h1, h2⟩
  ·replace h0 : k = 0 := h0
   subst h0
   replace hs : s.toList = [] := hs
   obtain rfl := zaR hs
   clear hs
   have hq : numV ⟨0, n, ⟨#[]⟩⟩ = zigN n := rfl
   rw [hq] at hP2 hlen hnum
   clear hq
   rw [bytesOf_nil, List.append_nil] at hP2
   subst hP2
   replace HV : Aside0 (heldV ⟨0, n, ⟨#[]⟩⟩ = .iface 3 (.int .i64 n)) := ⟨HV.out⟩
   have a0 := as_int_int
   have a1 := as_int_bool
   have a2 := as_int_time
   have a3 := as_int_str
   have HZ := Aside0.mk (zig_is hb.1 hb.2)
   clear hb
   go_enter Try.func59, Try.ntmps59
   go_wp2_with (first
    | (go_at_call 68; refine (held_told ⟨0, n, ⟨#[]⟩⟩ _ HB.out).mono ?_; rw [HV.out]; rintro e w1 ⟨rfl, hb1⟩; have HO1 := Aside0.mk ((own8_one (w.alloc (.cells #[.int .i64 0, .int .i64 n, .string ⟨#[]⟩] 73)) (e := 5) (base := w.heap.size) 0 (zao (zab (Below.refl _ _) _))).below hb1); have HB1 := Aside0.mk (zah (zab (zab (Below.refl _ _) _) _) hb1); have HK1 := Aside0.mk (zak (zag (zat w (.cells #[.int .i64 0, .int .i64 n, .string ⟨#[]⟩] 73)) _) hb1); have hc1 : ∀ i, w1.cell? ⟨w.heap.size, i, none⟩ = (#[.int .i64 0, .int .i64 n, .string ⟨#[]⟩] : Array Value)[i]? := fun i => zac HK1.out i; rw [World.size_alloc] at HO1; clear hb1)
    | (go_at_call 69; refine (le_Zig.calls n _ _ HZ.out).mono ?_; rintro e w2 ⟨rfl, hd2⟩; have hb2 := hd2.below)
    | (go_at_call 41; refine (le_Put.told (zigN n) _ hnum).mono ?_; rintro e w3 ⟨v3, rfl, ho3, hb3⟩; obtain ⟨A3, c3, rfl, hc3, hr3⟩ := Own8.reads ho3; have HR3 := Aside0.mk hr3; have HO3 := Aside0.mk (Own8.below (HO1.out.below hb2) hb3); have HB3 := Aside0.mk (zah (zah HB1.out hb2) hb3); clear ho3 hr3 hb3)
    | ((with_reducible refine zaz (b := .append) (xs := #[.tmp 18, .tmp 21]) rfl ?_); at_builtin; refine app8 (w0 := w) w.heap.size rfl _ _ 25 5 rfl Try.underlying25 info5 _ [0] (zaE (zigN n)) A3 _ c3 rfl rfl HO3.out HR3.out HB3.out (zao HB3.out) (by simp only [List.length_singleton]; omega) ?_; intro v4 w4 ho4 hb4 hg4; have HO4 := Aside0.mk ho4; have HB4 := Aside0.mk hb4; clear ho4 hb4 hg4)
    )
   go_ret2
   exact ⟨_, rfl, HO4.out, HB4.out⟩
  ·replace h0 : k = 1 := h0
   subst h0
   replace hs : s.toList = [] := hs
   obtain rfl := zaR hs
   clear hs
   replace h1 : 0 ≤ n := h1
   obtain ⟨m, rfl⟩ := Int.eq_ofNat_of_zero_le h1
   have hq : numV ⟨1, (m : Int), ⟨#[]⟩⟩ = m := rfl
   rw [hq] at hP2 hlen hnum
   clear hq
   rw [bytesOf_nil, List.append_nil] at hP2
   subst hP2
   replace HV : Aside0 (heldV ⟨1, (m : Int), ⟨#[]⟩⟩ = .iface 4 (.bool ((m : Int) == 1))) := ⟨HV.out⟩
   have a0 := as_bool_int
   have a1 := as_bool_bool
   have a2 := as_bool_time
   have a3 := as_bool_str
   have hu := u64_small' (n := m) (by omega)
   have hu0 : (0 : Int) ≤ (m : Int) := by omega
   clear h1 h2
   clear hb
   go_enter Try.func59, Try.ntmps59
   go_wp2_with (first
    | (go_at_call 68; refine (held_told ⟨1, (m : Int), ⟨#[]⟩⟩ _ HB.out).mono ?_; rw [HV.out]; rintro e w1 ⟨rfl, hb1⟩; have HO1 := Aside0.mk ((own8_one (w.alloc (.cells #[.int .i64 1, .int .i64 (m : Int), .string ⟨#[]⟩] 73)) (e := 5) (base := w.heap.size) 1 (zao (zab (Below.refl _ _) _))).below hb1); have HB1 := Aside0.mk (zah (zab (zab (Below.refl _ _) _) _) hb1); have HK1 := Aside0.mk (zak (zag (zat w (.cells #[.int .i64 1, .int .i64 (m : Int), .string ⟨#[]⟩] 73)) _) hb1); have hc1 : ∀ i, w1.cell? ⟨w.heap.size, i, none⟩ = (#[.int .i64 1, .int .i64 (m : Int), .string ⟨#[]⟩] : Array Value)[i]? := fun i => zac HK1.out i; rw [World.size_alloc] at HO1; clear hb1)
    | (go_at_call 41; refine (le_Put.told (m) _ hnum).mono ?_; rintro e w3 ⟨v3, rfl, ho3, hb3⟩; obtain ⟨A3, c3, rfl, hc3, hr3⟩ := Own8.reads ho3; have HR3 := Aside0.mk hr3; have HO3 := Aside0.mk (Own8.below HO1.out hb3); have HB3 := Aside0.mk (zah HB1.out hb3); clear ho3 hr3 hb3)
    | ((with_reducible refine zaz (b := .append) (xs := #[.tmp 30, .tmp 34]) rfl ?_); at_builtin; refine app8 (w0 := w) w.heap.size rfl _ _ 25 5 rfl Try.underlying25 info5 _ [1] (zaE (m)) A3 _ c3 rfl rfl HO3.out HR3.out HB3.out (zao HB3.out) (by simp only [List.length_singleton]; omega) ?_; intro v4 w4 ho4 hb4 hg4; have HO4 := Aside0.mk ho4; have HB4 := Aside0.mk hb4; clear ho4 hb4 hg4)
    )
   go_ret2
   exact ⟨_, rfl, HO4.out, HB4.out⟩
  ·replace h0 : k = 2 := h0
   subst h0
   replace h1 : n = 0 := h1
   replace h2 : s.size ≤ 40 := h2
   subst h1
   have hq : numV ⟨2, 0, s⟩ = s.size := rfl
   rw [hq] at hP2 hlen hnum
   clear hq
   subst hP2
   replace HV : Aside0 (heldV ⟨2, 0, s⟩ = .iface 9 (.string s)) := ⟨HV.out⟩
   have a0 := as_str_int
   have a1 := as_str_bool
   have a2 := as_str_time
   have a3 := as_str_str
   have hu := u64_small' (n := s.size) (by omega)
   clear hb
   go_enter Try.func59, Try.ntmps59
   go_wp2_with (first
    | (go_at_call 68; refine (held_told ⟨2, 0, s⟩ _ HB.out).mono ?_; rw [HV.out]; rintro e w1 ⟨rfl, hb1⟩; have HO1 := Aside0.mk ((own8_one (w.alloc (.cells #[.int .i64 2, .int .i64 0, .string s] 73)) (e := 5) (base := w.heap.size) 2 (zao (zab (Below.refl _ _) _))).below hb1); have HB1 := Aside0.mk (zah (zab (zab (Below.refl _ _) _) _) hb1); have HK1 := Aside0.mk (zak (zag (zat w (.cells #[.int .i64 2, .int .i64 0, .string s] 73)) _) hb1); have hc1 : ∀ i, w1.cell? ⟨w.heap.size, i, none⟩ = (#[.int .i64 2, .int .i64 0, .string s] : Array Value)[i]? := fun i => zac HK1.out i; rw [World.size_alloc] at HO1; clear hb1)
    | (go_at_call 41; refine (le_Put.told (s.size) _ hnum).mono ?_; rintro e w3 ⟨v3, rfl, ho3, hb3⟩; obtain ⟨A3, c3, rfl, hc3, hr3⟩ := Own8.reads ho3; have HR3 := Aside0.mk hr3; have HO3 := Aside0.mk (Own8.below HO1.out hb3); have HB3 := Aside0.mk (zah HB1.out hb3); clear ho3 hr3 hb3)
    | ((with_reducible refine zaz (b := .append) (xs := #[.tmp 39, .tmp 43]) rfl ?_); at_builtin; refine app8 (w0 := w) w.heap.size rfl _ _ 25 5 rfl Try.underlying25 info5 _ [2] (zaE (s.size)) A3 _ c3 rfl rfl HO3.out HR3.out HB3.out (zao HB3.out) (by simp only [List.length_singleton]; omega) ?_; intro v4 w4 ho4 hb4 hg4; have HO4 := Aside0.mk ho4; have HB4 := Aside0.mk hb4; clear ho4 hb4 hg4)
    | ((with_reducible refine zaz (b := .append) (xs := #[.tmp 45, .tmp 46]) rfl ?_); at_builtin; refine app8s (w0 := w) w.heap.size rfl _ _ 25 9 5 rfl Try.underlying25 Try.underlying9 info5 v4 _ s rfl rfl HO4.out HB4.out (zao HB4.out) (by simp only [List.length_append, List.length_singleton]; omega) ?_; intro v5 w5 ho5 hb5 hg5; have HO5 := Aside0.mk ho5; have HB5 := Aside0.mk hb5; clear ho5 hb5 hg5)
    )
   go_ret2
   exact ⟨_, rfl, HO5.out, HB5.out⟩
  ·replace h0 : k = 3 := h0
   subst h0
   replace hs : s.toList = [] := hs
   obtain rfl := zaR hs
   clear hs
   replace h1 : 0 ≤ n := h1
   obtain ⟨m, rfl⟩ := Int.eq_ofNat_of_zero_le h1
   have hq : numV ⟨3, (m : Int), ⟨#[]⟩⟩ = m := rfl
   rw [hq] at hP2 hlen hnum
   clear hq
   rw [bytesOf_nil, List.append_nil] at hP2
   subst hP2
   replace HV : Aside0 (heldV ⟨3, (m : Int), ⟨#[]⟩⟩ = .iface 114 (.int .i64 (m : Int))) := ⟨HV.out⟩
   have a0 := as_time_int
   have a1 := as_time_bool
   have a2 := as_time_time
   have a3 := as_time_str
   have hu := u64_small' (n := m) (by omega)
   have hu0 : (0 : Int) ≤ (m : Int) := by omega
   clear h1 h2
   clear hb
   go_enter Try.func59, Try.ntmps59
   go_wp2_with (first
    | (go_at_call 68; refine (held_told ⟨3, (m : Int), ⟨#[]⟩⟩ _ HB.out).mono ?_; rw [HV.out]; rintro e w1 ⟨rfl, hb1⟩; have HO1 := Aside0.mk ((own8_one (w.alloc (.cells #[.int .i64 3, .int .i64 (m : Int), .string ⟨#[]⟩] 73)) (e := 5) (base := w.heap.size) 3 (zao (zab (Below.refl _ _) _))).below hb1); have HB1 := Aside0.mk (zah (zab (zab (Below.refl _ _) _) _) hb1); have HK1 := Aside0.mk (zak (zag (zat w (.cells #[.int .i64 3, .int .i64 (m : Int), .string ⟨#[]⟩] 73)) _) hb1); have hc1 : ∀ i, w1.cell? ⟨w.heap.size, i, none⟩ = (#[.int .i64 3, .int .i64 (m : Int), .string ⟨#[]⟩] : Array Value)[i]? := fun i => zac HK1.out i; rw [World.size_alloc] at HO1; clear hb1)
    | (go_at_call 41; refine (le_Put.told (m) _ hnum).mono ?_; rintro e w3 ⟨v3, rfl, ho3, hb3⟩; obtain ⟨A3, c3, rfl, hc3, hr3⟩ := Own8.reads ho3; have HR3 := Aside0.mk hr3; have HO3 := Aside0.mk (Own8.below HO1.out hb3); have HB3 := Aside0.mk (zah HB1.out hb3); clear ho3 hr3 hb3)
    | ((with_reducible refine zaz (b := .append) (xs := #[.tmp 30, .tmp 34]) rfl ?_); at_builtin; refine app8 (w0 := w) w.heap.size rfl _ _ 25 5 rfl Try.underlying25 info5 _ [3] (zaE (m)) A3 _ c3 rfl rfl HO3.out HR3.out HB3.out (zao HB3.out) (by simp only [List.length_singleton]; omega) ?_; intro v4 w4 ho4 hb4 hg4; have HO4 := Aside0.mk ho4; have HB4 := Aside0.mk hb4; clear ho4 hb4 hg4)
    )
   go_ret2
   exact ⟨_, rfl, HO4.out, HB4.out⟩
end Go.Proofs.Ytooemobolfoefaa.P


namespace Go.Proofs.Ytooemobolfoefaa.P
open Go.RowKit Go.Proofs.YtooemobolfoefaaW.PrintWords Go.Proofs.YtooemobolfoefaaW.PrintLast Go.Proofs.YtooemobolfoefaaW.PrintMore
set_option linter.unusedVariables false
theorem i64V_of {v : SValue} (h : wfValue v) : i64V v := lit_i64 h.2.1
theorem getV_put {x : SValue} (rest : List Int) (hb : i64V x) (h : mayV x = true) : getV (bytesV x ++ rest) = some (x, (bytesV x).length) := by
 have hn := numV_lt hb h
 have hg : getN ((zaE (numV x) ++ bytesOf x.f2) ++ rest) = some (numV x, (zaE (numV x)).length) := by rw [List.append_assoc]; exact getN_put _ _ hn
 have hl : (bytesV x).length = (zaE (numV x)).length + 1 + x.f2.size := by unfold bytesV; simp [za0]; omega
 unfold getV
 rw [show bytesV x ++ rest = x.f0 :: ((zaE (numV x) ++ bytesOf x.f2) ++ rest) from rfl]
 simp only [hg]
 have hm := mayV_iff.1 h
 obtain ⟨k, n, s⟩ := x
 rcases hm with ⟨h0, hs⟩ | ⟨h0, hs, h1, h2⟩ | ⟨h0, h1, h2⟩ | ⟨h0, hs, h1, h2⟩
 ·replace h0 : k = 0 := h0
  obtain rfl : s = ⟨#[]⟩ := zaR hs
  subst h0
  rw [if_pos rfl, hl, show numV ⟨0, n, ⟨#[]⟩⟩ = zigN n from rfl, zag_zig]
  rfl
 ·replace h0 : k = 1 := h0
  obtain rfl : s = ⟨#[]⟩ := zaR hs
  subst h0
  replace h1 : 0 ≤ n := h1
  replace h2 : n < 2 := h2
  rw [if_neg (show ¬ (1 : Int) = 0 by decide), if_neg (show ¬ (1 : Int) = 2 by decide), hl, show numV ⟨1, n, ⟨#[]⟩⟩ = n.toNat from rfl, if_pos (.inl ⟨rfl, by omega⟩), Int.toNat_of_nonneg h1]
  rfl
 ·replace h0 : k = 2 := h0
  replace h1 : n = 0 := h1
  replace h2 : s.size ≤ 40 := h2
  subst h0
  subst h1
  rw [show numV ⟨2, 0, s⟩ = s.size from rfl] at hl ⊢
  rw [if_neg (show ¬ (2 : Int) = 0 by decide), if_pos rfl, if_pos ⟨h2, by simp only [List.length_append, za0]; omega⟩, hl]
  have e : ((zaE s.size ++ bytesOf s ++ rest).drop (zaE s.size).length).take s.size = bytesOf s := by
   rw [List.append_assoc, List.drop_left, ← za0 s, List.take_left]
  show some ((⟨2, 0, strOfNums (((zaE s.size ++ bytesOf s ++ rest).drop (zaE s.size).length).take s.size)⟩ : SValue), _) = _
  rw [e, str_bytesOf]
 ·replace h0 : k = 3 := h0
  obtain rfl : s = ⟨#[]⟩ := zaR hs
  subst h0
  replace h1 : 0 ≤ n := h1
  replace h2 : n ≤ 1125899906842624 := h2
  rw [if_neg (show ¬ (3 : Int) = 0 by decide), if_neg (show ¬ (3 : Int) = 2 by decide), hl, show numV ⟨3, n, ⟨#[]⟩⟩ = n.toNat from rfl, if_pos (.inr ⟨rfl, by omega⟩), Int.toNat_of_nonneg h1]
  rfl
theorem getV_take {l : List Int} {x : SValue} {n : Nat} (hb : zaJ l) (h : getV l = some (x, n)) : l.take n = bytesV x := by
 unfold getV at h
 cases l with
 | nil => simp at h
 | cons k r =>
  have hbr : zaJ r := fun c hc => hb c (by simp [hc])
  cases hg : getN r with
  | none => simp only [hg] at h; simp at h
  | some p =>
   obtain ⟨m, u⟩ := p
   obtain ⟨hm, hu, ht⟩ := getN_some hbr hg
   simp only [hg] at h
   by_cases h0 : k = 0
   ·rw [if_pos h0] at h
    simp only [Option.some.injEq, Prod.mk.injEq] at h
    obtain ⟨rfl, rfl⟩ := h
    subst h0
    rw [List.take_succ_cons, ht]
    show 0 :: zaE m = 0 :: (zaE (zigN (zagN m)) ++ bytesOf ⟨#[]⟩)
    rw [zig_zag, bytesOf_nil, List.append_nil]
   ·rw [if_neg h0] at h
    by_cases h2 : k = 2
    ·rw [if_pos h2] at h
     by_cases h3 : m ≤ 40 ∧ m ≤ r.length - u
     ·rw [if_pos h3] at h
      simp only [Option.some.injEq, Prod.mk.injEq] at h
      obtain ⟨rfl, rfl⟩ := h
      subst h2
      have hby := byteL_take (zbn hbr u) m
      have hs : (strOfNums ((r.drop u).take m)).size = m := by rw [strOfNums_size, List.length_take, List.length_drop]; omega
      rw [show u + 1 + m = (u + m) + 1 from by omega, List.take_succ_cons, List.take_add, ht]
      unfold bytesV
      rw [show numV ⟨2, 0, strOfNums ((r.drop u).take m)⟩ = (strOfNums ((r.drop u).take m)).size from rfl, hs, bytesOf_str hby]
     ·rw [if_neg h3] at h; simp at h
    ·rw [if_neg h2] at h
     by_cases h3 : (k = 1 ∧ m < 2) ∨ (k = 3 ∧ m ≤ 1125899906842624)
     ·rw [if_pos h3] at h
      simp only [Option.some.injEq, Prod.mk.injEq] at h
      obtain ⟨rfl, rfl⟩ := h
      rw [List.take_succ_cons, ht]
      have e : numV ⟨k, (m : Int), ⟨#[]⟩⟩ = m := by
       unfold numV
       rw [if_neg h0, if_neg h2]
       exact Int.toNat_natCast m
      unfold bytesV
      rw [e, bytesOf_nil, List.append_nil]
     ·rw [if_neg h3] at h; simp at h
theorem bytesV_byte {x : SValue} (h : mayV x = true) : zaJ (bytesV x) := by
 intro c hc
 unfold bytesV at hc
 rcases List.mem_cons.1 hc with rfl | hc
 ·rcases mayV_iff.1 h with ⟨h, _⟩ | ⟨h, _⟩ | ⟨h, _⟩ | ⟨h, _⟩ <;> omega
 ·exact zaH (zaT _) (bytesOf_byte _) c hc
theorem getV_i64 {l : List Int} {x : SValue} {n : Nat} (hb : zaJ l) (h : getV l = some (x, n)) : i64V x ∧ n ≤ l.length ∧ mayV x = true := by
 unfold getV at h
 cases l with
 | nil => simp at h
 | cons k r =>
  cases hg : getN r with
  | none => simp only [hg] at h; simp at h
  | some p =>
   obtain ⟨m, u⟩ := p
   have hm := (getN_some (fun c hc => hb c (by simp [hc])) hg).1
   have hu := (getN_used hg).2.1
   simp only [hg] at h
   have he : (⟨#[]⟩ : ByteArray).toList = [] := by decide +kernel
   by_cases h0 : k = 0
   ·rw [if_pos h0] at h
    simp only [Option.some.injEq, Prod.mk.injEq] at h
    obtain ⟨rfl, rfl⟩ := h
    exact ⟨zag_in hm, by simp; omega, mayV_iff.2 (.inl ⟨rfl, he⟩)⟩
   ·rw [if_neg h0] at h
    by_cases h2 : k = 2
    ·rw [if_pos h2] at h
     by_cases h3 : m ≤ 40 ∧ m ≤ r.length - u
     ·rw [if_pos h3] at h
      simp only [Option.some.injEq, Prod.mk.injEq] at h
      obtain ⟨rfl, rfl⟩ := h
      refine ⟨zero_i64, by simp only [List.length_cons]; omega, mayV_iff.2 (.inr (.inr (.inl ⟨rfl, rfl, ?_⟩)))⟩
      show (strOfNums _).size ≤ 40
      rw [strOfNums_size, List.length_take]
      omega
     ·rw [if_neg h3] at h; simp at h
    ·rw [if_neg h2] at h
     by_cases h3 : (k = 1 ∧ m < 2) ∨ (k = 3 ∧ m ≤ 1125899906842624)
     ·rw [if_pos h3] at h
      simp only [Option.some.injEq, Prod.mk.injEq] at h
      obtain ⟨rfl, rfl⟩ := h
      refine ⟨?_, by simp; omega, mayV_iff.2 ?_⟩
      ·show -9223372036854775808 ≤ (m : Int) ∧ (m : Int) ≤ 9223372036854775807
       omega
      ·rcases h3 with ⟨rfl, h4⟩ | ⟨rfl, h4⟩
       ·exact .inr (.inl ⟨rfl, he, by show 0 ≤ (m : Int); omega, by show (m : Int) < 2; omega⟩)
       ·exact .inr (.inr (.inr ⟨rfl, he, by show 0 ≤ (m : Int); omega, by show (m : Int) ≤ _; omega⟩))
     ·rw [if_neg h3] at h; simp at h
def zeroV : SValue := ⟨0, 0, ⟨#[]⟩⟩
def truV (b : Bool) : SValue := ⟨1, if b then 1 else 0, ⟨#[]⟩⟩
def mayP (x : SOp) : Bool := decide (0 ≤ x.f0) && (decide (x.f0 < 10) && (decide (0 ≤ x.f1) && (decide (x.f1 < 6) && ((x.f0 == 1 || x.f1 == 0) && ((x.f0 == 0 || eqV x.f2 zeroV) && mayV x.f2)))))
def mayO (l : List SOp) : Bool := decide (l.length ≤ 12) && l.all mayP
theorem mayP_iff {x : SOp} : mayP x = true ↔ 0 ≤ x.f0 ∧ x.f0 < 10 ∧ 0 ≤ x.f1 ∧ x.f1 < 6 ∧ (x.f0 = 1 ∨ x.f1 = 0) ∧ (x.f0 = 0 ∨ x.f2 = zeroV) ∧ mayV x.f2 = true := by
 unfold mayP
 simp only [Bool.and_eq_true, Bool.or_eq_true, decide_eq_true_eq, beq_iff_eq, eqV_iff]
theorem mayO_iff {l : List SOp} : mayO l = true ↔ l.length ≤ 12 ∧ ∀ x ∈ l, mayP x = true := by
 unfold mayO
 simp only [Bool.and_eq_true, decide_eq_true_eq, List.all_eq_true]
def lessV (a b : SValue) : Bool := if a.f0 = 2 then Go.Op.bytesLess a.f2.toList b.f2.toList else decide (a.f1 < b.f1)
def arith (code a b : Int) : Int := if code = 2 then a + b else if code = 3 then a - b else a * b
def sumV (code a b : Int) : Option Int := if -9223372036854775808 ≤ arith code a b ∧ arith code a b ≤ 9223372036854775807 then some (arith code a b) else none
def twoV (code : Int) (a b : SValue) : Except Int SValue :=
 if a.f0 ≠ b.f0 then .error 5
 else if code = 6 then .ok (truV (eqV a b))
 else if code = 5 then (if a.f0 = 1 then .error 5 else .ok (truV (lessV a b)))
 else if code = 7 ∨ code = 8 then (if a.f0 = 1 then .ok (truV (if code = 7 then a.f1 == 1 && b.f1 == 1 else a.f1 == 1 || b.f1 == 1)) else .error 5)
 else if a.f0 = 0 then (match sumV code a.f1 b.f1 with | some n => .ok ⟨0, n, ⟨#[]⟩⟩ | none => .error 6)
 else .error 5
def stepV (v : List SValue) (kinds : Bool) (x : SOp) (p : List SValue) : Except Int (List SValue) :=
 if x.f0 = 0 then .ok (p ++ [x.f2])
 else if x.f0 = 1 then (if x.f1.toNat < v.length then .ok (p ++ [v.getD x.f1.toNat zaL]) else .error 3)
 else if x.f0 = 9 then (if p.length < 1 then .error 2 else if (p.getD (p.length - 1) zaL).f0 = 1 then .ok (p.take (p.length - 1) ++ [truV (!((p.getD (p.length - 1) zaL).f1 == 1))]) else .error 5)
 else if p.length < 2 then .error 2
 else match twoV x.f0 (p.getD (p.length - 2) zaL) (p.getD (p.length - 1) zaL) with
  | .ok y => .ok (p.take (p.length - 2) ++ [y])
  | .error e => if kinds = true ∧ e = 6 then .ok (p.take (p.length - 2) ++ [zeroV]) else .error e
def runV (v : List SValue) (kinds : Bool) : List SOp → List SValue → Except Int (List SValue)
 | [], p => .ok p
 | x :: l, p => match stepV v kinds x p with
  | .ok q => runV v kinds l q
  | .error e => .error e
def endV : Except Int (List SValue) → SValue × Int
 | .ok [x] => (x, 0)
 | .ok _ => (zeroV, 2)
 | .error e => (zeroV, e)
def okV (x : SValue) : Prop := mayV x = true ∧ i64V x
def okVs (l : List SValue) : Prop := ∀ x ∈ l, okV x
theorem okVs_nil : okVs [] := fun _ h => by cases h
theorem okVs_snoc {l : List SValue} {x : SValue} (h : okVs l) (hx : okV x) : okVs (l ++ [x]) := fun y hy => by
 rcases List.mem_append.1 hy with h2 | h2
 ·exact h y h2
 ·rw [List.mem_singleton.1 h2]; exact hx
theorem okVs_take {l : List SValue} (h : okVs l) (n : Nat) : okVs (l.take n) := fun y hy => h y (List.mem_of_mem_take hy)
theorem okVs_at {l : List SValue} (h : okVs l) {i : Nat} (hi : i < l.length) : okV (l.getD i zaL) := h _ (by simp [List.getD, hi])
theorem okV_zero : okV zeroV := ⟨by decide +kernel, by unfold i64V zeroV; decide⟩
theorem okV_tru (b : Bool) : okV (truV b) := by
 cases b
 ·exact ⟨by decide +kernel, by unfold i64V truV; decide⟩
 ·exact ⟨by decide +kernel, by unfold i64V truV; decide⟩
theorem okV_num {n : Int} (h : -9223372036854775808 ≤ n ∧ n ≤ 9223372036854775807) : okV ⟨0, n, ⟨#[]⟩⟩ := by
 refine ⟨mayV_iff.2 (.inl ⟨rfl, ?_⟩), h⟩
 show (⟨#[]⟩ : ByteArray).toList = []
 decide +kernel
theorem mayV_text {x : SValue} (h : mayV x = true) (h2 : x.f0 ≠ 2) : x.f2.toList = [] := by
 rcases mayV_iff.1 h with ⟨_, h3⟩ | ⟨_, h3, _⟩ | ⟨h3, _⟩ | ⟨_, h3, _⟩
 ·exact h3
 ·exact h3
 ·exact absurd h3 h2
 ·exact h3
theorem mayV_bytes {x : SValue} (h : mayV x = true) (h2 : x.f0 = 2) : x.f1 = 0 ∧ x.f2.size ≤ 40 := by
 rcases mayV_iff.1 h with ⟨h3, _⟩ | ⟨h3, _⟩ | ⟨_, h3⟩ | ⟨h3, _⟩
 ·rw [h2] at h3; cases h3
 ·rw [h2] at h3; exact absurd h3 (by decide)
 ·exact h3
 ·rw [h2] at h3; exact absurd h3 (by decide)
theorem sumV_some {code a b n : Int} (h : sumV code a b = some n) : n = arith code a b ∧ -9223372036854775808 ≤ n ∧ n ≤ 9223372036854775807 := by
 unfold sumV at h
 split at h
 ·rename_i h2
  obtain rfl := Option.some.inj h
  exact ⟨rfl, h2⟩
 ·cases h
theorem twoV_ok {code : Int} {a b y : SValue} (h : twoV code a b = .ok y) : okV y := by
 unfold twoV at h
 repeat' split at h
 all_goals first
  | (obtain rfl := Except.ok.inj h; first | exact okV_tru _ | (rename_i h2; exact okV_num (sumV_some h2).2))
  | cases h
theorem stepV_ok {v : List SValue} {kinds : Bool} {x : SOp} {p q : List SValue} (hv : okVs v) (hx : okV x.f2) (hp : okVs p) (h : stepV v kinds x p = .ok q) : okVs q := by
 unfold stepV at h
 split at h
 ·obtain rfl := Except.ok.inj h; exact okVs_snoc hp hx
 split at h
 ·split at h
  ·rename_i h2
   obtain rfl := Except.ok.inj h; exact okVs_snoc hp (okVs_at hv h2)
  ·cases h
 split at h
 ·split at h
  ·cases h
  split at h
  ·obtain rfl := Except.ok.inj h; exact okVs_snoc (okVs_take hp _) (okV_tru _)
  ·cases h
 split at h
 ·cases h
 split at h
 ·rename_i h2
  obtain rfl := Except.ok.inj h; exact okVs_snoc (okVs_take hp _) (twoV_ok h2)
 ·split at h
  ·obtain rfl := Except.ok.inj h; exact okVs_snoc (okVs_take hp _) okV_zero
  ·cases h
theorem stepV_len {v : List SValue} {kinds : Bool} {x : SOp} {p q : List SValue} (h : stepV v kinds x p = .ok q) : q.length ≤ p.length + 1 := by
 unfold stepV at h
 repeat' split at h
 all_goals first
  | (cases h; done)
  | (obtain rfl := Except.ok.inj h; simp only [List.length_append, List.length_take, List.length_singleton]; omega)
theorem runV_cons {v : List SValue} {kinds : Bool} {x : SOp} {l : List SOp} {p q : List SValue} (h : stepV v kinds x p = .ok q) : runV v kinds (x :: l) p = runV v kinds l q := by
 simp only [runV, h]
theorem runV_stop {v : List SValue} {kinds : Bool} {x : SOp} {l : List SOp} {p : List SValue} {e : Int} (h : stepV v kinds x p = .error e) : runV v kinds (x :: l) p = .error e := by
 simp only [runV, h]
theorem drop_cons {α : Type} (z : α) (l : List α) {i : Nat} (h : i < l.length) : l.drop i = l.getD i z :: l.drop (i + 1) := by
 rw [List.drop_eq_getElem_cons h]
 simp [List.getD, h]
theorem mayS_iff8 {x : SSchema} : mayS x = true ↔ nameB x.f0 = true ∧ 1 ≤ x.f1 ∧ x.f1 ≤ 1000 ∧ x.f2.length ≤ 6 ∧ ∀ i, i < x.f2.length → fieldOK x.f2 i = true := by
 unfold mayS mayB
 simp only [Bool.and_eq_true, decide_eq_true_eq, List.all_eq_true, List.mem_range]
def kindsOf (s : SSchema) : List SValue := s.f2.map fun f => ⟨f.f1, 0, ⟨#[]⟩⟩
def kindV (s : SSchema) (l : List SOp) : Int × Int := if mayS s = true ∧ mayO l = true then ((endV (runV (kindsOf s) true l [])).1.f0, (endV (runV (kindsOf s) true l [])).2) else (0, 1)
def thV (x : SValue) : Value := if x.f0 = 0 then .iface 131 (.int .i64 x.f1) else if x.f0 = 1 then .iface 133 (.bool (x.f1 == 1)) else .iface 134 (.agg #[.int .i64 x.f0, .int .i64 x.f1, .string x.f2])
theorem thV_one (x : SValue) : (thV x).oneCell' = true := by
 unfold thV
 split
 ·rfl
 split
 ·rfl
 ·rfl
theorem thV_iface (x : SValue) : ∃ t v, thV x = .iface t v := by
 unfold thV
 split
 ·exact ⟨_, _, rfl⟩
 split
 ·exact ⟨_, _, rfl⟩
 ·exact ⟨_, _, rfl⟩
def kThing : Kd SValue := Kd.scalar thV thV_one
theorem tmod_small (w b : Int) (hb : b ≠ 0) (h : b.natAbs ≤ 9223372036854775808) : (w.tmod b).natAbs < 9223372036854775808 := by
 rw [Int.natAbs_tmod]
 have : w.natAbs % b.natAbs < b.natAbs := Nat.mod_lt _ (by omega)
 omega
theorem zbo {n : Int} (h : -9223372036854775808 ≤ n ∧ n ≤ 9223372036854775807) : wrap64 n = n := by unfold wrap64; omega
theorem wrap64_range (n : Int) : -9223372036854775808 ≤ wrap64 n ∧ wrap64 n ≤ 9223372036854775807 := by unfold wrap64; omega
theorem wrap64_mod (n : Int) : ∃ k : Int, wrap64 n = n + 18446744073709551616 * k := ⟨-((n + 9223372036854775808) / 18446744073709551616), by unfold wrap64; omega⟩
theorem prod_back {a b : Int} (ha : -9223372036854775808 ≤ a ∧ a ≤ 9223372036854775807) (hb0 : b ≠ 0) (h : -9223372036854775808 ≤ a * b ∧ a * b ≤ 9223372036854775807) : wrap64 (Int.tdiv (wrap64 (a * b)) b) = a := by
 rw [zbo h, Int.mul_tdiv_cancel a hb0, zbo ha]
theorem prod_is {a b : Int} (hb : -9223372036854775808 ≤ b ∧ b ≤ 9223372036854775807) (hb0 : b ≠ 0) (hq : Int.tdiv (wrap64 (a * b)) b = a) : -9223372036854775808 ≤ a * b ∧ a * b ≤ 9223372036854775807 := by
 have h1 := Int.mul_tdiv_add_tmod (wrap64 (a * b)) b
 rw [hq, Int.mul_comm b a] at h1
 have h2 := tmod_small (wrap64 (a * b)) b hb0 (by omega)
 obtain ⟨k, hk⟩ := wrap64_mod (a * b)
 have h3 := wrap64_range (a * b)
 generalize a * b = p at *
 generalize (wrap64 p).tmod b = r at *
 omega
theorem quot_wide {w b : Int} (hw : -9223372036854775808 ≤ w ∧ w ≤ 9223372036854775807) (h : ¬ (w = -9223372036854775808 ∧ b = -1)) : -9223372036854775808 ≤ Int.tdiv w b ∧ Int.tdiv w b ≤ 9223372036854775807 := by
 have h1 : (Int.tdiv w b).natAbs = w.natAbs / b.natAbs := Int.natAbs_tdiv w b
 by_cases hb : b.natAbs = 1
 ·by_cases h2 : b = 1
  ·subst h2; rw [Int.tdiv_one]; exact hw
  ·obtain rfl : b = -1 := by omega
   have : Int.tdiv w (-1) = -w := by rw [Int.tdiv_neg, Int.tdiv_one]
   rw [this]
   omega
 ·by_cases h0 : b.natAbs = 0
  ·rw [h0, Nat.div_zero] at h1; omega
  ·have : w.natAbs / b.natAbs ≤ w.natAbs / 2 := Nat.div_le_div_left (by omega) (by omega)
   omega
theorem prod_test {a b : Int} (ha : -9223372036854775808 ≤ a ∧ a ≤ 9223372036854775807) (hb : -9223372036854775808 ≤ b ∧ b ≤ 9223372036854775807) (hb0 : b ≠ 0) (h1 : ¬ (b = -1 ∧ a = -9223372036854775808)) (hq : wrap64 (Int.tdiv (wrap64 (a * b)) b) = a) : -9223372036854775808 ≤ a * b ∧ a * b ≤ 9223372036854775807 := by
 by_cases hb1 : b = -1
 ·subst hb1; omega
 ·rw [zbo (quot_wide (wrap64_range _) (fun h => hb1 h.2))] at hq
  exact prod_is hb hb0 hq
theorem sum_wrap {a b : Int} (ha : -9223372036854775808 ≤ a ∧ a ≤ 9223372036854775807) (hb : -9223372036854775808 ≤ b ∧ b ≤ 9223372036854775807) : (decide (wrap64 (a + b) > a) == decide (b > 0)) = decide (-9223372036854775808 ≤ a + b ∧ a + b ≤ 9223372036854775807) := by
 rw [Bool.eq_iff_iff, beq_iff_eq, decide_eq_decide, decide_eq_true_eq]
 unfold wrap64
 omega
theorem diff_wrap {a b : Int} (ha : -9223372036854775808 ≤ a ∧ a ≤ 9223372036854775807) (hb : -9223372036854775808 ≤ b ∧ b ≤ 9223372036854775807) : (decide (wrap64 (a - b) < a) == decide (b > 0)) = decide (-9223372036854775808 ≤ a - b ∧ a - b ≤ 9223372036854775807) := by
 rw [Bool.eq_iff_iff, beq_iff_eq, decide_eq_decide, decide_eq_true_eq]
 unfold wrap64
 omega
theorem arith2 (a b : Int) : arith 2 a b = a + b := rfl
theorem arith3 (a b : Int) : arith 3 a b = a - b := rfl
theorem arithT {c : Int} (h2 : c ≠ 2) (h3 : c ≠ 3) (a b : Int) : arith c a b = a * b := by unfold arith; rw [if_neg h2, if_neg h3]
theorem sumV_none {code a b : Int} (h : sumV code a b = none) : ¬ (-9223372036854775808 ≤ arith code a b ∧ arith code a b ≤ 9223372036854775807) := by
 intro h2
 unfold sumV at h
 rw [if_pos h2] at h
 cases h
def i64B (l : List SOp) : Bool := l.all fun x => decide (-9223372036854775808 ≤ x.f2.f1) && decide (x.f2.f1 ≤ 9223372036854775807)
theorem i64B_iff {l : List SOp} : i64B l = true ↔ ∀ x ∈ l, i64V x.f2 := by
 unfold i64B i64V
 simp only [List.all_eq_true, Bool.and_eq_true, decide_eq_true_eq]
def zbs (x : SOp) : List Int := x.f0 :: (if x.f0 = 0 then bytesV x.f2 else if x.f0 = 1 then [x.f1] else [])
def opsL (l : List SOp) : List Int := (l.map zbs).flatten
def zbb (l : List SOp) : List Int := zaE l.length ++ opsL l
def getP : List Int → Option (SOp × Nat)
 | [] => none
 | c :: r => if c = 0 then (match getV r with | some (v, n) => some (⟨0, 0, v⟩, n + 1) | none => none)
  else if c = 1 then (match r with | [] => none | a :: _ => some (⟨1, a, zeroV⟩, 2))
  else some (⟨c, 0, zeroV⟩, 1)
def getOs : Nat → List Int → Option (List SOp × Nat)
 | 0, _ => some ([], 0)
 | m + 1, l => match getP l with
  | none => none
  | some (x, n) => match getOs m (l.drop n) with
   | none => none
   | some (xs, k) => some (x :: xs, n + k)
def contO (l : List Int) (m a : Nat) (fs : List SOp) : Option (List SOp × Nat) := match getOs m (l.drop a) with
 | none => none
 | some (gs, v) => if mayO (fs ++ gs) then some (fs ++ gs, a + v) else none
def getO (l : List Int) : Option (List SOp × Nat) := match getM l 12 with
 | none => none
 | some (n, u) => contO l n u []
def gotO (r : Option (List SOp × Nat)) : List SOp × Nat × Bool := match r with
 | some (x, n) => (x, n, true)
 | none => ([], 0, false)
theorem contO_step (l : List Int) (m a : Nat) (fs : List SOp) : contO l (m + 1) a fs = match getP (l.drop a) with
  | none => none
  | some (x, n) => contO l m (a + n) (fs ++ [x]) := by
 unfold contO
 simp only [getOs]
 cases h : getP (l.drop a) with
 | none => rfl
 | some p =>
  obtain ⟨x, n⟩ := p
  simp only [List.drop_drop]
  cases h2 : getOs m (l.drop (a + n)) with
  | none => rfl
  | some q =>
   obtain ⟨gs, v⟩ := q
   simp only [List.append_assoc, List.singleton_append, Nat.add_assoc]
theorem contO_end (l : List Int) (a : Nat) (fs : List SOp) : contO l 0 a fs = if mayO fs then some (fs, a) else none := by
 unfold contO
 simp only [getOs, List.append_nil, Nat.add_zero]
theorem getO_none {l : List Int} (h : getM l 12 = none) : getO l = none := by unfold getO; rw [h]
theorem getO_some {l : List Int} {n u : Nat} (h : getM l 12 = some (n, u)) : getO l = contO l n u [] := by unfold getO; rw [h]
theorem opsL_snoc (l : List SOp) (k : Nat) (h : k < l.length) : opsL (l.take (k + 1)) = opsL (l.take k) ++ zbs (l.getD k zOp) := by
 unfold opsL
 rw [take_snoc zOp l k h, List.map_append, List.flatten_append]
 simp
theorem gotV_len {l : List Int} {x : SValue} {m : Nat} {b : Bool} (h : gotV (getV l) = (x, m, b)) : m ≤ 100 := by
 cases hg : getV l with
 | none => rw [hg] at h; simp only [gotV, Prod.mk.injEq] at h; omega
 | some p =>
  obtain ⟨y, k⟩ := p
  rw [hg] at h
  simp only [gotV, Prod.mk.injEq] at h
  obtain ⟨rfl, rfl, _⟩ := h
  cases l with
  | nil => simp [getV] at hg
  | cons c r =>
   simp only [getV] at hg
   cases hn : getN r with
   | none => rw [hn] at hg; simp at hg
   | some q =>
    obtain ⟨n, u⟩ := q
    rw [hn] at hg
    simp only at hg
    have hu := (getN_used hn).2.2
    repeat' split at hg
    all_goals first
     | (cases hg; done)
     | (simp only [Option.some.injEq, Prod.mk.injEq] at hg; omega)
theorem getP_used {l : List Int} {x : SOp} {n : Nat} (hb : zaJ l) (h : getP l = some (x, n)) : i64V x.f2 ∧ n ≤ l.length ∧ 1 ≤ n := by
 cases l with
 | nil => simp [getP] at h
 | cons c r =>
  simp only [getP] at h
  have hz : i64V zeroV := okV_zero.2
  by_cases h0 : c = 0
  ·rw [if_pos h0] at h
   cases hg : getV r with
   | none => rw [hg] at h; simp at h
   | some p =>
    obtain ⟨v, m⟩ := p
    rw [hg] at h
    simp only [Option.some.injEq, Prod.mk.injEq] at h
    obtain ⟨rfl, rfl⟩ := h
    obtain ⟨h1, h2, _⟩ := getV_i64 (fun c hc => hb c (by simp [hc])) hg
    exact ⟨h1, by simp only [List.length_cons]; omega, by omega⟩
  ·rw [if_neg h0] at h
   by_cases h1 : c = 1
   ·rw [if_pos h1] at h
    cases r with
    | nil => simp at h
    | cons a r =>
     simp only [Option.some.injEq, Prod.mk.injEq] at h
     obtain ⟨rfl, rfl⟩ := h
     exact ⟨hz, by simp, by decide⟩
   ·rw [if_neg h1] at h
    simp only [Option.some.injEq, Prod.mk.injEq] at h
    obtain ⟨rfl, rfl⟩ := h
    exact ⟨hz, by simp, by decide⟩
end Go.Proofs.Ytooemobolfoefaa.P


namespace Go.Proofs.Ytooemobolfoefaa.P
open Go.RowKit Go.Proofs.YtooemobolfoefaaW.PrintWords Go.Proofs.YtooemobolfoefaaW.PrintLast Go.Proofs.YtooemobolfoefaaW.PrintMore
attribute [local go_sem] zaX zaV zbf zbe zaO zaN zaW zaU   -- for this text's walks alone
set_option linter.unusedVariables false
set_option linter.unusedSimpArgs false
theorem eqAValue (d : Nat) (w : World) (x0 y0 : Int) (x1 y1 : Int) (x2 y2 : ByteArray) :
  (Op.equalIn (d + 2) 73 (.agg #[.int .i64 x0, .int .i64 x1, .string x2]) (.agg #[.int .i64 y0, .int .i64 y1, .string y2])).run Try.prog w = .ok (x0 == y0 && (x1 == y1 && (x2.toList == y2.toList))) w := by
 refine eqA_of Try.underlying73 (by kernel_rfl) ?_
 refine eqf_cons (by rfl) (by go_simp; rfl) (by go_simp; rfl) (by go_simp) ?_
 refine eqf_cons (by rfl) (by go_simp; rfl) (by go_simp; rfl) (by go_simp) ?_
 exact eqf_last (by rfl) (by go_simp; rfl) (by go_simp; rfl) (by go_simp)
set_option maxHeartbeats 400000 in
theorem slices_IndexFunc_api_Op.toldw (g : Nat) (caps : Array Value) (p : SOp → Bool) (wf : SOp → Prop) (A0 : Option Addr) (cp : Nat) (l0 : List SOp) (w : World) (eg : ∀ args w, (callFunc g args).run Try.prog w = .ok (.enter g args) w) (hp : TellsW Try.prog kOp g caps p wf w) (hwf : ∀ x ∈ l0, wf x) (hr0 : Kd.C kOp w A0 l0.length l0) (hc0 : l0.length ≤ cp) :
  Calls Try.prog 72 #[.slice A0 l0.length cp, .func (.func g) #[] caps] w (idxPost p l0 w) := by
 have HR0 := Aside0.mk hr0
 have HC0 := Aside0.mk hc0
 have HP := Aside0.mk hp
 have HWF := Aside0.mk hwf
 have hm := hr0.2.1
 clear hr0 hc0 hp hwf
 go_enter Try.func72, Try.ntmps72
 go_wp2
 go_loopw [4, 5, 8] (fun v4 v5 v8 w' => ∃ k : Nat, v8 = .int .i64 k ∧ idxRel p l0 zOp w k w') (fun _ _ i _ => l0.length - (intOf i).toNat)
 case atStart => exact ⟨0, rfl, Nat.zero_le _, fun i hi => by omega, Below.refl _ _⟩
 case round =>
  obtain ⟨k, rfl, HK⟩ := hrel
  have HK := Aside0.mk HK
  by_cases hlt : k < l0.length
  ·obtain ⟨ad, cs, e, hl, hK, hcell⟩ := Kd.C_get (Kd.C_below HR0.out HK.out.2.2) zOp (k : Int) (by omega) (by omega)
   cases e
   simp only [Int.toNat_natCast] at hK hcell
   obtain ⟨c0, c1, c2, c3, c4, rfl⟩ := cells5 cs hl
   have hx0 : wr.cell? (ad.add (k * 5)) = some c0 := hcell 0 _ rfl
   have hx1 : wr.cell? ⟨(ad.add (k * 5)).block, (ad.add (k * 5)).off + 1, none⟩ = some c1 := by rw [← zax _ _ 1 (by omega)]; exact hcell 1 _ rfl
   have hx2 : wr.cell? ⟨(ad.add (k * 5)).block, (ad.add (k * 5)).off + 2, none⟩ = some c2 := by rw [← zax _ _ 2 (by omega)]; exact hcell 2 _ rfl
   have hx3 : wr.cell? ⟨(ad.add (k * 5)).block, (ad.add (k * 5)).off + 3, none⟩ = some c3 := by rw [← zax _ _ 3 (by omega)]; exact hcell 3 _ rfl
   have hx4 : wr.cell? ⟨(ad.add (k * 5)).block, (ad.add (k * 5)).off + 4, none⟩ = some c4 := by rw [← zax _ _ 4 (by omega)]; exact hcell 4 _ rfl
   have hcall := HP.out (l0.getD k zOp) _ wr (HWF.out _ (getD_in _ hlt)) HK.out.2.2 hK
   clear hcell hK hl
   cases hp : p (l0.getD k zOp) with
   | true =>
    rw [hp] at hcall
    have HQ := Aside0.mk hp; clear hp
    go_wp2_with (go_at_fn g; refine hcall.mono ?_; rintro e w1 ⟨rfl, hb1⟩)
    go_ret
    exact ⟨by rw [idx_skip p zOp l0 k HK.out.2.1 hlt HQ.out]; rfl, zah HK.out.2.2 hb1⟩
   | false =>
    rw [hp] at hcall
    have HQ := Aside0.mk hp; clear hp
    go_wp2_with (go_at_fn g; refine hcall.mono ?_; rintro e w1 ⟨rfl, hb1⟩)
    go_roundw
    case rel => exact ⟨k + 1, by go_num, by omega, fun i hi => by rcases Nat.lt_succ_iff_lt_or_eq.1 hi with h | rfl; exact HK.out.2.1 i h; exact HQ.out, zah HK.out.2.2 hb1⟩
    case measure => simp [intOf]; omega
  ·go_wp2
   go_ret
   exact ⟨by rw [idx_none p zOp l0 (fun i hi => HK.out.2.1 i (by omega))]; rfl, HK.out.2.2⟩
set_option maxHeartbeats 400000 in
theorem slices_ContainsFunc_api_Op.toldw (g : Nat) (caps : Array Value) (p : SOp → Bool) (wf : SOp → Prop) (A0 : Option Addr) (cp : Nat) (l0 : List SOp) (w : World) (eg : ∀ args w, (callFunc g args).run Try.prog w = .ok (.enter g args) w) (hp : TellsW Try.prog kOp g caps p wf w) (hwf : ∀ x ∈ l0, wf x) (hr0 : Kd.C kOp w A0 l0.length l0) (hc0 : l0.length ≤ cp) :
  Calls Try.prog 67 #[.slice A0 l0.length cp, .func (.func g) #[] caps] w (zaS (l0.any p) w) := by
 obtain ⟨ha, hn⟩ := idx_any p l0
 have HA := Aside0.mk ha
 have HC := Aside0.mk (slices_IndexFunc_api_Op.toldw g caps p wf A0 cp l0 w eg hp hwf hr0 hc0)
 clear ha hn eg hp hwf hr0
 go_enter Try.func67, Try.ntmps67
 go_wp2_with (go_at_call 72; refine HC.out.mono ?_; rintro e w1 ⟨rfl, hb1⟩)
 go_ret
 exact ⟨by rw [← HA.out]; rfl, hb1⟩
def value_May.f (a0_0 : Int) (a0_1 : Int) (a0_2 : ByteArray) : Option Bool := if -9223372036854775808 ≤ a0_1 ∧ a0_1 ≤ 9223372036854775807 then some (mayV ⟨a0_0, a0_1, a0_2⟩) else none
theorem heldV_iface {x : SValue} (h : mayV x = true) : ∃ t v, heldV x = .iface t v := by
 rw [heldV_of h]
 repeat' split
 all_goals exact ⟨_, _, rfl⟩
set_option maxHeartbeats 1000000 in
theorem zbq (x : SValue) (w : World) (hb : -9223372036854775808 ≤ x.f1 ∧ x.f1 ≤ 9223372036854775807) {r : Bool} (hr : mayV x = r) : Calls Try.prog 66 #[.agg #[.int .i64 x.f0, .int .i64 x.f1, .string x.f2]] w (zaS r w) := by
 have HB := Aside0.mk hb
 clear hb
 cases r with
 | false =>
  have HV := Aside0.mk (heldV_no hr)
  clear hr
  go_enter Try.func66, Try.ntmps66
  go_wp2_with (go_at_call 68; refine (held_told x _ HB.out).mono ?_; rw [HV.out]; rintro e w1 ⟨rfl, hb1⟩)
  go_ret
  exact ⟨rfl, zah (zab (Below.refl _ _) _) hb1⟩
 | true =>
  obtain ⟨t, v, hv⟩ := heldV_iface hr
  have HV := Aside0.mk hv
  clear hr hv
  go_enter Try.func66, Try.ntmps66
  go_wp2_with (go_at_call 68; refine (held_told x _ HB.out).mono ?_; rw [HV.out]; rintro e w1 ⟨rfl, hb1⟩)
  go_ret
  exact ⟨rfl, zah (zab (Below.refl _ _) _) hb1⟩
theorem value_May.calls (a0_0 : Int) (a0_1 : Int) (a0_2 : ByteArray) (r : Bool) (w : World) (h : value_May.f a0_0 a0_1 a0_2 = some r) :
  Calls Try.prog 66 #[.agg #[.int .i64 a0_0, .int .i64 a0_1, .string a0_2]] w fun e w' => e = .returned (.bool r) ∧ Below w.heap.size w w' := by
 unfold value_May.f at h
 by_cases hb : -9223372036854775808 ≤ a0_1 ∧ a0_1 ≤ 9223372036854775807
 ·rw [if_pos hb] at h
  exact zbq ⟨a0_0, a0_1, a0_2⟩ w hb (Option.some.inj h)
 ·rw [if_neg hb] at h; simp at h
end Go.Proofs.Ytooemobolfoefaa.P


namespace Go.Proofs.Ytooemobolfoefaa.P
open Go.RowKit Go.Proofs.YtooemobolfoefaaW.PrintWords Go.Proofs.YtooemobolfoefaaW.PrintLast Go.Proofs.YtooemobolfoefaaW.PrintMore
attribute [local go_sem] zaX zaV zbf zbe zaO zaN zaW zaU   -- for this text's walks alone
set_option linter.unusedVariables false
set_option linter.unusedSimpArgs false
attribute [local go_sem high] eqAValue
attribute [local go_sem high] eqAValue
set_option maxHeartbeats 8000000 in
set_option maxRecDepth 100000 in
theorem may1O_told (w : World) : TellsW Try.prog kOp 65 #[] (fun x => !mayP x) (fun x => i64V x.f2) w := by
 intro x cs W hwf hW hK
 obtain rfl := kOp_open hK
 have HWF := Aside0.mk hwf
 obtain ⟨b, hb⟩ : ∃ b, mayV x.f2 = b := ⟨_, rfl⟩
 have HM := Aside0.mk hb
 have hne := @neV x.f2 zeroV
 have heq : (x.f2.f0 == 0 && (x.f2.f1 == 0 && x.f2.f2.toList.isEmpty)) = eqV x.f2 zeroV := by unfold eqV zeroV; rw [show (⟨#[]⟩ : ByteArray).toList = [] from by decide +kernel]; cases x.f2.f2.toList <;> rfl
 obtain ⟨q, hq⟩ : ∃ q, eqV x.f2 zeroV = q := ⟨_, rfl⟩
 rw [hq] at heq
 have HQ := Aside0.mk hq
 clear hne hq
 show Calls _ _ #[.agg #[.int .i64 x.f0, .int .i64 x.f1, .int .i64 x.f2.f0, .int .i64 x.f2.f1, .string x.f2.f2]] W (zaS (!(mayP x)) W)
 have HP := Aside0.mk (show mayP x = (decide (0 ≤ x.f0) && (decide (x.f0 < 10) && (decide (0 ≤ x.f1) && (decide (x.f1 < 6) && ((x.f0 == 1 || x.f1 == 0) && ((x.f0 == 0 || q) && b)))))) from by rw [← hb, ← HQ.out]; rfl)
 rw [HP.out]
 clear hW hK hwf hb
 by_cases e1 : x.f0 = 1
 ·have e10 : (x.f0 == 1) = true := beq_iff_eq.2 e1
  have e3 : (x.f0 == 0) = false := beq_eq_false_iff_ne.2 (by omega)
  have g0 : decide (x.f0 < 0) = false := decide_eq_false (by omega)
  have g1 : decide (10 ≤ x.f0) = false := decide_eq_false (by omega)
  cases q
  ·by_cases hsb2 : x.f1 < 0
   ·have hsb20 : decide (x.f1 < 0) = true := decide_eq_true hsb2
    have hres : (!(decide (0 ≤ x.f0) && (decide (x.f0 < 10) && (decide (0 ≤ x.f1) && (decide (x.f1 < 6) && ((x.f0 == 1 || x.f1 == 0) && ((x.f0 == 0 || false) && b))))))) = true := by clear HP HQ heq HM HWF; cases b <;> simp [*] <;> omega
    rw [hres]
    clear hres
    go_enter Try.func65, Try.ntmps65
    go_wp2
    go_ret
    exact ⟨rfl, zab (Below.refl _ _) _⟩
   ·have hsb20 : decide (x.f1 < 0) = false := decide_eq_false (by omega)
    by_cases hsb3 : 6 ≤ x.f1
    ·have hsb30 : decide (6 ≤ x.f1) = true := decide_eq_true hsb3
     have hres : (!(decide (0 ≤ x.f0) && (decide (x.f0 < 10) && (decide (0 ≤ x.f1) && (decide (x.f1 < 6) && ((x.f0 == 1 || x.f1 == 0) && ((x.f0 == 0 || false) && b))))))) = true := by clear HP HQ heq HM HWF; cases b <;> simp [*] <;> omega
     rw [hres]
     clear hres
     go_enter Try.func65, Try.ntmps65
     go_wp2
     go_ret
     exact ⟨rfl, zab (Below.refl _ _) _⟩
    ·have hsb30 : decide (6 ≤ x.f1) = false := decide_eq_false (by omega)
     have hres : (!(decide (0 ≤ x.f0) && (decide (x.f0 < 10) && (decide (0 ≤ x.f1) && (decide (x.f1 < 6) && ((x.f0 == 1 || x.f1 == 0) && ((x.f0 == 0 || false) && b))))))) = true := by clear HP HQ heq HM HWF; cases b <;> simp [*] <;> omega
     rw [hres]
     clear hres
     go_enter Try.func65, Try.ntmps65
     go_wp2
     go_ret
     exact ⟨rfl, zab (Below.refl _ _) _⟩
  ·by_cases hsb2 : x.f1 < 0
   ·have hsb20 : decide (x.f1 < 0) = true := decide_eq_true hsb2
    have hres : (!(decide (0 ≤ x.f0) && (decide (x.f0 < 10) && (decide (0 ≤ x.f1) && (decide (x.f1 < 6) && ((x.f0 == 1 || x.f1 == 0) && ((x.f0 == 0 || true) && b))))))) = true := by clear HP HQ heq HM HWF; cases b <;> simp [*] <;> omega
    rw [hres]
    clear hres
    go_enter Try.func65, Try.ntmps65
    go_wp2
    go_ret
    exact ⟨rfl, zab (Below.refl _ _) _⟩
   ·have hsb20 : decide (x.f1 < 0) = false := decide_eq_false (by omega)
    by_cases hsb3 : 6 ≤ x.f1
    ·have hsb30 : decide (6 ≤ x.f1) = true := decide_eq_true hsb3
     have hres : (!(decide (0 ≤ x.f0) && (decide (x.f0 < 10) && (decide (0 ≤ x.f1) && (decide (x.f1 < 6) && ((x.f0 == 1 || x.f1 == 0) && ((x.f0 == 0 || true) && b))))))) = true := by clear HP HQ heq HM HWF; cases b <;> simp [*] <;> omega
     rw [hres]
     clear hres
     go_enter Try.func65, Try.ntmps65
     go_wp2
     go_ret
     exact ⟨rfl, zab (Below.refl _ _) _⟩
    ·have hsb30 : decide (6 ≤ x.f1) = false := decide_eq_false (by omega)
     have hres : (!(decide (0 ≤ x.f0) && (decide (x.f0 < 10) && (decide (0 ≤ x.f1) && (decide (x.f1 < 6) && ((x.f0 == 1 || x.f1 == 0) && ((x.f0 == 0 || true) && b))))))) = !b := by clear HP HQ heq HM HWF; cases b <;> simp [*] <;> omega
     rw [hres]
     clear hres
     go_enter Try.func65, Try.ntmps65
     go_wp2_with (go_at_call 66; refine (zbq x.f2 _ HWF.out HM.out).mono ?_; rintro e w1 ⟨rfl, hb1⟩)
     go_ret
     exact ⟨rfl, zah (zab (Below.refl _ _) _) hb1⟩
 ·have e10 : (x.f0 == 1) = false := beq_eq_false_iff_ne.2 e1
  by_cases e2 : x.f1 = 0
  ·have e20 : (x.f1 == 0) = true := beq_iff_eq.2 e2
   by_cases e3 : x.f0 = 0
   ·have e30 : (x.f0 == 0) = true := beq_iff_eq.2 e3
    have g0 : decide (x.f0 < 0) = false := decide_eq_false (by omega)
    have g1 : decide (10 ≤ x.f0) = false := decide_eq_false (by omega)
    have g2 : decide (x.f1 < 0) = false := decide_eq_false (by omega)
    have g3 : decide (6 ≤ x.f1) = false := decide_eq_false (by omega)
    have hres : (!(decide (0 ≤ x.f0) && (decide (x.f0 < 10) && (decide (0 ≤ x.f1) && (decide (x.f1 < 6) && ((x.f0 == 1 || x.f1 == 0) && ((x.f0 == 0 || q) && b))))))) = !b := by clear HP HQ heq HM HWF; cases b <;> simp [*] <;> omega
    rw [hres]
    clear hres
    go_enter Try.func65, Try.ntmps65
    go_wp2_with (go_at_call 66; refine (zbq x.f2 _ HWF.out HM.out).mono ?_; rintro e w1 ⟨rfl, hb1⟩)
    go_ret
    exact ⟨rfl, zah (zab (Below.refl _ _) _) hb1⟩
   ·have e30 : (x.f0 == 0) = false := beq_eq_false_iff_ne.2 e3
    have g2 : decide (x.f1 < 0) = false := decide_eq_false (by omega)
    have g3 : decide (6 ≤ x.f1) = false := decide_eq_false (by omega)
    cases q
    ·by_cases hsb0 : x.f0 < 0
     ·have hsb00 : decide (x.f0 < 0) = true := decide_eq_true hsb0
      have hres : (!(decide (0 ≤ x.f0) && (decide (x.f0 < 10) && (decide (0 ≤ x.f1) && (decide (x.f1 < 6) && ((x.f0 == 1 || x.f1 == 0) && ((x.f0 == 0 || false) && b))))))) = true := by clear HP HQ heq HM HWF; cases b <;> simp [*] <;> omega
      rw [hres]
      clear hres
      go_enter Try.func65, Try.ntmps65
      go_wp2
      go_ret
      exact ⟨rfl, zab (Below.refl _ _) _⟩
     ·have hsb00 : decide (x.f0 < 0) = false := decide_eq_false (by omega)
      by_cases hsb1 : 10 ≤ x.f0
      ·have hsb10 : decide (10 ≤ x.f0) = true := decide_eq_true hsb1
       have hres : (!(decide (0 ≤ x.f0) && (decide (x.f0 < 10) && (decide (0 ≤ x.f1) && (decide (x.f1 < 6) && ((x.f0 == 1 || x.f1 == 0) && ((x.f0 == 0 || false) && b))))))) = true := by clear HP HQ heq HM HWF; cases b <;> simp [*] <;> omega
       rw [hres]
       clear hres
       go_enter Try.func65, Try.ntmps65
       go_wp2
       go_ret
       exact ⟨rfl, zab (Below.refl _ _) _⟩
      ·have hsb10 : decide (10 ≤ x.f0) = false := decide_eq_false (by omega)
       have hres : (!(decide (0 ≤ x.f0) && (decide (x.f0 < 10) && (decide (0 ≤ x.f1) && (decide (x.f1 < 6) && ((x.f0 == 1 || x.f1 == 0) && ((x.f0 == 0 || false) && b))))))) = true := by clear HP HQ heq HM HWF; cases b <;> simp [*] <;> omega
       rw [hres]
       clear hres
       go_enter Try.func65, Try.ntmps65
       go_wp2
       go_ret
       exact ⟨rfl, zab (Below.refl _ _) _⟩
    ·by_cases hsb0 : x.f0 < 0
     ·have hsb00 : decide (x.f0 < 0) = true := decide_eq_true hsb0
      have hres : (!(decide (0 ≤ x.f0) && (decide (x.f0 < 10) && (decide (0 ≤ x.f1) && (decide (x.f1 < 6) && ((x.f0 == 1 || x.f1 == 0) && ((x.f0 == 0 || true) && b))))))) = true := by clear HP HQ heq HM HWF; cases b <;> simp [*] <;> omega
      rw [hres]
      clear hres
      go_enter Try.func65, Try.ntmps65
      go_wp2
      go_ret
      exact ⟨rfl, zab (Below.refl _ _) _⟩
     ·have hsb00 : decide (x.f0 < 0) = false := decide_eq_false (by omega)
      by_cases hsb1 : 10 ≤ x.f0
      ·have hsb10 : decide (10 ≤ x.f0) = true := decide_eq_true hsb1
       have hres : (!(decide (0 ≤ x.f0) && (decide (x.f0 < 10) && (decide (0 ≤ x.f1) && (decide (x.f1 < 6) && ((x.f0 == 1 || x.f1 == 0) && ((x.f0 == 0 || true) && b))))))) = true := by clear HP HQ heq HM HWF; cases b <;> simp [*] <;> omega
       rw [hres]
       clear hres
       go_enter Try.func65, Try.ntmps65
       go_wp2
       go_ret
       exact ⟨rfl, zab (Below.refl _ _) _⟩
      ·have hsb10 : decide (10 ≤ x.f0) = false := decide_eq_false (by omega)
       have hres : (!(decide (0 ≤ x.f0) && (decide (x.f0 < 10) && (decide (0 ≤ x.f1) && (decide (x.f1 < 6) && ((x.f0 == 1 || x.f1 == 0) && ((x.f0 == 0 || true) && b))))))) = !b := by clear HP HQ heq HM HWF; cases b <;> simp [*] <;> omega
       rw [hres]
       clear hres
       go_enter Try.func65, Try.ntmps65
       go_wp2_with (go_at_call 66; refine (zbq x.f2 _ HWF.out HM.out).mono ?_; rintro e w1 ⟨rfl, hb1⟩)
       go_ret
       exact ⟨rfl, zah (zab (Below.refl _ _) _) hb1⟩
  ·have e20 : (x.f1 == 0) = false := beq_eq_false_iff_ne.2 e2
   by_cases e3 : x.f0 = 0
   ·have e30 : (x.f0 == 0) = true := beq_iff_eq.2 e3
    have g0 : decide (x.f0 < 0) = false := decide_eq_false (by omega)
    have g1 : decide (10 ≤ x.f0) = false := decide_eq_false (by omega)
    by_cases hsb2 : x.f1 < 0
    ·have hsb20 : decide (x.f1 < 0) = true := decide_eq_true hsb2
     have hres : (!(decide (0 ≤ x.f0) && (decide (x.f0 < 10) && (decide (0 ≤ x.f1) && (decide (x.f1 < 6) && ((x.f0 == 1 || x.f1 == 0) && ((x.f0 == 0 || q) && b))))))) = true := by clear HP HQ heq HM HWF; cases b <;> simp [*] <;> omega
     rw [hres]
     clear hres
     go_enter Try.func65, Try.ntmps65
     go_wp2
     go_ret
     exact ⟨rfl, zab (Below.refl _ _) _⟩
    ·have hsb20 : decide (x.f1 < 0) = false := decide_eq_false (by omega)
     by_cases hsb3 : 6 ≤ x.f1
     ·have hsb30 : decide (6 ≤ x.f1) = true := decide_eq_true hsb3
      have hres : (!(decide (0 ≤ x.f0) && (decide (x.f0 < 10) && (decide (0 ≤ x.f1) && (decide (x.f1 < 6) && ((x.f0 == 1 || x.f1 == 0) && ((x.f0 == 0 || q) && b))))))) = true := by clear HP HQ heq HM HWF; cases b <;> simp [*] <;> omega
      rw [hres]
      clear hres
      go_enter Try.func65, Try.ntmps65
      go_wp2
      go_ret
      exact ⟨rfl, zab (Below.refl _ _) _⟩
     ·have hsb30 : decide (6 ≤ x.f1) = false := decide_eq_false (by omega)
      have hres : (!(decide (0 ≤ x.f0) && (decide (x.f0 < 10) && (decide (0 ≤ x.f1) && (decide (x.f1 < 6) && ((x.f0 == 1 || x.f1 == 0) && ((x.f0 == 0 || q) && b))))))) = true := by clear HP HQ heq HM HWF; cases b <;> simp [*] <;> omega
      rw [hres]
      clear hres
      go_enter Try.func65, Try.ntmps65
      go_wp2
      go_ret
      exact ⟨rfl, zab (Below.refl _ _) _⟩
   ·have e30 : (x.f0 == 0) = false := beq_eq_false_iff_ne.2 e3
    cases q
    ·by_cases hsb0 : x.f0 < 0
     ·have hsb00 : decide (x.f0 < 0) = true := decide_eq_true hsb0
      have hres : (!(decide (0 ≤ x.f0) && (decide (x.f0 < 10) && (decide (0 ≤ x.f1) && (decide (x.f1 < 6) && ((x.f0 == 1 || x.f1 == 0) && ((x.f0 == 0 || false) && b))))))) = true := by clear HP HQ heq HM HWF; cases b <;> simp [*] <;> omega
      rw [hres]
      clear hres
      go_enter Try.func65, Try.ntmps65
      go_wp2
      go_ret
      exact ⟨rfl, zab (Below.refl _ _) _⟩
     ·have hsb00 : decide (x.f0 < 0) = false := decide_eq_false (by omega)
      by_cases hsb1 : 10 ≤ x.f0
      ·have hsb10 : decide (10 ≤ x.f0) = true := decide_eq_true hsb1
       have hres : (!(decide (0 ≤ x.f0) && (decide (x.f0 < 10) && (decide (0 ≤ x.f1) && (decide (x.f1 < 6) && ((x.f0 == 1 || x.f1 == 0) && ((x.f0 == 0 || false) && b))))))) = true := by clear HP HQ heq HM HWF; cases b <;> simp [*] <;> omega
       rw [hres]
       clear hres
       go_enter Try.func65, Try.ntmps65
       go_wp2
       go_ret
       exact ⟨rfl, zab (Below.refl _ _) _⟩
      ·have hsb10 : decide (10 ≤ x.f0) = false := decide_eq_false (by omega)
       by_cases hsb2 : x.f1 < 0
       ·have hsb20 : decide (x.f1 < 0) = true := decide_eq_true hsb2
        have hres : (!(decide (0 ≤ x.f0) && (decide (x.f0 < 10) && (decide (0 ≤ x.f1) && (decide (x.f1 < 6) && ((x.f0 == 1 || x.f1 == 0) && ((x.f0 == 0 || false) && b))))))) = true := by clear HP HQ heq HM HWF; cases b <;> simp [*] <;> omega
        rw [hres]
        clear hres
        go_enter Try.func65, Try.ntmps65
        go_wp2
        go_ret
        exact ⟨rfl, zab (Below.refl _ _) _⟩
       ·have hsb20 : decide (x.f1 < 0) = false := decide_eq_false (by omega)
        by_cases hsb3 : 6 ≤ x.f1
        ·have hsb30 : decide (6 ≤ x.f1) = true := decide_eq_true hsb3
         have hres : (!(decide (0 ≤ x.f0) && (decide (x.f0 < 10) && (decide (0 ≤ x.f1) && (decide (x.f1 < 6) && ((x.f0 == 1 || x.f1 == 0) && ((x.f0 == 0 || false) && b))))))) = true := by clear HP HQ heq HM HWF; cases b <;> simp [*] <;> omega
         rw [hres]
         clear hres
         go_enter Try.func65, Try.ntmps65
         go_wp2
         go_ret
         exact ⟨rfl, zab (Below.refl _ _) _⟩
        ·have hsb30 : decide (6 ≤ x.f1) = false := decide_eq_false (by omega)
         have hres : (!(decide (0 ≤ x.f0) && (decide (x.f0 < 10) && (decide (0 ≤ x.f1) && (decide (x.f1 < 6) && ((x.f0 == 1 || x.f1 == 0) && ((x.f0 == 0 || false) && b))))))) = true := by clear HP HQ heq HM HWF; cases b <;> simp [*] <;> omega
         rw [hres]
         clear hres
         go_enter Try.func65, Try.ntmps65
         go_wp2
         go_ret
         exact ⟨rfl, zab (Below.refl _ _) _⟩
    ·by_cases hsb0 : x.f0 < 0
     ·have hsb00 : decide (x.f0 < 0) = true := decide_eq_true hsb0
      have hres : (!(decide (0 ≤ x.f0) && (decide (x.f0 < 10) && (decide (0 ≤ x.f1) && (decide (x.f1 < 6) && ((x.f0 == 1 || x.f1 == 0) && ((x.f0 == 0 || true) && b))))))) = true := by clear HP HQ heq HM HWF; cases b <;> simp [*] <;> omega
      rw [hres]
      clear hres
      go_enter Try.func65, Try.ntmps65
      go_wp2
      go_ret
      exact ⟨rfl, zab (Below.refl _ _) _⟩
     ·have hsb00 : decide (x.f0 < 0) = false := decide_eq_false (by omega)
      by_cases hsb1 : 10 ≤ x.f0
      ·have hsb10 : decide (10 ≤ x.f0) = true := decide_eq_true hsb1
       have hres : (!(decide (0 ≤ x.f0) && (decide (x.f0 < 10) && (decide (0 ≤ x.f1) && (decide (x.f1 < 6) && ((x.f0 == 1 || x.f1 == 0) && ((x.f0 == 0 || true) && b))))))) = true := by clear HP HQ heq HM HWF; cases b <;> simp [*] <;> omega
       rw [hres]
       clear hres
       go_enter Try.func65, Try.ntmps65
       go_wp2
       go_ret
       exact ⟨rfl, zab (Below.refl _ _) _⟩
      ·have hsb10 : decide (10 ≤ x.f0) = false := decide_eq_false (by omega)
       by_cases hsb2 : x.f1 < 0
       ·have hsb20 : decide (x.f1 < 0) = true := decide_eq_true hsb2
        have hres : (!(decide (0 ≤ x.f0) && (decide (x.f0 < 10) && (decide (0 ≤ x.f1) && (decide (x.f1 < 6) && ((x.f0 == 1 || x.f1 == 0) && ((x.f0 == 0 || true) && b))))))) = true := by clear HP HQ heq HM HWF; cases b <;> simp [*] <;> omega
        rw [hres]
        clear hres
        go_enter Try.func65, Try.ntmps65
        go_wp2
        go_ret
        exact ⟨rfl, zab (Below.refl _ _) _⟩
       ·have hsb20 : decide (x.f1 < 0) = false := decide_eq_false (by omega)
        by_cases hsb3 : 6 ≤ x.f1
        ·have hsb30 : decide (6 ≤ x.f1) = true := decide_eq_true hsb3
         have hres : (!(decide (0 ≤ x.f0) && (decide (x.f0 < 10) && (decide (0 ≤ x.f1) && (decide (x.f1 < 6) && ((x.f0 == 1 || x.f1 == 0) && ((x.f0 == 0 || true) && b))))))) = true := by clear HP HQ heq HM HWF; cases b <;> simp [*] <;> omega
         rw [hres]
         clear hres
         go_enter Try.func65, Try.ntmps65
         go_wp2
         go_ret
         exact ⟨rfl, zab (Below.refl _ _) _⟩
        ·have hsb30 : decide (6 ≤ x.f1) = false := decide_eq_false (by omega)
         have hres : (!(decide (0 ≤ x.f0) && (decide (x.f0 < 10) && (decide (0 ≤ x.f1) && (decide (x.f1 < 6) && ((x.f0 == 1 || x.f1 == 0) && ((x.f0 == 0 || true) && b))))))) = true := by clear HP HQ heq HM HWF; cases b <;> simp [*] <;> omega
         rw [hres]
         clear hres
         go_enter Try.func65, Try.ntmps65
         go_wp2
         go_ret
         exact ⟨rfl, zab (Below.refl _ _) _⟩
set_option maxHeartbeats 1000000 in
set_option maxRecDepth 100000 in
theorem mayO_told (l : List SOp) (A : Option Addr) (c : Nat) (w : World) (hr : Kd.C kOp w A l.length l) (hc : l.length ≤ c) (hwf : ∀ x ∈ l, i64V x.f2) {b : Bool} (hm : mayO l = b) :
  Calls Try.prog 58 #[.slice A l.length c] w (zaS b w) := by
 have HR := Aside0.mk hr
 have HC := Aside0.mk hc
 have HWF := Aside0.mk hwf
 have hl := hr.2.1
 clear hr hc hwf
 unfold mayO at hm
 by_cases h2 : l.length ≤ 12
 ·rw [decide_eq_true h2, Bool.true_and] at hm
  have HCF := Aside0.mk (fun (W : World) (h : Below w.heap.size w W) => slices_ContainsFunc_api_Op.toldw 65 #[] (fun x => !mayP x) (fun x => i64V x.f2) A c l W (enters_of Try.func65 (by kernel_rfl) rfl) (may1O_told W) HWF.out (Kd.C_below HR.out h) HC.out)
  have e : l.any (fun x => !mayP x) = !b := by rw [← hm, List.not_all_eq_any_not]
  rw [e] at HCF
  clear e hm
  have h2i : (l.length : Int) ≤ 12 := by omega
  go_enter Try.func58, Try.ntmps58
  go_wp2_with (go_at_call 67; refine (HCF.out _ (Below.refl _ _)).mono ?_; rintro e w2 ⟨rfl, hb2⟩)
  go_ret
  exact ⟨rfl, hb2⟩
 ·rw [decide_eq_false h2, Bool.false_and] at hm
  subst hm
  have h2i : ¬ (l.length : Int) ≤ 12 := by omega
  go_enter Try.func58, Try.ntmps58
  go_wp2
  go_ret
  exact ⟨rfl, Below.refl _ _⟩
end Go.Proofs.Ytooemobolfoefaa.P


namespace Go.Proofs.Ytooemobolfoefaa.P
open Go.RowKit Go.Proofs.YtooemobolfoefaaW.PrintWords Go.Proofs.YtooemobolfoefaaW.PrintLast Go.Proofs.YtooemobolfoefaaW.PrintMore
attribute [local go_sem] zaX zaV zbf zbe zaO zaN zaW zaU   -- for this text's walks alone
set_option linter.unusedVariables false
set_option linter.unusedSimpArgs false
def putORel (P0 : List Int) (l : List SOp) (w : World) (k : Nat) (v : Value) (w' : World) : Prop := k ≤ l.length ∧ Own8 5 w.heap.size w' v (P0 ++ opsL (l.take k)) ∧ Below w.heap.size w w' ∧ (P0 ++ opsL (l.take k)).length ≤ 10 + 60 * k
theorem bytesV_few {x : SValue} (h : okV x) : (bytesV x).length ≤ 51 := by
 have h1 := lePut_len (numV_lt h.2 h.1)
 have h2 : x.f2.size ≤ 40 := by
  rcases mayV_iff.1 h.1 with ⟨_, hs⟩ | ⟨_, hs, _⟩ | ⟨_, _, hs⟩ | ⟨_, hs, _⟩
  ·rw [zaR hs]; decide
  ·rw [zaR hs]; decide
  ·exact hs
  ·rw [zaR hs]; decide
 unfold bytesV
 simp only [List.length_cons, List.length_append, za0]
 omega
set_option maxHeartbeats 1000000 in
set_option maxRecDepth 100000 in
theorem putO_no (l : List SOp) (A : Option Addr) (c : Nat) (w : World) (hr : Kd.C kOp w A l.length l) (hc : l.length ≤ c) (hwf : ∀ x ∈ l, i64V x.f2) (h1 : mayO l = false) : Calls Try.prog 40 #[.slice A l.length c] w (bytesPost 5 [] false w) := by
 go_enter Try.func40, Try.ntmps40
 go_wp2_with fail
 go_at_call 58
 refine (mayO_told l A c _ hr hc hwf h1).mono ?_
 rintro e w1 ⟨rfl, hb1⟩
 go_wp2_with fail
 go_ret2
 exact ⟨_, rfl, Kd.R_nil _ _ _ _ _, hb1⟩
set_option maxHeartbeats 8000000 in
set_option maxRecDepth 100000 in
theorem putO_go (l : List SOp) (A : Option Addr) (c : Nat) (w : World) (hr : Kd.C kOp w A l.length l) (hc : l.length ≤ c) (hwf : ∀ x ∈ l, i64V x.f2) (h1 : mayO l = true) : Calls Try.prog 40 #[.slice A l.length c] w (bytesPost 5 (zbb l) true w) := by
 have HR := Aside0.mk hr
 have HC := Aside0.mk hc
 have HWF := Aside0.mk hwf
 have HM := Aside0.mk h1
 have HMP := Aside0.mk (mayO_iff.1 h1).2
 have hl := (mayO_iff.1 h1).1
 have hlp := lePut_len (n := l.length) (by omega)
 have hu : IntKind.u64.wrap (l.length : Int) = (l.length : Int) := u64_small' (by omega)
 obtain ⟨P0, hP0⟩ : ∃ P0, zaE l.length = P0 := ⟨_, rfl⟩
 have HP0 := Aside0.mk hP0
 have HBO : Aside0 (P0 ++ opsL l = zbb l) := ⟨by rw [← hP0]; rfl⟩
 rw [hP0] at hlp
 clear hr hc hwf h1 hP0
 go_enter Try.func40, Try.ntmps40
 go_wp2_with fail
 go_at_call 58
 refine (mayO_told l A c _ HR.out HC.out HWF.out HM.out).mono ?_
 rintro e w1 ⟨rfl, hb1⟩
 have HB1 := Aside0.mk hb1
 clear hb1
 go_wp2_with fail
 go_at_call 41
 refine (le_Put.told l.length _ (by omega)).mono ?_
 rintro e w2 ⟨v2, rfl, ho2, hb2⟩
 rw [HP0.out] at ho2
 have HO2 := Aside0.mk (Own8.lower (show Own8 _ _ _ _ _ from ho2) (zao HB1.out))
 have HB2 := Aside0.mk (zah HB1.out hb2)
 clear ho2 hb2
 go_wp2_with fail
 go_loopw [4, 6, 7, 8, 18] (fun v4 _ _ _ v18 w' => ∃ k : Nat, v18 = .int .i64 k ∧ putORel P0 l w k v4 w') (fun _ _ _ _ i _ => l.length - (intOf i).toNat)
 case atStart => exact ⟨0, rfl, Nat.zero_le _, by rw [show P0 ++ opsL (l.take 0) = P0 from by simp [opsL]]; exact HO2.out, HB2.out, by rw [show P0 ++ opsL (l.take 0) = P0 from by simp [opsL]]; omega⟩
 case round =>
  obtain ⟨k, rfl, hk, ho, hb, hlen⟩ := hrel
  have HO := Aside0.mk ho
  have HB := Aside0.mk hb
  clear ho hb HO2 HB2
  by_cases hlt : k < l.length
  ·obtain ⟨ad, e, z0, z1, z2, z3, z4⟩ := at_TOp (Kd.C_below HR.out HB.out) (k : Int) (by omega) (by omega)
   cases e
   simp only [Int.toNat_natCast] at z0 z1 z2 z3 z4
   rw [show zaD l (k : Int) = l.getD k zOp from rfl] at z0 z1 z2 z3 z4
   have hin := getD_in zOp hlt
   have hmp := HMP.out _ hin
   have hix := HWF.out _ hin
   have HSN := Aside0.mk (opsL_snoc l k hlt)
   generalize l.getD k zOp = x at *
   have hmq := mayP_iff.1 hmp
   obtain ⟨q0, q1, q2, q3, _, _, q6⟩ := hmq
   have HKX : Aside0 (okV x.f2) := ⟨⟨q6, hix⟩⟩
   have hbf := bytesV_few HKX.out
   have hw0 : IntKind.u8.wrap x.f0 = x.f0 := by rw [show IntKind.u8.wrap x.f0 = x.f0 % 256 from rfl]; omega
   have hw1 : IntKind.u8.wrap x.f1 = x.f1 := by rw [show IntKind.u8.wrap x.f1 = x.f1 % 256 from rfl]; omega
   obtain ⟨pre, hpre⟩ : ∃ pre, P0 ++ opsL (l.take k) = pre := ⟨_, rfl⟩
   rw [hpre] at HO hlen
   have HPRE := Aside0.mk hpre
   have HBX := Aside0.mk (zab HB.out (.cells #[.int .i64 x.f0, .int .i64 x.f1, .int .i64 x.f2.f0, .int .i64 x.f2.f1, .string x.f2.f2] 75))
   have HOX := Aside0.mk (Kd.R_alloc HO.out (.cells #[.int .i64 x.f0, .int .i64 x.f1, .int .i64 x.f2.f0, .int .i64 x.f2.f1, .string x.f2.f2] 75))
   have HKB := Aside0.mk (zat wr (.cells #[.int .i64 x.f0, .int .i64 x.f1, .int .i64 x.f2.f0, .int .i64 x.f2.f1, .string x.f2.f2] 75))
   clear hpre hmp hix q6 q2 hin
   have HNE := Aside0.mk (Kd.R_ne HOX.out HKB.out (by decide))
   have hpl : (pre ++ [x.f0]).length = pre.length + 1 := by simp
   have hk1 : k + 1 ≤ l.length := by omega
   obtain ⟨pr2, hpr2⟩ : ∃ pr2, pre ++ [x.f0] = pr2 := ⟨_, rfl⟩
   rw [hpr2] at hpl
   have HPR2 := Aside0.mk hpr2
   clear hpr2
   by_cases c0 : x.f0 = 0
   ·have c0b : (x.f0 == 0) = true := beq_iff_eq.2 c0
    have HPN : Aside0 (P0 ++ opsL (l.take (k + 1)) = pr2 ++ bytesV x.f2) := ⟨by rw [HSN.out, ← List.append_assoc, HPRE.out, ← HPR2.out, show zbs x = x.f0 :: bytesV x.f2 from by unfold zbs; rw [if_pos c0], List.append_assoc]; rfl⟩
    clear c0
    go_wp2_with ((with_reducible refine zaz (b := .append) (xs := #[.tmp 22, .tmp 26]) rfl ?_); at_builtin; refine Kd.R_append (Kd.int .u8) (w0 := w) w.heap.size rfl (.tmp 22) (.tmp 26) 25 5 (.int .u8 0) 1 rfl Try.underlying25 info5 rfl ?h1 ?h2 u4 (pre) (x.f0) [.int .u8 (x.f0)] (fun _ => True) (fun _ => False) ?hs ?hx ?aP (fun _ hk => hk.elim) (fun _ _ => trivial) ?aO ?aB ?aS ?aL ?_; (case h1 => decide); (case h2 => decide); (case hs => rfl); (case hx => first | rfl | (show Value.slice (some ⟨wr.heap.size + 1, 0, none⟩) 1 1 = _; rw [World.size_alloc])); (case aP => exact rfl); (case aO => exact HOX.out); (case aB => exact HBX.out); (case aS => exact zao (HBX.out)); (case aL => omega); intro v3 w3 ho3 hb3 hg3 hat3; have HO3 := Aside0.mk ho3; have HB3 := Aside0.mk hb3; have HK3 := Aside0.mk (zba HKB.out hg3 HNE.out); obtain ⟨j1, j2, j3, j4⟩ := know HK3.out; rw [HPR2.out] at HO3; clear ho3 hb3 hg3 hat3)
    go_at_call 59
    refine (value_Put.told x.f2 _ HKX.out.2 HKX.out.1 (if_pos rfl)).mono ?_
    rintro e w7 ⟨v7, rfl, ho7, hb7⟩
    obtain ⟨A7, c7, rfl, hc7, hr7⟩ := Own8.reads ho7
    have HR7 := Aside0.mk hr7
    have HO7 := Aside0.mk (Own8.below (show Own8 _ _ _ _ _ from HO3.out) hb7)
    have HB7 := Aside0.mk (zah HB3.out hb7)
    clear ho7 hr7 hb7 j1 j2 j3 j4
    go_wp2_with ((with_reducible refine zaz (b := .append) (xs := #[.tmp 38, .tmp 39]) rfl ?_); at_builtin; refine app8 (w0 := w) w.heap.size rfl _ _ 25 5 rfl Try.underlying25 info5 _ pr2 (bytesV x.f2) A7 _ c7 rfl rfl HO7.out HR7.out HB7.out (zao HB7.out) (by omega) ?_; intro v8 w8 ho8 hb8 hg8; have HO8 := Aside0.mk ho8; have HB8 := Aside0.mk hb8; clear ho8 hb8 hg8)
    go_roundw
    case rel => exact ⟨k + 1, by go_num, hk1, by rw [HPN.out]; exact HO8.out, HB8.out, by rw [HPN.out, List.length_append]; omega⟩
    case measure => simp [intOf]; omega
   ·have c0b : (x.f0 == 0) = false := beq_eq_false_iff_ne.2 c0
    by_cases c1 : x.f0 = 1
    ·have c1b : (x.f0 == 1) = true := beq_iff_eq.2 c1
     have HPN : Aside0 (P0 ++ opsL (l.take (k + 1)) = pr2 ++ [x.f1]) := ⟨by rw [HSN.out, ← List.append_assoc, HPRE.out, ← HPR2.out, show zbs x = x.f0 :: [x.f1] from by unfold zbs; rw [if_neg c0, if_pos c1], List.append_assoc]; rfl⟩
     clear c0 c1
     go_wp2_with (first
      | ((with_reducible refine zaz (b := .append) (xs := #[.tmp 22, .tmp 26]) rfl ?_); at_builtin; refine Kd.R_append (Kd.int .u8) (w0 := w) w.heap.size rfl (.tmp 22) (.tmp 26) 25 5 (.int .u8 0) 1 rfl Try.underlying25 info5 rfl ?h1 ?h2 u4 (pre) (x.f0) [.int .u8 (x.f0)] (fun _ => True) (fun _ => False) ?hs ?hx ?aP (fun _ hk => hk.elim) (fun _ _ => trivial) ?aO ?aB ?aS ?aL ?_; (case h1 => decide); (case h2 => decide); (case hs => rfl); (case hx => first | rfl | (show Value.slice (some ⟨wr.heap.size + 1, 0, none⟩) 1 1 = _; rw [World.size_alloc])); (case aP => exact rfl); (case aO => exact HOX.out); (case aB => exact HBX.out); (case aS => exact zao (HBX.out)); (case aL => omega); intro v3 w3 ho3 hb3 hg3 hat3; have HO3 := Aside0.mk ho3; have HB3 := Aside0.mk hb3; have HK3 := Aside0.mk (zba HKB.out hg3 HNE.out); obtain ⟨j1, j2, j3, j4⟩ := know HK3.out; rw [HPR2.out] at HO3; clear ho3 hb3 hg3 hat3)
      | ((with_reducible refine zaz (b := .append) (xs := #[.tmp 43, .tmp 47]) rfl ?_); at_builtin; refine Kd.R_append (Kd.int .u8) (w0 := w) w.heap.size rfl (.tmp 43) (.tmp 47) 25 5 (.int .u8 0) 1 rfl Try.underlying25 info5 rfl ?h1 ?h2 v3 (pr2) (x.f1) [.int .u8 (x.f1)] (fun _ => True) (fun _ => False) ?hs ?hx ?aP (fun _ hk => hk.elim) (fun _ _ => trivial) ?aO ?aB ?aS ?aL ?_; (case h1 => decide); (case h2 => decide); (case hs => rfl); (case hx => first | rfl | (show Value.slice (some ⟨wr.heap.size + 1, 0, none⟩) 1 1 = _; rw [World.size_alloc])); (case aP => exact rfl); (case aO => exact HO3.out); (case aB => exact HB3.out); (case aS => exact zao (HB3.out)); (case aL => omega); intro v4 w4 ho4 hb4 hg4 hat4; have HO4 := Aside0.mk ho4; have HB4 := Aside0.mk hb4; clear ho4 hb4 hg4 hat4))
     go_roundw
     case rel => exact ⟨k + 1, by go_num, hk1, by rw [HPN.out]; exact HO4.out, HB4.out, by rw [HPN.out, List.length_append, List.length_singleton]; omega⟩
     case measure => simp [intOf]; omega
    ·have c1b : (x.f0 == 1) = false := beq_eq_false_iff_ne.2 c1
     have HPN : Aside0 (P0 ++ opsL (l.take (k + 1)) = pr2) := ⟨by rw [HSN.out, ← List.append_assoc, HPRE.out, ← HPR2.out, show zbs x = [x.f0] from by unfold zbs; rw [if_neg c0, if_neg c1]]⟩
     clear c0 c1
     go_wp2_with ((with_reducible refine zaz (b := .append) (xs := #[.tmp 22, .tmp 26]) rfl ?_); at_builtin; refine Kd.R_append (Kd.int .u8) (w0 := w) w.heap.size rfl (.tmp 22) (.tmp 26) 25 5 (.int .u8 0) 1 rfl Try.underlying25 info5 rfl ?h1 ?h2 u4 (pre) (x.f0) [.int .u8 (x.f0)] (fun _ => True) (fun _ => False) ?hs ?hx ?aP (fun _ hk => hk.elim) (fun _ _ => trivial) ?aO ?aB ?aS ?aL ?_; (case h1 => decide); (case h2 => decide); (case hs => rfl); (case hx => first | rfl | (show Value.slice (some ⟨wr.heap.size + 1, 0, none⟩) 1 1 = _; rw [World.size_alloc])); (case aP => exact rfl); (case aO => exact HOX.out); (case aB => exact HBX.out); (case aS => exact zao (HBX.out)); (case aL => omega); intro v3 w3 ho3 hb3 hg3 hat3; have HO3 := Aside0.mk ho3; have HB3 := Aside0.mk hb3; have HK3 := Aside0.mk (zba HKB.out hg3 HNE.out); obtain ⟨j1, j2, j3, j4⟩ := know HK3.out; rw [HPR2.out] at HO3; clear ho3 hb3 hg3 hat3)
     go_roundw
     case rel => exact ⟨k + 1, by go_num, hk1, by rw [HPN.out]; exact HO3.out, HB3.out, by rw [HPN.out]; omega⟩
     case measure => simp [intOf]; omega
  ·have hk3 : k = l.length := by omega
   have hfin := HO.out
   rw [hk3, List.take_length, HBO.out] at hfin
   have HFIN := Aside0.mk hfin
   clear hfin hk3
   go_wp2_with fail
   go_ret2
   exact ⟨_, rfl, HFIN.out, HB.out⟩
theorem putO_told (l : List SOp) (A : Option Addr) (c : Nat) (w : World) (hr : Kd.C kOp w A l.length l) (hc : l.length ≤ c) (hwf : ∀ x ∈ l, i64V x.f2) {b : Bool} (hm : mayO l = b) {P : List Int} (hP : (if b then zbb l else []) = P) : Calls Try.prog 40 #[.slice A l.length c] w (bytesPost 5 P b w) := by
 subst hP
 cases b with
 | false => exact putO_no l A c w hr hc hwf hm
 | true => exact putO_go l A c w hr hc hwf hm
theorem eqAOp (d : Nat) (w : World) (x0 y0 : Int) (x1 y1 : Int) (x2 y2 : Int) (x3 y3 : Int) (x4 y4 : ByteArray) :
  (Op.equalIn (d + 3) 75 (.agg #[.int .i64 x0, .int .i64 x1, .int .i64 x2, .int .i64 x3, .string x4]) (.agg #[.int .i64 y0, .int .i64 y1, .int .i64 y2, .int .i64 y3, .string y4])).run Try.prog w = .ok (x0 == y0 && (x1 == y1 && ((x2 == y2 && (x3 == y3 && (x4.toList == y4.toList)))))) w := by
 refine eqA_of Try.underlying75 (by kernel_rfl) ?_
 refine eqf_cons (by rfl) (by go_simp; rfl) (by go_simp; rfl) (by go_simp) ?_
 refine eqf_cons (by rfl) (by go_simp; rfl) (by go_simp; rfl) (by go_simp) ?_
 exact eqf_last (by rfl) (by go_simp) (by go_simp) (eqAValue (d + 0) w _ _ _ _ _ _)
end Go.Proofs.Ytooemobolfoefaa.P


namespace Go.Proofs.Ytooemobolfoefaa.P
open Go.RowKit Go.Proofs.YtooemobolfoefaaW.PrintWords Go.Proofs.YtooemobolfoefaaW.PrintLast Go.Proofs.YtooemobolfoefaaW.PrintMore
attribute [local go_sem] zaX zaV zbf zbe zaO zaN zaW zaU   -- for this text's walks alone
set_option linter.unusedVariables false
set_option linter.unusedSimpArgs false
attribute [local go_sem high] eqAOp
def slices_Equal_api_Op.l0 : Nat → List (SOp) → List (SOp) → Int → Int → Option (Bool)
 | 0, _, _, _, _ => none
 | k + 1, x0, x1, x12, x13 => if x13 < x12 then (if 0 ≤ x13 then (if x13 < (x0.length : Int) then (if x13 < (x1.length : Int) then (if (!(((zaD x0 x13).f0) == ((zaD x1 x13).f0)) || (!(((zaD x0 x13).f1) == ((zaD x1 x13).f1)) || ((!(((zaD x0 x13).f2.f0) == ((zaD x1 x13).f2.f0)) || (!(((zaD x0 x13).f2.f1) == ((zaD x1 x13).f2.f1)) || (!((((zaD x0 x13).f2.f2).toList) == (((zaD x1 x13).f2.f2).toList)))))))) = true then (some false) else (slices_Equal_api_Op.l0 k x0 x1 x12 (wrap64 (x13 + 1)))) else (none)) else (none)) else (none)) else (some true)
def slices_Equal_api_Op.f (k : Nat) (l0 : List (SOp)) (l1 : List (SOp)) : Option (Bool) := if (l0.length : Int) = (l1.length : Int) then (slices_Equal_api_Op.l0 k l0 l1 (l0.length : Int) 0) else (some false)
set_option maxHeartbeats 8000000 in
set_option maxRecDepth 100000 in
theorem slices_Equal_api_Op.calls (k : Nat) (A0 : Option Addr) (c0 : Nat) (l0 : List (SOp)) (A1 : Option Addr) (c1 : Nat) (l1 : List (SOp)) (r : Bool) (w : World) (hr0 : Kd.C kOp w A0 l0.length l0) (hc0 : l0.length ≤ c0) (hr1 : Kd.C kOp w A1 l1.length l1) (hc1 : l1.length ≤ c1) (h : slices_Equal_api_Op.f k l0 l1 = some r) :
  Calls Try.prog 61 #[.slice A0 l0.length c0, .slice A1 l1.length c1] w fun e w' => e = .returned (.bool r) ∧ Drawn0 w w' := by
 have hu75 := Try.underlying75
 have HR0 := Aside0.mk hr0
 have HC0 := Aside0.mk hc0
 clear hr0 hc0
 have HR1 := Aside0.mk hr1
 have HC1 := Aside0.mk hc1
 clear hr1 hc1
 have H : (if (l0.length : Int) = (l1.length : Int) then (slices_Equal_api_Op.l0 k l0 l1 (l0.length : Int) 0) else (some false)) = some r := h
 clear h
 by_cases c3 : (l0.length : Int) = (l1.length : Int)
 ·rw [if_pos c3] at H
  have c3b0 : ((l0.length : Int) == (l1.length : Int)) = true := beq_iff_eq.mpr c3
  have c3b1 : ((l0.length : Int) != (l1.length : Int)) = false := bne_eq_false_iff_eq.mpr c3
  have c3b2 : (l0.length == l1.length) = true := by first | simpa using c3 | (simp at c3 ⊢; omega)
  clear c3
  have H' := Aside0.mk H
  clear H
  go_enter Try.func61, Try.ntmps61
  go_wp2
  repeat (go_quiet (fail); try go_wp2)
  go_loopg [13] k (fun kq v13 w' => ∃ (x13_1 : Int), v13 = .int .i64 x13_1 ∧ Aside0 (slices_Equal_api_Op.l0 kq l0 l1 (l0.length : Int) x13_1 = some r) ∧ Aside0 (kq ≤ k) ∧ Drawn0 w w')
  case atStart => exact ⟨(0), (by first | rfl | (simp; done) | (simp [*]; done)), H', ⟨Nat.le_refl _⟩, by repeat (first | exact Drawn0.refl _ | apply Drawn0.step)⟩
  case round =>
   clear H'
   try clear c1
   try clear p2
   try clear c3
   try clear c3b0
   try clear c3b1
   try clear c3b2
   obtain ⟨x13_1, rfl, HA, HK1, ⟨m1, rfl⟩⟩ := hrel
   cases gk with
   | zero => exact absurd HA.out (by simp [slices_Equal_api_Op.l0])
   | succ k1 =>
    have H := HA.out
    clear HA
    simp only [slices_Equal_api_Op.l0] at H
    by_cases c4 : x13_1 < (l0.length : Int)
    ·rw [if_pos c4] at H
     have c4b0 : decide (x13_1 < (l0.length : Int)) = true := decide_eq_true c4
     clear c4
     by_cases c5 : 0 ≤ x13_1
     ·rw [if_pos c5] at H
      have c5b0 : decide (0 ≤ x13_1) = true := decide_eq_true c5
      clear c5
      by_cases c6 : x13_1 < (l0.length : Int)
      ·rw [if_pos c6] at H
       have c6b0 : decide (x13_1 < (l0.length : Int)) = true := decide_eq_true c6
       clear c6
       by_cases c7 : x13_1 < (l1.length : Int)
       ·rw [if_pos c7] at H
        have c7b0 : decide (x13_1 < (l1.length : Int)) = true := decide_eq_true c7
        clear c7
        by_cases c8 : (!(((zaD l0 x13_1).f0) == ((zaD l1 x13_1).f0)) || (!(((zaD l0 x13_1).f1) == ((zaD l1 x13_1).f1)) || ((!(((zaD l0 x13_1).f2.f0) == ((zaD l1 x13_1).f2.f0)) || (!(((zaD l0 x13_1).f2.f1) == ((zaD l1 x13_1).f2.f1)) || (!((((zaD l0 x13_1).f2.f2).toList) == (((zaD l1 x13_1).f2.f2).toList)))))))) = true
        ·rw [if_pos c8] at H
         have c8b0 : (!(((zaD l0 x13_1).f0) == ((zaD l1 x13_1).f0)) || (!(((zaD l0 x13_1).f1) == ((zaD l1 x13_1).f1)) || ((!(((zaD l0 x13_1).f2.f0) == ((zaD l1 x13_1).f2.f0)) || (!(((zaD l0 x13_1).f2.f1) == ((zaD l1 x13_1).f2.f1)) || (!((((zaD l0 x13_1).f2.f2).toList) == (((zaD l1 x13_1).f2.f2).toList)))))))) = true := c8
         clear c8
         obtain rfl := Option.some.inj H
         have p124 : 0 ≤ (x13_1 : Int) := of_decide_eq_true (by first | (with_reducible assumption) | assumption)
         have q124 : x13_1 < (l0.length : Int) := of_decide_eq_true (by first | (with_reducible assumption) | assumption)
         obtain ⟨ad124, e124, hx124_0, hx124_1, hx124_2, hx124_3, hx124_4⟩ := at_TOp HR0.out x13_1 p124 q124
         cases e124
         replace p124 := eq_true p124
         replace q124 := eq_true q124
         have p125 : 0 ≤ (x13_1 : Int) := of_decide_eq_true (by first | (with_reducible assumption) | assumption)
         have q125 : x13_1 < (l1.length : Int) := of_decide_eq_true (by first | (with_reducible assumption) | assumption)
         obtain ⟨ad125, e125, hx125_0, hx125_1, hx125_2, hx125_3, hx125_4⟩ := at_TOp HR1.out x13_1 p125 q125
         cases e125
         replace p125 := eq_true p125
         replace q125 := eq_true q125
         go_wp2
         repeat (go_quiet (fail); try go_wp2)
         go_ret
         exact ⟨by first | rfl | (simp; done) | (simp [*]; done), by repeat (first | exact Drawn0.refl _ | apply Drawn0.step)⟩
        ·rw [if_neg c8] at H
         have c8b0 : (!(((zaD l0 x13_1).f0) == ((zaD l1 x13_1).f0)) || (!(((zaD l0 x13_1).f1) == ((zaD l1 x13_1).f1)) || ((!(((zaD l0 x13_1).f2.f0) == ((zaD l1 x13_1).f2.f0)) || (!(((zaD l0 x13_1).f2.f1) == ((zaD l1 x13_1).f2.f1)) || (!((((zaD l0 x13_1).f2.f2).toList) == (((zaD l1 x13_1).f2.f2).toList)))))))) = false := by simpa using c8
         clear c8
         have H' := Aside0.mk H
         clear H
         have p124 : 0 ≤ (x13_1 : Int) := of_decide_eq_true (by first | (with_reducible assumption) | assumption)
         have q124 : x13_1 < (l0.length : Int) := of_decide_eq_true (by first | (with_reducible assumption) | assumption)
         obtain ⟨ad124, e124, hx124_0, hx124_1, hx124_2, hx124_3, hx124_4⟩ := at_TOp HR0.out x13_1 p124 q124
         cases e124
         replace p124 := eq_true p124
         replace q124 := eq_true q124
         have p125 : 0 ≤ (x13_1 : Int) := of_decide_eq_true (by first | (with_reducible assumption) | assumption)
         have q125 : x13_1 < (l1.length : Int) := of_decide_eq_true (by first | (with_reducible assumption) | assumption)
         obtain ⟨ad125, e125, hx125_0, hx125_1, hx125_2, hx125_3, hx125_4⟩ := at_TOp HR1.out x13_1 p125 q125
         cases e125
         replace p125 := eq_true p125
         replace q125 := eq_true q125
         go_wp2
         repeat (go_quiet (fail); try go_wp2)
         go_roundg k1
         case measure => have := HK1.out; omega
         case rel => exact ⟨(wrap64 (x13_1 + 1)), (by first | rfl | (simp; done) | (simp [*]; done)), H', ⟨by have := HK1.out; omega⟩, by repeat (first | exact Drawn0.refl _ | apply Drawn0.step)⟩
       ·rw [if_neg c7] at H
        exact absurd H (by simp)
      ·rw [if_neg c6] at H
       exact absurd H (by simp)
     ·rw [if_neg c5] at H
      exact absurd H (by simp)
    ·rw [if_neg c4] at H
     have c4b0 : decide (x13_1 < (l0.length : Int)) = false := decide_eq_false c4
     clear c4
     obtain rfl := Option.some.inj H
     go_wp2
     repeat (go_quiet (fail); try go_wp2)
     go_ret
     exact ⟨by first | rfl | (simp; done) | (simp [*]; done), by repeat (first | exact Drawn0.refl _ | apply Drawn0.step)⟩
 ·rw [if_neg c3] at H
  have c3b0 : ((l0.length : Int) == (l1.length : Int)) = false := beq_eq_false_iff_ne.mpr c3
  have c3b1 : ((l0.length : Int) != (l1.length : Int)) = true := bne_iff_ne.mpr c3
  have c3b2 : (l0.length == l1.length) = false := by first | simpa using c3 | (simp at c3 ⊢; omega)
  obtain rfl := Option.some.inj H
  go_enter Try.func61, Try.ntmps61
  go_wp2
  repeat (go_quiet (fail); try go_wp2)
  go_ret
  exact ⟨by first | rfl | (simp; done) | (simp [*]; done), by repeat (first | exact Drawn0.refl _ | apply Drawn0.step)⟩
end Go.Proofs.Ytooemobolfoefaa.P


namespace Go.Proofs.Ytooemobolfoefaa.P
open Go.RowKit Go.Proofs.YtooemobolfoefaaW.PrintWords Go.Proofs.YtooemobolfoefaaW.PrintLast Go.Proofs.YtooemobolfoefaaW.PrintMore
attribute [local go_sem] zaX zaV zbf zbe zaO zaN zaW zaU   -- for this text's walks alone
set_option linter.unusedVariables false
set_option linter.unusedSimpArgs false
def expr_Same.f (k : Nat) (l0 : List (SOp)) (l1 : List (SOp)) : Option (Bool) := (slices_Equal_api_Op.f k l0 l1).bind fun t126 => (some t126)
set_option maxHeartbeats 8000000 in
set_option maxRecDepth 100000 in
theorem expr_Same.calls (k : Nat) (A0 : Option Addr) (c0 : Nat) (l0 : List (SOp)) (A1 : Option Addr) (c1 : Nat) (l1 : List (SOp)) (r : Bool) (w : World) (hr0 : Kd.C kOp w A0 l0.length l0) (hc0 : l0.length ≤ c0) (hr1 : Kd.C kOp w A1 l1.length l1) (hc1 : l1.length ≤ c1) (h : expr_Same.f k l0 l1 = some r) :
  Calls Try.prog 46 #[.slice A0 l0.length c0, .slice A1 l1.length c1] w fun e w' => e = .returned (.bool r) ∧ Drawn0 w w' := by
 have HR0 := Aside0.mk hr0
 have HC0 := Aside0.mk hc0
 clear hr0 hc0
 have HR1 := Aside0.mk hr1
 have HC1 := Aside0.mk hc1
 clear hr1 hc1
 have H : ((slices_Equal_api_Op.f k l0 l1).bind fun t126 => (some t126)) = some r := h
 clear h
 replace H := Option.bind_eq_some_iff.mp H
 obtain ⟨t126, A30, H⟩ := H
 replace H : (some t126) = some r := H
 have A3 := Aside0.mk A30
 clear A30
 obtain rfl := Option.some.inj H
 go_enter Try.func46, Try.ntmps46
 go_wp2_with (first | ((with_reducible refine zap (f := 61) rfl ?_); refine zau (some 7) rfl rfl Try.func61 (by kernel_rfl) rfl #[.slice A0 l0.length c0, .slice A1 l1.length c1] rfl (by (try simp only [List.map_toArray, List.map_cons, List.map_nil]); first | done | rfl | (simp only [List.length_drop, List.length_take]; rfl)) ?_; (with_reducible refine (slices_Equal_api_Op.calls k _ _ l0 _ _ l1 t126 _ ?side1 ?side2 ?side3 ?side4 A3.out).mono ?_); (case side1 => repeat (first | exact HR0.out | (with_reducible refine Kd.C_alloc ?_ _) | (with_reducible refine Kd.C_drewN ?_ _) | (with_reducible refine Kd.C_drew ?_))); (case side2 => exact HC0.out); (case side3 => repeat (first | exact HR1.out | (with_reducible refine Kd.C_alloc ?_ _) | (with_reducible refine Kd.C_drewN ?_ _) | (with_reducible refine Kd.C_drew ?_))); (case side4 => exact HC1.out); rintro e w' ⟨rfl, ⟨nd, rfl⟩⟩; refine ⟨_, rfl, ?_⟩))
 go_ret
 exact ⟨by first | rfl | (simp; done) | (simp [*]; done), by repeat (first | exact Drawn0.refl _ | apply Drawn0.step)⟩
def towncrierlaw08_Few.l0 : Nat → List (SOp) → Int → Option (Bool)
 | 0, _, _ => none
 | k + 1, x0, x3 => if x3 < (x0.length : Int) then (if 0 ≤ x3 then (if (((zaD x0 x3).f2.f2).size : Int) > 100 then (some false) else (towncrierlaw08_Few.l0 k x0 (wrap64 (x3 + 1)))) else (none)) else (some true)
def towncrierlaw08_Few.f (k : Nat) (l0 : List (SOp)) : Option (Bool) := if (l0.length : Int) > 20 then (some false) else (towncrierlaw08_Few.l0 k l0 0)
set_option maxHeartbeats 8000000 in
set_option maxRecDepth 100000 in
theorem towncrierlaw08_Few.calls (k : Nat) (A0 : Option Addr) (c0 : Nat) (l0 : List (SOp)) (r : Bool) (w : World) (hr0 : Kd.C kOp w A0 l0.length l0) (hc0 : l0.length ≤ c0) (h : towncrierlaw08_Few.f k l0 = some r) :
  Calls Try.prog 20 #[.slice A0 l0.length c0] w fun e w' => e = .returned (.bool r) ∧ Drawn0 w w' := by
 have HR0 := Aside0.mk hr0
 have HC0 := Aside0.mk hc0
 clear hr0 hc0
 have H : (if (l0.length : Int) > 20 then (some false) else (towncrierlaw08_Few.l0 k l0 0)) = some r := h
 clear h
 by_cases c2 : (l0.length : Int) > 20
 ·rw [if_pos c2] at H
  have c2b0 : decide (20 < (l0.length : Int)) = true := decide_eq_true c2
  have c2b1 : decide (20 < l0.length) = true := decide_eq_true (by omega)
  clear c2
  obtain rfl := Option.some.inj H
  go_enter Try.func20, Try.ntmps20
  go_wp2
  go_ret
  exact ⟨by first | rfl | (simp; done) | (simp [*]; done), by repeat (first | exact Drawn0.refl _ | apply Drawn0.step)⟩
 ·rw [if_neg c2] at H
  have c2b0 : decide (20 < (l0.length : Int)) = false := decide_eq_false c2
  have c2b1 : decide (20 < l0.length) = false := decide_eq_false (by omega)
  clear c2
  have H' := Aside0.mk H
  clear H
  go_enter Try.func20, Try.ntmps20
  go_wp2
  go_loopg [3] k (fun kq v3 w' => ∃ (x3_1 : Int), v3 = .int .i64 x3_1 ∧ Aside0 (towncrierlaw08_Few.l0 kq l0 x3_1 = some r) ∧ Aside0 (kq ≤ k) ∧ Drawn0 w w')
  case atStart => exact ⟨(0), (by first | rfl | (simp; done) | (simp [*]; done)), H', ⟨Nat.le_refl _⟩, by repeat (first | exact Drawn0.refl _ | apply Drawn0.step)⟩
  case round =>
   clear H'
   try clear c2
   try clear c2b0
   try clear c2b1
   try clear p2
   obtain ⟨x3_1, rfl, HA, HK1, ⟨m1, rfl⟩⟩ := hrel
   cases gk with
   | zero => exact absurd HA.out (by simp [towncrierlaw08_Few.l0])
   | succ k1 =>
    have H := HA.out
    clear HA
    simp only [towncrierlaw08_Few.l0] at H
    by_cases c3 : x3_1 < (l0.length : Int)
    ·rw [if_pos c3] at H
     have c3b0 : decide (x3_1 < (l0.length : Int)) = true := decide_eq_true c3
     clear c3
     by_cases c4 : 0 ≤ x3_1
     ·rw [if_pos c4] at H
      have c4b0 : decide (0 ≤ x3_1) = true := decide_eq_true c4
      clear c4
      by_cases c5 : (((zaD l0 x3_1).f2.f2).size : Int) > 100
      ·rw [if_pos c5] at H
       have c5b0 : decide (100 < (((zaD l0 x3_1).f2.f2).size : Int)) = true := decide_eq_true c5
       have c5b1 : decide (100 < ((zaD l0 x3_1).f2.f2).size) = true := decide_eq_true (by omega)
       clear c5
       obtain rfl := Option.some.inj H
       have p197 : 0 ≤ (x3_1 : Int) := of_decide_eq_true (by first | (with_reducible assumption) | assumption)
       have q197 : x3_1 < (l0.length : Int) := of_decide_eq_true (by first | (with_reducible assumption) | assumption)
       obtain ⟨ad197, e197, hx197_0, hx197_1, hx197_2, hx197_3, hx197_4⟩ := at_TOp HR0.out x3_1 p197 q197
       cases e197
       replace p197 := eq_true p197
       replace q197 := eq_true q197
       go_wp2
       go_ret
       exact ⟨by first | rfl | (simp; done) | (simp [*]; done), by repeat (first | exact Drawn0.refl _ | apply Drawn0.step)⟩
      ·rw [if_neg c5] at H
       have c5b0 : decide (100 < (((zaD l0 x3_1).f2.f2).size : Int)) = false := decide_eq_false c5
       have c5b1 : decide (100 < ((zaD l0 x3_1).f2.f2).size) = false := decide_eq_false (by omega)
       clear c5
       have H' := Aside0.mk H
       clear H
       have p197 : 0 ≤ (x3_1 : Int) := of_decide_eq_true (by first | (with_reducible assumption) | assumption)
       have q197 : x3_1 < (l0.length : Int) := of_decide_eq_true (by first | (with_reducible assumption) | assumption)
       obtain ⟨ad197, e197, hx197_0, hx197_1, hx197_2, hx197_3, hx197_4⟩ := at_TOp HR0.out x3_1 p197 q197
       cases e197
       replace p197 := eq_true p197
       replace q197 := eq_true q197
       go_wp2
       go_roundg k1
       case measure => have := HK1.out; omega
       case rel => exact ⟨(wrap64 (x3_1 + 1)), (by first | rfl | (simp; done) | (simp [*]; done)), H', ⟨by have := HK1.out; omega⟩, by repeat (first | exact Drawn0.refl _ | apply Drawn0.step)⟩
     ·rw [if_neg c4] at H
      exact absurd H (by simp)
    ·rw [if_neg c3] at H
     have c3b0 : decide (x3_1 < (l0.length : Int)) = false := decide_eq_false c3
     clear c3
     obtain rfl := Option.some.inj H
     go_wp2
     go_ret
     exact ⟨by first | rfl | (simp; done) | (simp [*]; done), by repeat (first | exact Drawn0.refl _ | apply Drawn0.step)⟩
end Go.Proofs.Ytooemobolfoefaa.P


namespace Go.Proofs.Ytooemobolfoefaa.P
open Go.RowKit Go.Proofs.YtooemobolfoefaaW.PrintWords Go.Proofs.YtooemobolfoefaaW.PrintLast Go.Proofs.YtooemobolfoefaaW.PrintMore
set_option linter.unusedVariables false
def eqP (x y : SOp) : Bool := (x.f0 == y.f0) && ((x.f1 == y.f1) && eqV x.f2 y.f2)
theorem neP {x y : SOp} : (!(x.f0 == y.f0) || (!(x.f1 == y.f1) || (!(x.f2.f0 == y.f2.f0) || (!(x.f2.f1 == y.f2.f1) || !(x.f2.f2.toList == y.f2.f2.toList))))) = !(eqP x y) := by
 unfold eqP
 rw [neV]
 cases (x.f0 == y.f0) <;> cases (x.f1 == y.f1) <;> cases (eqV x.f2 y.f2) <;> rfl
theorem eqP_iff {x y : SOp} : eqP x y = true ↔ x = y := by
 unfold eqP
 simp only [Bool.and_eq_true, beq_iff_eq, eqV_iff]
 constructor
 ·rintro ⟨h1, h2, h3⟩
  obtain ⟨a, b, c⟩ := x
  obtain ⟨d, e, f⟩ := y
  obtain rfl : a = d := h1
  obtain rfl : b = e := h2
  obtain rfl : c = f := h3
  rfl
 ·rintro rfl
  exact ⟨rfl, rfl, rfl⟩
def eqO (a b : List SOp) : Bool := eqf eqP zOp a b
theorem eqO_iff {a b : List SOp} : eqO a b = true ↔ a = b := by
 unfold eqO
 rw [eqf_iff]
 constructor
 ·rintro ⟨h1, h2⟩
  refine List.ext_getElem h1 (fun i hi hj => ?_)
  have := eqP_iff.1 (h2 i hi)
  simpa [List.getD, hi, hj] using this
 ·rintro rfl
  exact ⟨rfl, fun i _ => eqP_iff.2 rfl⟩
theorem equalO_loop (a b : List SOp) (hl : a.length ≤ 9223372036854775807) (he : a.length = b.length) : ∀ (d i k : Nat), i + d = a.length → d < k → (∀ j, j < i → eqP (a.getD j zOp) (b.getD j zOp) = true) → slices_Equal_api_Op.l0 k a b (a.length : Int) (i : Int) = some (eqf eqP zOp a b) := by
 intro d
 induction d with
 | zero =>
  intro i k hi hk hj
  obtain ⟨k, rfl⟩ := rounds_of hk
  simp only [slices_Equal_api_Op.l0]
  rw [if_neg (by omega), eqf_all he (fun j h => hj j (by omega))]
 | succ d ih =>
  intro i k hi hk hj
  obtain ⟨k, rfl⟩ := rounds_of hk
  simp only [slices_Equal_api_Op.l0]
  rw [if_pos (by omega), if_pos (by omega), if_pos (by omega), if_pos (by omega), show zaD a (i : Int) = a.getD i zOp from rfl, show zaD b (i : Int) = b.getD i zOp from rfl, neP]
  cases hq : eqP (a.getD i zOp) (b.getD i zOp) with
  | true =>
   rw [if_neg (by simp), wrap_succ (by omega)]
   exact ih (i + 1) k (by omega) (by omega) (all_next hj hq)
  | false => rw [if_pos (by simp), eqf_hit i (by omega) hq]
theorem few8_loop (l : List SOp) (hl : l.length ≤ 20) : ∀ (d i k : Nat), i + d = l.length → d < k → ∃ b, towncrierlaw08_Few.l0 k l (i : Int) = some b := by
 intro d
 induction d with
 | zero =>
  intro i k hi hk
  obtain ⟨k, rfl⟩ := rounds_of hk
  simp only [towncrierlaw08_Few.l0]
  rw [if_neg (by omega)]
  exact ⟨_, rfl⟩
 | succ d ih =>
  intro i k hi hk
  obtain ⟨k, rfl⟩ := rounds_of hk
  simp only [towncrierlaw08_Few.l0]
  rw [if_pos (by omega), if_pos (by omega), wrap_succ (by omega)]
  split
  ·exact ⟨_, rfl⟩
  ·exact ih (i + 1) k (by omega) (by omega)
theorem getP_put {x : SOp} (rest : List Int) (h : mayP x = true) (hi : i64V x.f2) : getP (zbs x ++ rest) = some (x, (zbs x).length) := by
 obtain ⟨h0, h1, h2, h3, h4, h5, h6⟩ := mayP_iff.1 h
 obtain ⟨c, a, v⟩ := x
 simp only at h0 h1 h2 h3 h4 h5 h6 hi
 unfold zbs
 simp only [List.cons_append, getP]
 by_cases c0 : c = 0
 ·subst c0
  have ha : a = 0 := by omega
  subst ha
  rw [if_pos rfl, if_pos rfl, getV_put rest hi h6]
  simp
 ·rw [if_neg c0, if_neg c0]
  have hv : v = zeroV := by rcases h5 with h5 | h5; exact absurd h5 c0; exact h5
  subst hv
  by_cases c1 : c = 1
  ·subst c1
   rw [if_pos rfl, if_pos rfl]
   rfl
  ·rw [if_neg c1, if_neg c1]
   have ha : a = 0 := by rcases h4 with h4 | h4; exact absurd h4 c1; exact h4
   subst ha
   rfl
theorem opsL_cons (x : SOp) (l : List SOp) : opsL (x :: l) = zbs x ++ opsL l := by unfold opsL; simp
theorem getOs_put : ∀ (F : List SOp) (rest : List Int), (∀ x ∈ F, mayP x = true) → (∀ x ∈ F, i64V x.f2) → getOs F.length (opsL F ++ rest) = some (F, (opsL F).length)
 | [], rest, _, _ => rfl
 | x :: F, rest, h, hi => by
  rw [opsL_cons, List.append_assoc]
  simp only [List.length_cons, getOs, getP_put _ (h x (by simp)) (hi x (by simp)), List.drop_left, getOs_put F rest (fun y hy => h y (by simp [hy])) (fun y hy => hi y (by simp [hy])), List.length_append]
theorem getO_put {l : List SOp} (rest : List Int) (h : mayO l = true) (hi : ∀ x ∈ l, i64V x.f2) : getO (zbb l ++ rest) = some (l, (zbb l).length) := by
 obtain ⟨h12, hp⟩ := mayO_iff.1 h
 have hg : getN (zbb l ++ rest) = some (l.length, (zaE l.length).length) := by
  unfold zbb
  rw [List.append_assoc]
  exact getN_put _ _ (by omega)
 rw [getO_some (show getM _ 12 = some (l.length, (zaE l.length).length) from by rw [getM_some hg, if_pos h12])]
 unfold contO
 rw [show (zbb l ++ rest).drop (zaE l.length).length = opsL l ++ rest from by unfold zbb; rw [List.append_assoc, List.drop_left], getOs_put l rest hp hi]
 simp only [List.nil_append, h, if_true]
 unfold zbb
 rw [List.length_append]
theorem getP_take {l : List Int} {x : SOp} {n : Nat} (hb : zaJ l) (h : getP l = some (x, n)) : l.take n = zbs x := by
 cases l with
 | nil => simp [getP] at h
 | cons c r =>
  simp only [getP] at h
  by_cases h0 : c = 0
  ·rw [if_pos h0] at h
   cases hg : getV r with
   | none => rw [hg] at h; simp at h
   | some p =>
    obtain ⟨v, m⟩ := p
    rw [hg] at h
    simp only [Option.some.injEq, Prod.mk.injEq] at h
    obtain ⟨rfl, rfl⟩ := h
    have := getV_take (fun c hc => hb c (by simp [hc])) hg
    unfold zbs
    rw [if_pos rfl, List.take_succ_cons, this, h0]
  ·rw [if_neg h0] at h
   by_cases h1 : c = 1
   ·rw [if_pos h1] at h
    cases r with
    | nil => simp at h
    | cons a r =>
     simp only [Option.some.injEq, Prod.mk.injEq] at h
     obtain ⟨rfl, rfl⟩ := h
     subst h1
     rfl
   ·rw [if_neg h1] at h
    simp only [Option.some.injEq, Prod.mk.injEq] at h
    obtain ⟨rfl, rfl⟩ := h
    unfold zbs
    rw [if_neg h0, if_neg h1]
    rfl
theorem getOs_take : ∀ (m : Nat) (l : List Int) (F : List SOp) (v : Nat), zaJ l → getOs m l = some (F, v) → l.take v = opsL F ∧ v ≤ l.length ∧ F.length = m ∧ ∀ x ∈ F, i64V x.f2
 | 0, l, F, v, _, h => by
  simp only [getOs, Option.some.injEq, Prod.mk.injEq] at h
  obtain ⟨rfl, rfl⟩ := h
  simp [opsL]
 | m + 1, l, F, v, hb, h => by
  rw [getOs] at h
  cases hg : getP l with
  | none => rw [hg] at h; simp at h
  | some p =>
   obtain ⟨x, n⟩ := p
   rw [hg] at h
   simp only at h
   cases hv : getOs m (l.drop n) with
   | none => rw [hv] at h; simp at h
   | some q =>
    obtain ⟨xs, k⟩ := q
    rw [hv] at h
    simp only [Option.some.injEq, Prod.mk.injEq] at h
    obtain ⟨rfl, rfl⟩ := h
    obtain ⟨h1, h2, h3, h4⟩ := getOs_take m _ xs k (zbn hb n) hv
    obtain ⟨h5, h6, _⟩ := getP_used hb hg
    have h7 := getP_take hb hg
    rw [List.length_drop] at h2
    refine ⟨?_, by omega, by simp [h3], fun y hy => ?_⟩
    ·rw [opsL_cons, ← h7, ← h1, List.take_add]
    ·rcases List.mem_cons.1 hy with rfl | hy
     ·exact h5
     ·exact h4 y hy
theorem getO_take {l : List Int} {x : List SOp} {n : Nat} (hb : zaJ l) (h : getO l = some (x, n)) : mayO x = true ∧ n ≤ l.length ∧ l.take n = zbb x ∧ ∀ y ∈ x, i64V y.f2 := by
 unfold getO at h
 cases hm : getM l 12 with
 | none => rw [hm] at h; simp at h
 | some p =>
  obtain ⟨m, u⟩ := p
  rw [hm] at h
  simp only [contO] at h
  obtain ⟨hg, h12, hu⟩ := getM_used hm
  cases hv : getOs m (l.drop u) with
  | none => rw [hv] at h; simp at h
  | some q =>
   obtain ⟨gs, v⟩ := q
   rw [hv] at h
   simp only [List.nil_append] at h
   by_cases hmay : mayO gs = true
   ·rw [if_pos hmay] at h
    simp only [Option.some.injEq, Prod.mk.injEq] at h
    obtain ⟨rfl, rfl⟩ := h
    obtain ⟨h1, h2, h3, h4⟩ := getOs_take m _ gs v (zbn hb u) hv
    obtain ⟨h5, h6, h7⟩ := getN_some hb hg
    rw [List.length_drop] at h2
    refine ⟨hmay, by omega, ?_, h4⟩
    unfold zbb
    rw [List.take_add, h7, h1, h3]
   ·rw [if_neg hmay] at h; simp at h
theorem bytesP_byte {x : SOp} (h : mayP x = true) : zaJ (zbs x) := by
 obtain ⟨h0, h1, h2, h3, _, _, h6⟩ := mayP_iff.1 h
 intro c hc
 unfold zbs at hc
 rcases List.mem_cons.1 hc with rfl | hc
 ·omega
 ·split at hc
  ·exact bytesV_byte h6 c hc
  ·split at hc
   ·rw [List.mem_singleton.1 hc]; omega
   ·cases hc
theorem opsL_byte {l : List SOp} (h : ∀ x ∈ l, mayP x = true) : zaJ (opsL l) := by
 intro c hc
 unfold opsL at hc
 obtain ⟨b, hb, hcb⟩ := List.mem_flatten.1 hc
 obtain ⟨x, hx, rfl⟩ := List.mem_map.1 hb
 exact bytesP_byte (h x hx) c hcb
theorem bytesO_byte {l : List SOp} (h : mayO l = true) : zaJ (zbb l) := zaH (zaT _) (opsL_byte (mayO_iff.1 h).2)
theorem opsL_len : ∀ {l : List SOp}, (∀ x ∈ l, mayP x = true) → (∀ x ∈ l, i64V x.f2) → (opsL l).length ≤ 52 * l.length
 | [], _, _ => by simp [opsL]
 | x :: l, h, hi => by
  have ih := opsL_len (l := l) (fun y hy => h y (by simp [hy])) (fun y hy => hi y (by simp [hy]))
  have hv := bytesV_few ⟨(mayP_iff.1 (h x (by simp))).2.2.2.2.2.2, hi x (by simp)⟩
  have hx : (zbs x).length ≤ 52 := by
   unfold zbs
   simp only [List.length_cons]
   split
   ·omega
   ·split <;> simp
  rw [opsL_cons, List.length_append, List.length_cons]
  omega
theorem bytesO_len {l : List SOp} (h : mayO l = true) (hi : ∀ x ∈ l, i64V x.f2) : (zbb l).length ≤ 640 := by
 obtain ⟨h12, hp⟩ := mayO_iff.1 h
 have h1 := opsL_len hp hi
 have h2 := lePut_len (n := l.length) (by omega)
 unfold zbb
 rw [List.length_append]
 omega
def askedB (nm : ByteArray) (l : List SOp) : Bool := mayO l && nameB nm
def rN (m : Nat) (l : List Int) : Option (Nat × List Int) := match getM l m with
 | some (n, u) => some (n, l.drop u)
 | none => none
def rT (l : List Int) : Option (ByteArray × List Int) := match rN 12 l with
 | some (n, r) => if n ≤ r.length then some (strOfNums (r.take n), r.drop n) else none
 | none => none
def rO (l : List Int) : Option (List SOp × List Int) := match getO l with
 | some (x, n) => some (x, l.drop n)
 | none => none
def skipR (n : Nat) (is : Bool) (l : List Int) : Option (List Int) := if is = true ∧ n ≤ l.length then some (l.drop n) else none
def zay {α : Type} (s : Option (List Int)) (f : List Int → Option (α × List Int)) : Option (List Int) := (s.bind f).map (·.2)
def wasO {α : Type} (z : α) (s : Option (List Int)) (f : List Int → Option (α × List Int)) : α := ((s.bind f).map (·.1)).getD z
theorem rN_some {m n u : Nat} {l : List Int} (h : getN l = some (n, u)) : rN m l = if n ≤ m then some (n, l.drop u) else none := by
 unfold rN
 rw [getM_some h]
 by_cases h2 : n ≤ m
 ·rw [if_pos h2, if_pos h2]
 ·rw [if_neg h2, if_neg h2]
theorem rN_none {m : Nat} {l : List Int} (h : getN l = none) : rN m l = none := by
 unfold rN
 rw [getM_none h]
theorem restO_none {α : Type} (f : List Int → Option (α × List Int)) : zay none f = none := rfl
theorem zaI {α : Type} (l : List Int) (f : List Int → Option (α × List Int)) : zay (some l) f = (f l).map (·.2) := rfl
theorem za9 {α : Type} (z : α) (l : List Int) (f : List Int → Option (α × List Int)) : wasO z (some l) f = ((f l).map (·.1)).getD z := rfl
theorem restO_rT (s : Option (List Int)) : zay s rT = (zay s (rN 12)).bind (skipR (wasO 0 s (rN 12)) true) := by
 cases s with
 | none => rfl
 | some l =>
  simp only [zaI, za9]
  unfold rT
  cases h : rN 12 l with
  | none => rfl
  | some p =>
   obtain ⟨n, r⟩ := p
   simp only [Option.map_some, Option.bind_some, Option.getD_some]
   unfold skipR
   by_cases hn : n ≤ r.length
   ·rw [if_pos hn, if_pos ⟨rfl, hn⟩]; rfl
   ·rw [if_neg hn, if_neg (fun h => hn h.2)]; rfl
theorem wasO_rT_none {s : Option (List Int)} (hs : zay s (rN 12) = none) : wasO (⟨#[]⟩ : ByteArray) s rT = ⟨#[]⟩ := by
 cases s with
 | none => rfl
 | some l =>
  rw [zaI] at hs
  rw [za9]
  have h : rN 12 l = none := Option.map_eq_none_iff.1 hs
  unfold rT
  rw [h]
  rfl
theorem wasO_rT_some {s : Option (List Int)} {r : List Int} (hs : zay s (rN 12) = some r) : wasO (⟨#[]⟩ : ByteArray) s rT = if wasO 0 s (rN 12) ≤ r.length then strOfNums (r.take (wasO 0 s (rN 12))) else ⟨#[]⟩ := by
 cases s with
 | none => cases hs
 | some l =>
  rw [zaI] at hs
  rw [za9, za9]
  obtain ⟨p, h, rfl⟩ := Option.map_eq_some_iff.1 hs
  obtain ⟨n, r⟩ := p
  unfold rT
  rw [h]
  simp only [Option.map_some, Option.getD_some]
  by_cases hn : n ≤ r.length
  ·rw [if_pos hn, if_pos hn]; rfl
  ·rw [if_neg hn, if_neg hn]; rfl
theorem wasO_rN_le (s : Option (List Int)) (m : Nat) : wasO 0 s (rN m) ≤ m := by
 cases s with
 | none => exact Nat.zero_le _
 | some l =>
  rw [za9]
  cases h : rN m l with
  | none => exact Nat.zero_le _
  | some p =>
   obtain ⟨n, r⟩ := p
   show n ≤ m
   unfold rN at h
   cases hg : getM l m with
   | none => rw [hg] at h; cases h
   | some q =>
    obtain ⟨k, u⟩ := q
    rw [hg] at h
    simp only [Option.some.injEq, Prod.mk.injEq] at h
    rw [← h.1]
    exact (getM_used hg).2.1
theorem restO_rO (s : Option (List Int)) {x : List SOp} {m : Nat} {b : Bool} {l : List Int} (h : gotO (getO l) = (x, m, b)) (hs : s = none ∨ s = some l) (hu : b = true → m ≤ l.length) : zay s rO = s.bind (skipR m b) := by
 rcases hs with rfl | rfl
 ·rfl
 ·rw [zaI, Option.bind_some]
  unfold rO skipR
  cases hg : getO l with
  | none =>
   rw [hg] at h
   simp only [gotO, Prod.mk.injEq] at h
   obtain ⟨_, _, rfl⟩ := h
   rw [if_neg (fun h => by cases h.1)]
   rfl
  | some p =>
   obtain ⟨y, k⟩ := p
   rw [hg] at h
   simp only [gotO, Prod.mk.injEq] at h
   obtain ⟨_, rfl, rfl⟩ := h
   rw [if_pos ⟨rfl, hu rfl⟩]
   rfl
def rS (l : List Int) : Option (SStep × List Int) := match rT l with
 | none => none
 | some (nm, l1) => match rO l1 with
  | none => none
  | some (o, l2) => match rN 4 l2 with
   | none => none
   | some (mn, l3) => match rN 4 l3 with
    | none => none
    | some (mx, l4) => match rN 1 l4 with
     | none => none
     | some (g, l5) => if g = 1 then (match rT l5 with
       | none => none
       | some (nm2, l6) => match rO l6 with
        | none => none
        | some (o2, l7) => some (⟨nm, o, mn, mx, true, nm2, o2⟩, l7)) else some (⟨nm, o, mn, mx, false, ⟨#[]⟩, []⟩, l5)
def rSs : Nat → List Int → Option (List SStep × List Int)
 | 0, l => some ([], l)
 | k + 1, l => match rS l with
  | none => none
  | some (x, r) => match rSs k r with
   | none => none
   | some (xs, q) => some (x :: xs, q)
theorem zbg {α : Type} {l : List Int} {f : List Int → Option (α × List Int)} (h : f l = none) : zay (some l) f = none := by rw [zaI, h]; rfl
theorem za3 {α : Type} {l r : List Int} {x : α} {f : List Int → Option (α × List Int)} (h : f l = some (x, r)) : zay (some l) f = some r := by rw [zaI, h]; rfl
theorem wasO_yes {α : Type} {z : α} {l r : List Int} {x : α} {f : List Int → Option (α × List Int)} (h : f l = some (x, r)) : wasO z (some l) f = x := by rw [za9, h]; rfl
theorem restO_rS (s : Option (List Int)) : zay s rS = (if wasO 0 (zay (zay (zay (zay s rT) rO) (rN 4)) (rN 4)) (rN 1) = 1 then zay (zay (zay (zay (zay (zay (zay s rT) rO) (rN 4)) (rN 4)) (rN 1)) rT) rO else zay (zay (zay (zay (zay s rT) rO) (rN 4)) (rN 4)) (rN 1)) := by
 have hz : (if wasO 0 (none : Option (List Int)) (rN 1) = 1 then (none : Option (List Int)) else none) = none := by split <;> rfl
 cases s with
 | none => rfl
 | some l =>
  cases h1 : rT l with
  | none => rw [zbg h1]; simp only [restO_none, hz]; rw [zaI]; unfold rS; rw [h1]; rfl
  | some p1 =>
   obtain ⟨nm, l1⟩ := p1
   rw [za3 h1]
   cases h2 : rO l1 with
   | none => rw [zbg h2]; simp only [restO_none, hz]; rw [zaI]; unfold rS; simp only [h1, h2]; rfl
   | some p2 =>
    obtain ⟨o, l2⟩ := p2
    rw [za3 h2]
    cases h3 : rN 4 l2 with
    | none => rw [zbg h3]; simp only [restO_none, hz]; rw [zaI]; unfold rS; simp only [h1, h2, h3]; rfl
    | some p3 =>
     obtain ⟨mn, l3⟩ := p3
     rw [za3 h3]
     cases h4 : rN 4 l3 with
     | none => rw [zbg h4]; simp only [restO_none, hz]; rw [zaI]; unfold rS; simp only [h1, h2, h3, h4]; rfl
     | some p4 =>
      obtain ⟨mx, l4⟩ := p4
      rw [za3 h4]
      cases h5 : rN 1 l4 with
      | none =>
       rw [zbg h5]
       simp only [restO_none]
       rw [show wasO 0 (some l4) (rN 1) = 0 from by rw [za9, h5]; rfl, if_neg (by decide), zaI]
       unfold rS; simp only [h1, h2, h3, h4, h5]; rfl
      | some p5 =>
       obtain ⟨g, l5⟩ := p5
       rw [za3 h5, wasO_yes h5, zaI]
       unfold rS
       simp only [h1, h2, h3, h4, h5]
       by_cases hg : g = 1
       ·rw [if_pos hg, if_pos hg]
        cases h6 : rT l5 with
        | none => rw [zbg h6]; rfl
        | some p6 =>
         obtain ⟨nm2, l6⟩ := p6
         rw [za3 h6]
         cases h7 : rO l6 with
         | none => rw [zbg h7]; simp only [h7]; rfl
         | some p7 => obtain ⟨o2, l7⟩ := p7; rw [za3 h7]; simp only [h7]; rfl
       ·rw [if_neg hg, if_neg hg]
        rfl
theorem rS_parts {s : Option (List Int)} {y : SStep} {r : List Int} (h : s.bind rS = some (y, r)) : ∃ o1 l2, (zay s rT).bind rO = some (o1, l2) ∧ y.f0 = wasO ⟨#[]⟩ s rT ∧ y.f1 = o1 ∧ y.f2 = (wasO 0 (zay (zay s rT) rO) (rN 4) : Nat) ∧ y.f3 = (wasO 0 (zay (zay (zay s rT) rO) (rN 4)) (rN 4) : Nat) ∧ y.f4 = decide (wasO 0 (zay (zay (zay (zay s rT) rO) (rN 4)) (rN 4)) (rN 1) = 1) ∧
  (wasO 0 (zay (zay (zay (zay s rT) rO) (rN 4)) (rN 4)) (rN 1) = 1 → y.f5 = wasO ⟨#[]⟩ (zay (zay (zay (zay (zay s rT) rO) (rN 4)) (rN 4)) (rN 1)) rT ∧ ∃ l7, (zay (zay (zay (zay (zay (zay s rT) rO) (rN 4)) (rN 4)) (rN 1)) rT).bind rO = some (y.f6, l7)) ∧
  (wasO 0 (zay (zay (zay (zay s rT) rO) (rN 4)) (rN 4)) (rN 1) ≠ 1 → y.f5 = ⟨#[]⟩ ∧ y.f6 = []) := by
 cases s with
 | none => cases h
 | some l =>
  rw [Option.bind_some] at h
  unfold rS at h
  cases h1 : rT l with
  | none => rw [h1] at h; cases h
  | some p1 =>
   obtain ⟨nm, l1⟩ := p1
   rw [h1] at h
   simp only at h
   cases h2 : rO l1 with
   | none => rw [h2] at h; cases h
   | some p2 =>
    obtain ⟨o, l2⟩ := p2
    rw [h2] at h
    simp only at h
    cases h3 : rN 4 l2 with
    | none => rw [h3] at h; cases h
    | some p3 =>
     obtain ⟨mn, l3⟩ := p3
     rw [h3] at h
     simp only at h
     cases h4 : rN 4 l3 with
     | none => rw [h4] at h; cases h
     | some p4 =>
      obtain ⟨mx, l4⟩ := p4
      rw [h4] at h
      simp only at h
      cases h5 : rN 1 l4 with
      | none => rw [h5] at h; cases h
      | some p5 =>
       obtain ⟨g, l5⟩ := p5
       rw [h5] at h
       simp only at h
       have e1 : zay (some l) rT = some l1 := by rw [zaI, h1]; rfl
       have e2 : zay (some l1) rO = some l2 := by rw [zaI, h2]; rfl
       have e3 : zay (some l2) (rN 4) = some l3 := by rw [zaI, h3]; rfl
       have e4 : zay (some l3) (rN 4) = some l4 := by rw [zaI, h4]; rfl
       have e5 : zay (some l4) (rN 1) = some l5 := by rw [zaI, h5]; rfl
       have w1 : wasO ⟨#[]⟩ (some l) rT = nm := by rw [za9, h1]; rfl
       have w3 : wasO 0 (some l2) (rN 4) = mn := by rw [za9, h3]; rfl
       have w4 : wasO 0 (some l3) (rN 4) = mx := by rw [za9, h4]; rfl
       have w5 : wasO 0 (some l4) (rN 1) = g := by rw [za9, h5]; rfl
       rw [e1, e2, e3, e4, e5, w1, w3, w4, w5, Option.bind_some, h2]
       by_cases hg : g = 1
       ·rw [if_pos hg] at h
        cases h6 : rT l5 with
        | none => rw [h6] at h; cases h
        | some p6 =>
         obtain ⟨nm2, l6⟩ := p6
         rw [h6] at h
         simp only at h
         cases h7 : rO l6 with
         | none => rw [h7] at h; cases h
         | some p7 =>
          obtain ⟨o2, l7⟩ := p7
          rw [h7] at h
          simp only [Option.some.injEq, Prod.mk.injEq] at h
          obtain ⟨rfl, rfl⟩ := h
          have e6 : zay (some l5) rT = some l6 := by rw [zaI, h6]; rfl
          have w6 : wasO ⟨#[]⟩ (some l5) rT = nm2 := by rw [za9, h6]; rfl
          refine ⟨o, l2, rfl, rfl, rfl, rfl, rfl, (decide_eq_true hg).symm, fun _ => ⟨w6.symm, l7, ?_⟩, fun h => absurd hg h⟩
          rw [e6, Option.bind_some, h7]
       ·rw [if_neg hg] at h
        simp only [Option.some.injEq, Prod.mk.injEq] at h
        obtain ⟨rfl, rfl⟩ := h
        exact ⟨o, l2, rfl, rfl, rfl, rfl, rfl, (decide_eq_false hg).symm, fun h => absurd h hg, fun _ => ⟨rfl, rfl⟩⟩
theorem rN_put {n m : Nat} (r : List Int) (h : n ≤ m) (hm : m < 18446744073709551616) : rN m (zaE n ++ r) = some (n, r) := by
 unfold rN
 rw [getM_put r h hm]
 simp only [List.drop_left]
theorem rN_take {l r : List Int} {m n : Nat} (hb : zaJ l) (h : rN m l = some (n, r)) : l = zaE n ++ r ∧ n ≤ m ∧ zaJ r := by
 unfold rN at h
 cases hg : getM l m with
 | none => rw [hg] at h; cases h
 | some p =>
  obtain ⟨k, u⟩ := p
  rw [hg] at h
  simp only [Option.some.injEq, Prod.mk.injEq] at h
  obtain ⟨rfl, rfl⟩ := h
  have h1 := getM_take hb hg
  have h2 := getM_used hg
  exact ⟨by rw [← h1.1, List.take_append_drop], h2.2.1, zbn hb _⟩
theorem rT_put {s : ByteArray} (r : List Int) (h : s.size ≤ 12) : rT (textL s ++ r) = some (s, r) := by
 have hl := za0 s
 unfold rT textL
 rw [List.append_assoc, rN_put _ h (by decide)]
 simp only [List.length_append, hl]
 rw [if_pos (by omega), ← hl, List.take_left, List.drop_left, str_bytesOf]
theorem rT_take {l r : List Int} {s : ByteArray} (hb : zaJ l) (h : rT l = some (s, r)) : l = textL s ++ r ∧ s.size ≤ 12 ∧ zaJ r := by
 unfold rT at h
 cases hg : rN 12 l with
 | none => rw [hg] at h; cases h
 | some p =>
  obtain ⟨n, q⟩ := p
  rw [hg] at h
  simp only at h
  obtain ⟨h1, h2, h3⟩ := rN_take hb hg
  split at h
  ·rename_i hn
   simp only [Option.some.injEq, Prod.mk.injEq] at h
   obtain ⟨rfl, rfl⟩ := h
   have hsz : (strOfNums (q.take n)).size = n := by rw [strOfNums_size, List.length_take]; omega
   refine ⟨?_, by omega, zbn h3 _⟩
   unfold textL
   rw [hsz, bytesOf_str (byteL_take h3 n), List.append_assoc, List.take_append_drop]
   exact h1
  ·cases h
def inB (n lo hi : Int) : Bool := decide (lo ≤ n) && decide (n ≤ hi)
def stepB (x : SStep) (first last : Bool) : Bool := (if x.f4 = true then (!first && askedB x.f5 x.f6) else (decide (x.f5.toList = []) && decide (x.f6.length = 0))) && (askedB x.f0 x.f1 && (inB x.f2 1 x.f3 && (decide (x.f3 ≤ 4) && (!last || x.f2 == x.f3))))
def tailB (n : Int) (q : SQuery) : Bool := inB q.f2 0 3 && (inB q.f3 0 (n - 1) && (inB q.f4 0 5 && ((q.f2 != 0 || q.f4 == 0) && (inB n 1 4 && inB q.f1 0 1125899906842624))))
def mayQ (q : SQuery) : Bool := ((List.range q.f0.length).all fun i => stepB (q.f0.getD i zStep) (i == 0) (i + 1 == q.f0.length)) && tailB q.f0.length q
theorem inB_iff {n lo hi : Int} : inB n lo hi = true ↔ lo ≤ n ∧ n ≤ hi := by
 unfold inB
 simp only [Bool.and_eq_true, decide_eq_true_eq]
theorem askedB_iff {nm : ByteArray} {l : List SOp} : askedB nm l = true ↔ mayO l = true ∧ nameB nm = true := by
 unfold askedB
 simp only [Bool.and_eq_true]
theorem stepB_iff {x : SStep} {first last : Bool} : stepB x first last = true ↔ ((x.f4 = true ∧ first = false ∧ askedB x.f5 x.f6 = true) ∨ (x.f4 = false ∧ x.f5.toList = [] ∧ x.f6 = [])) ∧ askedB x.f0 x.f1 = true ∧ 1 ≤ x.f2 ∧ x.f2 ≤ x.f3 ∧ x.f3 ≤ 4 ∧ (last = true → x.f2 = x.f3) := by
 unfold stepB
 simp only [Bool.and_eq_true, inB_iff, decide_eq_true_eq, and_assoc]
 refine and_congr ?_ (and_congr Iff.rfl (and_congr Iff.rfl (and_congr Iff.rfl (and_congr Iff.rfl ?_))))
 ·cases x.f4 with
  | true => simp
  | false => simp [List.length_eq_zero_iff]
 ·cases last <;> simp
theorem mayQ_iff {q : SQuery} : mayQ q = true ↔ (∀ i, i < q.f0.length → stepB (q.f0.getD i zStep) (i == 0) (i + 1 == q.f0.length) = true) ∧ 0 ≤ q.f2 ∧ q.f2 ≤ 3 ∧ 0 ≤ q.f3 ∧ q.f3 ≤ (q.f0.length : Int) - 1 ∧ 0 ≤ q.f4 ∧ q.f4 ≤ 5 ∧ (q.f2 ≠ 0 ∨ q.f4 = 0) ∧ 1 ≤ q.f0.length ∧ q.f0.length ≤ 4 ∧ 0 ≤ q.f1 ∧ q.f1 ≤ 1125899906842624 := by
 unfold mayQ tailB
 simp only [Bool.and_eq_true, List.all_eq_true, List.mem_range, inB_iff, Bool.or_eq_true, bne_iff_ne, beq_iff_eq, and_assoc]
 refine and_congr Iff.rfl (and_congr Iff.rfl (and_congr Iff.rfl (and_congr Iff.rfl (and_congr Iff.rfl (and_congr Iff.rfl (and_congr Iff.rfl (and_congr Iff.rfl ?_)))))))
 constructor
 ·rintro ⟨h1, h2, h3, h4⟩; exact ⟨by omega, by omega, h3, h4⟩
 ·rintro ⟨h1, h2, h3, h4⟩; exact ⟨by omega, by omega, h3, h4⟩
def okSt (x : SStep) : Prop := i64B x.f1 = true ∧ i64B x.f6 = true
def okQ (q : SQuery) : Prop := ∀ x ∈ q.f0, okSt x
def bytesSt (x : SStep) : List Int := textL x.f0 ++ (zbb x.f1 ++ (zaE x.f2.toNat ++ (zaE x.f3.toNat ++ (if x.f4 = true then zaE 1 ++ (textL x.f5 ++ zbb x.f6) else zaE 0))))
def zbj (l : List SStep) : List Int := (l.map bytesSt).flatten
def zbr (q : SQuery) : List Int := zaE q.f0.length ++ (zbj q.f0 ++ (zaE q.f1.toNat ++ (zaE q.f2.toNat ++ (zaE q.f3.toNat ++ zaE q.f4.toNat))))
def rQ (l : List Int) : Option (SQuery × List Int) := match rN 4 l with
 | none => none
 | some (m, l1) => match rSs m l1 with
  | none => none
  | some (xs, l2) => match rN 1125899906842624 l2 with
   | none => none
   | some (wi, l3) => match rN 4 l3 with
    | none => none
    | some (ag, l4) => match rN 4 l4 with
     | none => none
     | some (st, l5) => match rN 6 l5 with
      | none => none
      | some (f, l6) => some (⟨xs, wi, ag, st, f⟩, l6)
def getQ (l : List Int) : Option (SQuery × Nat) := match rQ l with
 | some (q, r) => if mayQ q = true then some (q, l.length - r.length) else none
 | none => none
def gotQ (r : Option (SQuery × Nat)) : SQuery × Nat × Bool := match r with
 | some (q, n) => (q, n, true)
 | none => (zQuery, 0, false)
end Go.Proofs.Ytooemobolfoefaa.P

