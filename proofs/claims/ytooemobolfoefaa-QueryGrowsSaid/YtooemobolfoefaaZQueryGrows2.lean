/- What QueryGrows's row stands on: words, contracts of the functions that it reaches, plain facts, its walk (part 2): no condition but those that each theorem names. -/
import Derived.Test.YtooemobolfoefaaZQueryGrows1
import Derived.Test.YtooemobolfoefaaProg
import Derived.WalkKit
import Derived.Below
import Derived.Shelf.Abstract
import Derived.Laws.Cells
import Derived.Deep.LoopGhost
import Derived.WalkSpells
import Derived.Lib.SliceRun
import Derived.Laws.OwnMore
import Derived.IntWalk
import Derived.Deep.DeepCutAuto
import Derived.Deep.RegionHeld3
import Derived.Deep.Draws
import Derived.Deep.AppendLies
import Derived.Maps.AppendAt
import Derived.OwnWalk
import Derived.Laws.BytesArg
import Derived.Laws.MakeOwn
import Derived.Deep.OwnRows
import Derived.Tactics
import Derived.Lib.ConvBytes
import Derived.Laws.Slices
import Derived.KernelRfl
import Derived.RowKit3
import Derived.Deep.QuietTactic
import Derived.BigQuiet
import Derived.WideLaws
import Derived.Deep.CutBlock
import Derived.Laws.Rows
import Derived.Lib.AppendStr
import Derived.ArgAppend
import Derived.Laws.IdiomCopy
import Derived.OrdersHeld
import Derived.Laws.BitsLemmas
import Derived.RowKit
import Derived.Laws.EntriesVeiled
import Derived.Deep.RegionLaw
import Derived.ChangeArms
import Derived.Deep.Slices
import Derived.SizedLaws
import Derived.ProofKit
import Derived.Laws.Cover1
import Derived.OpenShut
import Derived.ShutString
import Derived.ChangeOld
import Derived.Carry
set_option linter.unusedVariables false
set_option linter.unusedSimpArgs false
namespace Go.Proofs.Ytooemobolfoefaa.P
open Go.RowKit Go.Proofs.YtooemobolfoefaaW.PrintWords Go.Proofs.YtooemobolfoefaaW.PrintLast Go.Proofs.YtooemobolfoefaaW.PrintMore
def idx {α : Type} (p : α → Bool) : List α → Int
 | [] => -1
 | x :: l => if p x then 0 else let r := idx p l; if r < 0 then -1 else r + 1
theorem idx_skip {α : Type} (p : α → Bool) (z : α) : ∀ (l : List α) (k : Nat), (∀ i, i < k → p (l.getD i z) = false) → k < l.length → p (l.getD k z) = true → idx p l = k
 | [], k, h, hk, hp => by simp at hk
 | x :: l, 0, h, hk, hp => by simp at hp; simp [idx, hp]
 | x :: l, k + 1, h, hk, hp => by
  have h0 := h 0 (by omega)
  have ih := idx_skip p z l k (fun i hi => by have := h (i + 1) (by omega); simpa using this) (by simpa using hk) (by simpa using hp)
  simp at h0
  simp [idx, h0, ih]; omega
theorem idx_none {α : Type} (p : α → Bool) (z : α) : ∀ (l : List α), (∀ i, i < l.length → p (l.getD i z) = false) → idx p l = -1
 | [], h => rfl
 | x :: l, h => by
  have h0 := h 0 (by simp)
  have ih := idx_none p z l (fun i hi => by have := h (i + 1) (by simp; omega); simpa using this)
  simp at h0
  simp [idx, h0, ih]
theorem idx_any {α : Type} (p : α → Bool) : ∀ l : List α, decide (0 ≤ idx p l) = l.any p ∧ -1 ≤ idx p l
 | [] => by simp [idx]
 | x :: l => by
  obtain ⟨h1, h2⟩ := idx_any p l
  cases h : p x with
  | true => simp [idx, h]
  | false =>
   rw [List.any_cons, h, Bool.false_or, ← h1]
   have e : idx p (x :: l) = if idx p l < 0 then -1 else idx p l + 1 := by simp [idx, h]
   rw [e]
   by_cases h3 : idx p l < 0
   ·rw [if_pos h3]
    refine ⟨?_, by omega⟩
    rw [decide_eq_decide]; omega
   ·rw [if_neg h3]
    refine ⟨?_, by omega⟩
    rw [decide_eq_decide]; omega
theorem take_snoc {α : Type} (z : α) (l : List α) (k : Nat) (h : k < l.length) : l.take (k + 1) = l.take k ++ [l.getD k z] := by
 rw [List.take_succ_eq_append_getElem h]; simp [List.getD, h]
theorem range_all_hit (p : Nat → Bool) (n k : Nat) (hk : k < n) (hp : p k = false) : (List.range n).all p = false := by
 rw [List.all_eq_false]
 exact ⟨k, List.mem_range.2 hk, by rw [hp]; simp⟩
theorem range_all_none (p : Nat → Bool) (n : Nat) (h : ∀ i, i < n → p i = true) : (List.range n).all p = true :=
 List.all_eq_true.2 fun i hi => h i (List.mem_range.1 hi)
theorem all_next {P : Nat → Prop} {k : Nat} (h : ∀ i, i < k → P i) (h2 : P k) : ∀ i, i < k + 1 → P i := by
 intro i hi
 by_cases h3 : i < k
 ·exact h i h3
 ·obtain rfl : i = k := by omega
  exact h2
theorem lit_i64 {n : Int} (h : (Lit.int .i64 n).wf = true) : -9223372036854775808 ≤ n ∧ n ≤ 9223372036854775807 := by
 have e1 : IntKind.min .i64 = -9223372036854775808 := rfl
 have e2 : IntKind.max .i64 = 9223372036854775807 := rfl
 simp only [Lit.wf, Bool.and_eq_true, decide_eq_true_eq, e1, e2] at h
 exact h
theorem zbs {i : Nat} (h : i < 9223372036854775807) : wrap64 ((i : Int) + 1) = ((i + 1 : Nat) : Int) := by unfold wrap64; omega
theorem zaP {k d : Nat} (h : d < k) : ∃ m, k = m + 1 := ⟨k - 1, by omega⟩
theorem getD_left {α : Type} (A B : List α) (z : α) {i : Nat} (h : i < A.length) : (A ++ B).getD i z = A.getD i z := by simp [List.getD, List.getElem?_append_left h]
def zaK (n : Nat) : List Int := if n < 128 then [(n : Int)] else ((n % 128 + 128 : Nat) : Int) :: zaK (n / 128)
termination_by n
decreasing_by omega
theorem zbf {n : Nat} (h : n < 128) : zaK n = [(n : Int)] := by rw [zaK, if_pos h]
theorem lePut_more {n : Nat} (h : ¬ n < 128) : zaK n = ((n % 128 + 128 : Nat) : Int) :: zaK (n / 128) := by rw [zaK, if_neg h]
theorem lePut_few {n k a : Nat} (h : n * 128 ^ k ≤ a) (ha : a < 18446744073709551616) (hn : 1 ≤ n) : k ≤ 9 := by
 by_cases hk : k ≤ 9
 ·exact hk
 ·have h1 : 128 ^ 10 ≤ 128 ^ k := Nat.pow_le_pow_right (by decide) (by omega)
  have h2 : 128 ^ k ≤ n * 128 ^ k := Nat.le_mul_of_pos_left _ hn
  have h3 : (128 : Nat) ^ 10 = 1180591620717411303424 := by decide
  omega
theorem addr_add (a : Addr) (i j : Nat) : (a.add i).add j = a.add (i + j) := by
 unfold Addr.add
 by_cases hi : i = 0 <;> by_cases hj : j = 0 <;> simp [hi, hj, Nat.add_assoc]
theorem zax {W : World} {a : Addr} {v : Value} (o : Obj) (h : W.cell? a = some v) : (W.alloc o).cell? a = some v :=
 zaH ((Below.refl W.heap.size W).alloc (Nat.le_refl _) o) h
def idxRel {α : Type} (p : α → Bool) (l0 : List α) (z : α) (w : World) (k : Nat) (w' : World) : Prop := k ≤ l0.length ∧ (∀ i, i < k → p (l0.getD i z) = false) ∧ Below w.heap.size w w'
def idxPost {α : Type} (p : α → Bool) (l0 : List α) (w : World) (e : Ending) (w' : World) : Prop := e = .returned (.int .i64 (idx p l0)) ∧ Below w.heap.size w w'
def za2 (b : Bool) (w : World) (e : Ending) (w' : World) : Prop := e = .returned (.bool b) ∧ Below w.heap.size w w'
def rowPost {α : Type} (d : Kd α) (e : Nat) (l : List α) (w : World) (en : Ending) (w' : World) : Prop := ∃ v0_ : Value, en = .returned v0_ ∧ Kd.R d e w' w.heap.size (fun _ => True) v0_ l ∧ Below w.heap.size w w'
theorem C_none {α : Type} {d : Kd α} {w : World} {n : Nat} {l : List α} (h : Kd.C d w none n l) : l = [] := by
 obtain ⟨h1, h2, h3⟩ := h
 cases n with
 | zero => exact List.length_eq_zero_iff.1 h1
 | succ n => obtain ⟨ad, e, _⟩ := h3 (by omega); cases e
theorem Kd.R_empty {α : Type} (d : Kd α) (e : Nat) (w : World) (base : Nat) (hb : base ≤ w.heap.size) : Kd.R d e (w.alloc (.cells #[] e)) base (fun _ => True) (.slice (some ⟨w.heap.size, 0, none⟩) 0 0) [] :=
 ⟨fun _ _ => trivial, [], by simpa using World.ownsRow_lit (base := base) (e := e) (size := d.sz) w #[] 0 hb (Nat.zero_le _) (by simp), Reps.none _ _⟩
def Tells {α : Type} (P : Program) (d : Kd α) (g : Nat) (caps : Array Value) (p : α → Bool) (w : World) : Prop := ∀ x cs W, Below w.heap.size w W → d.K W x cs → Calls P g (#[.agg cs.toArray] ++ caps) W fun e w' => e = .returned (.bool (p x)) ∧ Below W.heap.size W w'
theorem Tells.below {α : Type} {P : Program} {d : Kd α} {g : Nat} {caps : Array Value} {p : α → Bool} {w w1 : World} (h : Tells P d g caps p w) (hb : Below w.heap.size w w1) : Tells P d g caps p w1 :=
 fun x cs W hW hK => h x cs W (zah hb hW) hK
def TellsW {α : Type} (P : Program) (d : Kd α) (g : Nat) (caps : Array Value) (p : α → Bool) (wf : α → Prop) (w : World) : Prop := ∀ x cs W, wf x → Below w.heap.size w W → d.K W x cs → Calls P g (#[.agg cs.toArray] ++ caps) W fun e w' => e = .returned (.bool (p x)) ∧ Below W.heap.size W w'
theorem getD_in {α : Type} (z : α) {l : List α} {i : Nat} (h : i < l.length) : l.getD i z ∈ l := by simp [List.getD, h]
def Tells2 {α : Type} (P : Program) (d : Kd α) (g : Nat) (caps : Array Value) (p : α → α → Bool) (w : World) : Prop := ∀ x y cs ds W, Below w.heap.size w W → d.K W x cs → d.K W y ds → Calls P g (#[.agg cs.toArray, .agg ds.toArray] ++ caps) W fun e w' => e = .returned (.bool (p x y)) ∧ Below W.heap.size W w'
def eqf {α : Type} (p : α → α → Bool) (z : α) (a b : List α) : Bool := decide (a.length = b.length) && (List.range a.length).all fun i => p (a.getD i z) (b.getD i z)
theorem eqf_len {α : Type} {p : α → α → Bool} {z : α} {a b : List α} (h : ¬ a.length = b.length) : eqf p z a b = false := by
 unfold eqf
 rw [decide_eq_false h, Bool.false_and]
theorem eqf_hit {α : Type} {p : α → α → Bool} {z : α} {a b : List α} (k : Nat) (hk : k < a.length) (h : p (a.getD k z) (b.getD k z) = false) : eqf p z a b = false := by
 unfold eqf
 rw [range_all_hit _ _ k hk h, Bool.and_false]
theorem eqf_all {α : Type} {p : α → α → Bool} {z : α} {a b : List α} (hl : a.length = b.length) (h : ∀ i, i < a.length → p (a.getD i z) (b.getD i z) = true) : eqf p z a b = true := by
 unfold eqf
 rw [range_all_none _ _ h, decide_eq_true hl]
 rfl
theorem cells2 : ∀ cs : List Value, cs.length = 2 → ∃ c0 c1, cs = [c0, c1]
 | [c0, c1], _ => ⟨c0, c1, rfl⟩
theorem cells3 : ∀ cs : List Value, cs.length = 3 → ∃ c0 c1 c2, cs = [c0, c1, c2]
 | [c0, c1, c2], _ => ⟨c0, c1, c2, rfl⟩
theorem cells5 : ∀ cs : List Value, cs.length = 5 → ∃ c0 c1 c2 c3 c4, cs = [c0, c1, c2, c3, c4]
 | [c0, c1, c2, c3, c4], _ => ⟨c0, c1, c2, c3, c4, rfl⟩
def zbg (i acc : Nat) : List Int → Option (Nat × Nat)
 | [] => none
 | c :: l => if 10 ≤ i then none else if 128 ≤ c then zbg (i + 1) (acc + c.toNat % 128 * 128 ^ i) l else if (0 < i ∧ c = 0) ∨ (i = 9 ∧ 1 < c) then none else some (acc + c.toNat * 128 ^ i, i + 1)
def getN (l : List Int) : Option (Nat × Nat) := zbg 0 0 l
def tellN : Option (Nat × Nat) → Int × Int × Bool
 | some (n, u) => ((n : Int), (u : Int), true)
 | none => (0, 0, false)
def za5 (l : List Int) : Prop := ∀ c ∈ l, 0 ≤ c ∧ c < 256
instance (l : List Int) : Decidable (za5 l) := inferInstanceAs (Decidable (∀ c ∈ l, 0 ≤ c ∧ c < 256))
theorem getNAux_late (acc : Nat) (l : List Int) {i : Nat} (h : 10 ≤ i) : zbg i acc l = none := by
 cases l with
 | nil => rfl
 | cons c l => unfold zbg; rw [if_pos h]
theorem getNAux_used : ∀ (l : List Int) (i acc n u : Nat), zbg i acc l = some (n, u) → i < u ∧ u ≤ i + l.length ∧ u ≤ 10
 | [], i, acc, n, u, h => by simp [zbg] at h
 | c :: l, i, acc, n, u, h => by
  unfold zbg at h
  by_cases h1 : 10 ≤ i
  ·rw [if_pos h1] at h; simp at h
  ·rw [if_neg h1] at h
   by_cases h2 : 128 ≤ c
   ·rw [if_pos h2] at h
    have := getNAux_used l _ _ _ _ h
    simp only [List.length_cons]
    omega
   ·rw [if_neg h2] at h
    split at h
    ·simp at h
    ·simp only [Option.some.injEq, Prod.mk.injEq] at h
     simp only [List.length_cons]
     omega
theorem getN_used {l : List Int} {n u : Nat} (h : getN l = some (n, u)) : 1 ≤ u ∧ u ≤ l.length ∧ u ≤ 10 := by
 have := getNAux_used l 0 0 n u h
 omega
def za7 : List Int → Nat
 | [] => 0
 | c :: l => c.toNat % 128 + 128 * za7 l
theorem leVal_snoc : ∀ (l : List Int) (c : Int), za7 (l ++ [c]) = za7 l + c.toNat % 128 * 128 ^ l.length
 | [], c => by simp [za7]
 | d :: l, c => by
  have ih := leVal_snoc l c
  simp only [List.cons_append, za7, ih, List.length_cons, Nat.pow_succ]
  rw [Nat.mul_add, Nat.mul_comm (128 ^ l.length) 128, ← Nat.mul_assoc (c.toNat % 128) 128, Nat.mul_comm (c.toNat % 128) 128, Nat.mul_assoc 128]
  omega
theorem leVal_lt : ∀ l : List Int, za7 l < 128 ^ l.length
 | [] => by simp [za7]
 | d :: l => by
  have ih := leVal_lt l
  simp only [za7, List.length_cons, Nat.pow_succ]
  omega
theorem leVal_put (n : Nat) : za7 (zaK n) = n := by
 induction n using Nat.strongRecOn with
 | _ n ih =>
  by_cases h : n < 128
  ·rw [zbf h]; simp [za7]; omega
  ·rw [lePut_more h]
   have := ih (n / 128) (by omega)
   simp only [za7, this]
   omega
theorem lePut_pos (n : Nat) : 1 ≤ (zaK n).length := by
 by_cases h : n < 128
 ·rw [zbf h]; simp
 ·rw [lePut_more h]; simp
theorem lePut_val : ∀ (t : List Int) (c : Int), (∀ x ∈ t, 128 ≤ x ∧ x < 256) → 0 ≤ c → c < 128 → (t = [] ∨ c ≠ 0) → zaK (za7 (t ++ [c])) = t ++ [c]
 | [], c, _, h0, h1, _ => by
  have e : za7 ([] ++ [c]) = c.toNat := by simp [za7]; omega
  rw [e, zbf (by omega)]
  simp; omega
 | d :: t, c, ht, h0, h1, h2 => by
  have hc : c ≠ 0 := by rcases h2 with h2 | h2; cases h2; exact h2
  have hd := ht d (by simp)
  have ih := lePut_val t c (fun x hx => ht x (by simp [hx])) h0 h1 (.inr hc)
  have hv : 1 ≤ za7 (t ++ [c]) := by
   rw [leVal_snoc]
   have h3 : 1 ≤ c.toNat % 128 := by omega
   have h4 : 0 < 128 ^ t.length := Nat.pow_pos (by decide)
   have : 1 * 128 ^ t.length ≤ c.toNat % 128 * 128 ^ t.length := Nat.mul_le_mul_right _ h3
   omega
  have e : za7 (d :: t ++ [c]) = d.toNat % 128 + 128 * za7 (t ++ [c]) := rfl
  rw [e, lePut_more (by omega)]
  rw [show (d.toNat % 128 + 128 * za7 (t ++ [c])) / 128 = za7 (t ++ [c]) from by omega, ih]
  simp only [List.cons_append, List.cons.injEq, and_true]
  omega
theorem lePut_last (n : Nat) : ∀ t : List Int, zaK n = t ++ [0] → t = [] := by
 induction n using Nat.strongRecOn with
 | _ n ih =>
  intro t h
  by_cases hn : n < 128
  ·rw [zbf hn] at h
   have := congrArg List.length h
   simp at this
   exact this
  ·rw [lePut_more hn] at h
   cases t with
   | nil =>
    have := congrArg List.length h
    have h2 := lePut_pos (n / 128)
    simp only [List.length_cons, List.nil_append, List.length_nil] at this
    omega
   | cons d t =>
    simp only [List.cons_append, List.cons.injEq] at h
    have h3 := ih (n / 128) (by omega) t h.2
    rw [h3] at h
    have h4 := congrArg za7 h.2
    rw [leVal_put] at h4
    simp [za7] at h4
    omega
def leCont (t : List Int) : Prop := ∀ x ∈ t, 128 ≤ x ∧ x < 256
theorem getN_end {t : List Int} {c : Int} {l : List Int} (ht : leCont t) (h0 : 0 ≤ c) (h1 : c < 128) (hl : t.length ≤ 9) :
  zbg t.length (za7 t) (c :: l) = if zaK ((za7 (t ++ [c])) % 18446744073709551616) = t ++ [c] then some (za7 (t ++ [c]), t.length + 1) else none := by
 have hv := leVal_snoc t c
 have hm : c.toNat % 128 = c.toNat := by omega
 rw [hm] at hv
 unfold zbg
 rw [if_neg (by omega), if_neg (by omega)]
 have hlt := leVal_lt t
 have hpl : 128 ^ t.length ≤ 128 ^ 9 := Nat.pow_le_pow_right (by decide) hl
 have h9 : (128 : Nat) ^ 9 = 9223372036854775808 := by decide
 have hval : ∀ m, zaK (m % 18446744073709551616) = t ++ [c] → m % 18446744073709551616 = za7 (t ++ [c]) := fun m h => by rw [← h, leVal_put]
 by_cases hc : 0 < t.length ∧ c = 0
 ·rw [if_pos (.inl hc), if_neg]
  intro h
  rw [hc.2] at h
  have := lePut_last _ _ h
  simp [this] at hc
 ·by_cases h9c : t.length = 9 ∧ 1 < c
  ·rw [if_pos (.inr h9c), if_neg]
   intro h
   have h2 := hval _ h
   have h3 : 2 * 128 ^ t.length ≤ c.toNat * 128 ^ t.length := Nat.mul_le_mul_right _ (by omega)
   rw [h9c.1] at h3
   rw [h9c.1] at hv
   omega
  ·rw [if_neg (by rintro (h | h); exact hc h; exact h9c h)]
   have hsmall : za7 (t ++ [c]) < 18446744073709551616 := by
    rw [hv]
    by_cases h8 : t.length = 9
    ·have h3 : c.toNat * 128 ^ t.length ≤ 1 * 128 ^ t.length := Nat.mul_le_mul_right _ (by omega)
     rw [h8] at h3 hlt ⊢
     omega
    ·have hpl8 : 128 ^ t.length ≤ 128 ^ 8 := Nat.pow_le_pow_right (by decide) (by omega)
     have h88 : (128 : Nat) ^ 8 = 72057594037927936 := by decide
     have hx : c.toNat * 128 ^ t.length ≤ 127 * 128 ^ t.length := Nat.mul_le_mul_right _ (by omega)
     omega
   rw [Nat.mod_eq_of_lt hsmall, if_pos, hv]
   refine lePut_val t c ht h0 h1 ?_
   by_cases h : t = []
   ·exact .inl h
   ·refine .inr (fun h2 => hc ⟨?_, h2⟩)
    cases t with
    | nil => exact absurd rfl h
    | cons _ _ => simp
theorem getN_more {t : List Int} {c : Int} {l : List Int} (hl : t.length ≤ 9) (h : 128 ≤ c) : zbg t.length (za7 t) (c :: l) = zbg (t ++ [c]).length (za7 (t ++ [c])) l := by
 rw [zbg, if_neg (by omega), if_pos h, leVal_snoc, List.length_append, List.length_singleton]
theorem getNAux_put (n : Nat) : ∀ (t rest : List Int), leCont t → t.length ≤ 9 → za7 t + n * 128 ^ t.length < 18446744073709551616 → (t = [] ∨ n ≠ 0) → zbg t.length (za7 t) (zaK n ++ rest) = some (za7 t + n * 128 ^ t.length, t.length + (zaK n).length) := by
 induction n using Nat.strongRecOn with
 | _ n ih =>
  intro t rest ht hl hb hz
  by_cases hn : n < 128
  ·rw [zbf hn, List.singleton_append, getN_end ht (by omega) (by omega) hl]
   have hv : za7 (t ++ [(n : Int)]) = za7 t + n * 128 ^ t.length := by rw [leVal_snoc, Int.toNat_natCast, Nat.mod_eq_of_lt hn]
   rw [hv, Nat.mod_eq_of_lt hb, if_pos]
   ·rfl
   ·rw [← hv]
    exact lePut_val t _ ht (by omega) (by omega) (by rcases hz with h | h; exact .inl h; exact .inr (by omega))
  ·rw [lePut_more hn, List.cons_append, getN_more hl (by omega)]
   have hv : za7 (t ++ [((n % 128 + 128 : Nat) : Int)]) = za7 t + n % 128 * 128 ^ t.length := by
    rw [leVal_snoc, Int.toNat_natCast, show (n % 128 + 128) % 128 = n % 128 from by omega]
   have hs : n % 128 * 128 ^ t.length + n / 128 * 128 ^ (t.length + 1) = n * 128 ^ t.length := by
    rw [Nat.pow_succ, Nat.mul_comm (128 ^ t.length) 128, ← Nat.mul_assoc, ← Nat.add_mul]
    congr 1
    omega
   have hlen : t.length < 9 := by
    by_cases h9 : t.length = 9
    ·rw [h9] at hb
     have h3 : 128 * 128 ^ 9 ≤ n * 128 ^ 9 := Nat.mul_le_mul_right _ (by omega)
     have h99 : (128 : Nat) * 128 ^ 9 = 1180591620717411303424 := by decide
     omega
    ·omega
   have h := ih (n / 128) (by omega) (t ++ [((n % 128 + 128 : Nat) : Int)]) rest (by
     intro x hx
     rcases List.mem_append.1 hx with hx | hx
     ·exact ht x hx
     ·simp at hx; omega) (by simp; omega) (by rw [hv]; simp only [List.length_append, List.length_singleton]; omega) (.inr (by omega))
   rw [h, hv]
   rw [show (t ++ [((n % 128 + 128 : Nat) : Int)]).length = t.length + 1 from by simp]
   simp only [List.length_cons, Option.some.injEq, Prod.mk.injEq]
   omega
theorem getN_put (n : Nat) (rest : List Int) (h : n < 18446744073709551616) : getN (zaK n ++ rest) = some (n, (zaK n).length) := by
 have := getNAux_put n [] rest (fun x hx => by simp at hx) (by simp) (by simpa [za7] using h) (.inl rfl)
 simpa [za7, getN] using this
theorem getNAux_some : ∀ (l t : List Int) (n u : Nat), za5 l → leCont t → zbg t.length (za7 t) l = some (n, u) → n < 18446744073709551616 ∧ ∃ v, u = t.length + v ∧ v ≤ l.length ∧ t ++ l.take v = zaK n
 | [], t, n, u, _, _, h => by simp [zbg] at h
 | c :: l, t, n, u, hb, ht, h => by
  by_cases h10 : 10 ≤ t.length
  ·rw [getNAux_late _ _ h10] at h; simp at h
  ·have hc := hb c (by simp)
   by_cases h2 : 128 ≤ c
   ·rw [getN_more (by omega) h2] at h
    obtain ⟨h3, v, h4, h5, h6⟩ := getNAux_some l (t ++ [c]) n u (fun x hx => hb x (by simp [hx])) (by
     intro x hx
     rcases List.mem_append.1 hx with hx | hx
     ·exact ht x hx
     ·simp at hx; omega) h
    refine ⟨h3, v + 1, by simp at h4; omega, by simp; omega, by rw [← h6]; simp⟩
   ·rw [getN_end ht hc.1 (by omega) (by omega)] at h
    by_cases h3 : zaK (za7 (t ++ [c]) % 18446744073709551616) = t ++ [c]
    ·rw [if_pos h3] at h
     simp only [Option.some.injEq, Prod.mk.injEq] at h
     obtain ⟨rfl, rfl⟩ := h
     have h4 : za7 (t ++ [c]) % 18446744073709551616 = za7 (t ++ [c]) := by
      have := congrArg za7 h3
      rw [leVal_put] at this
      exact this
     rw [h4] at h3
     refine ⟨by omega, 1, rfl, by simp, ?_⟩
     rw [h3]
     simp
    ·rw [if_neg h3] at h; simp at h
theorem getN_some {l : List Int} {n u : Nat} (hb : za5 l) (h : getN l = some (n, u)) : n < 18446744073709551616 ∧ u ≤ l.length ∧ l.take u = zaK n := by
 obtain ⟨h1, v, h2, h3, h4⟩ := getNAux_some l [] n u hb (fun x hx => by simp at hx) h
 simp only [List.length_nil, Nat.zero_add] at h2
 subst h2
 exact ⟨h1, h3, by simpa using h4⟩
def getPost (l : List Int) (w : World) (e : Ending) (w' : World) : Prop := e = .returned (.tuple #[.int .u64 (tellN (getN l)).1, .int .i64 (tellN (getN l)).2.1, .bool (tellN (getN l)).2.2]) ∧ Below w.heap.size w w'
theorem u64_mod (n : Nat) : IntKind.wrap .u64 (n : Int) = ((n % 18446744073709551616 : Nat) : Int) := by
 rw [show IntKind.wrap .u64 (n : Int) = (n : Int) % 18446744073709551616 from rfl]
 omega
theorem u64_small' {n : Nat} (h : n < 18446744073709551616) : IntKind.wrap .u64 (n : Int) = (n : Int) := by rw [u64_mod, Nat.mod_eq_of_lt h]
def nameCh (i : Nat) (c : Int) : Bool := (decide (97 ≤ c) && decide (c ≤ 122)) || (decide (0 < i) && (c == 95 || (decide (48 ≤ c) && decide (c ≤ 57))))
def nameB (s : ByteArray) : Bool := ((List.range s.size).all fun i => nameCh i (bt s (i : Int))) && (decide (s.size ≠ 0) && decide (s.size ≤ 12))
theorem bytesOf_str {l : List Int} (h : za5 l) : bytesOf (strOfNums l) = l := by
 unfold bytesOf strOfNums
 rw [List.map_map]
 conv => rhs; rw [← List.map_id l]
 refine List.map_congr_left (fun c hc => ?_)
 have := h c hc
 simp only [Function.comp, id]
 rw [UInt8.toNat_ofNat']
 omega
theorem str_bytesOf (s : ByteArray) : strOfNums (bytesOf s) = s := by
 unfold bytesOf strOfNums
 rw [List.map_map]
 have : s.data.toList.map ((fun n : Int => UInt8.ofNat n.toNat) ∘ fun b : UInt8 => (b.toNat : Int)) = s.data.toList := by
  conv => rhs; rw [← List.map_id s.data.toList]
  refine List.map_congr_left (fun c _ => ?_)
  simp
 rw [this]
theorem strOfNums_size (l : List Int) : (strOfNums l).size = l.length := by
 unfold strOfNums
 show (List.map _ l).toArray.size = _
 simp
theorem toList_inj {a b : ByteArray} (h : a.toList = b.toList) : a = b := by
 rw [ByteArray.toList_eq, ByteArray.toList_eq] at h
 have := Array.toList_inj.1 h
 cases a; cases b
 simpa using this
theorem byteL_take {l : List Int} (h : za5 l) (n : Nat) : za5 (l.take n) := fun c hc => h c (List.mem_of_mem_take hc)
theorem zbv {l : List Int} (h : za5 l) (n : Nat) : za5 (l.drop n) := fun c hc => h c (List.mem_of_mem_drop hc)
def textL (s : ByteArray) : List Int := zaK s.size ++ bytesOf s
theorem textL_small {s : ByteArray} (h : s.size ≤ 12) : (textL s).length = s.size + 1 := by
 unfold textL
 rw [zbf (by omega), List.length_append, za6]
 simp; omega
theorem lePut_short {n : Nat} (h : n < 16384) : (zaK n).length ≤ 2 := by
 by_cases h2 : n < 128
 ·rw [zbf h2]; simp
 ·rw [lePut_more h2, zbf (by omega)]; simp
theorem zbh (w : World) (o o2 : Obj) : ((w.alloc o).alloc o2).heap[w.heap.size + 1]? = some o2 := by
 have := zaw (w.alloc o) o2
 rwa [World.size_alloc] at this
def getM (l : List Int) (most : Nat) : Option (Nat × Nat) := match getN l with
 | none => none
 | some (n, u) => if n ≤ most then some (n, u) else none
def numYes (n u : Nat) (w : World) (e : Ending) (w' : World) : Prop := e = .returned (.tuple #[.int .u64 (n : Int), .int .i64 (u : Int), .bool true]) ∧ Below w.heap.size w w'
def numNo (w : World) (e : Ending) (w' : World) : Prop := e = .returned (.tuple #[.int .u64 0, .int .i64 0, .bool false]) ∧ Below w.heap.size w w'
theorem getM_none {l : List Int} {m : Nat} (h : getN l = none) : getM l m = none := by unfold getM; rw [h]
theorem getM_some {l : List Int} {m n u : Nat} (h : getN l = some (n, u)) : getM l m = if n ≤ m then some (n, u) else none := by unfold getM; rw [h]
theorem getM_used {l : List Int} {m n u : Nat} (h : getM l m = some (n, u)) : getN l = some (n, u) ∧ n ≤ m ∧ u ≤ l.length := by
 cases hg : getN l with
 | none => rw [getM_none hg] at h; simp at h
 | some p =>
  obtain ⟨a, b⟩ := p
  rw [getM_some hg] at h
  by_cases h2 : a ≤ m
  ·rw [if_pos h2] at h
   simp only [Option.some.injEq, Prod.mk.injEq] at h
   obtain ⟨rfl, rfl⟩ := h
   exact ⟨rfl, h2, (getN_used hg).2.1⟩
  ·rw [if_neg h2] at h; simp at h
theorem mid_row {α : Type} {P : Program} {d : Kd α} {t e : TypeId} {i0 : TypeInfo} (ht : P.underlying t = some (.slice e)) (hi0 : P.info? e = some i0) (hsz : i0.size = d.sz) (A : Option Addr) (c : Nat) (l : List α) (lo k : Nat) (i j : Int) (hi : i = lo) (hj : j = lo + k) (hk : lo + k ≤ l.length) (hc : l.length ≤ c) :
  ∃ A' : Option Addr, (∀ W : World, (Instr.slice t (.slice A l.length c) (some (.int .i64 i)) (some (.int .i64 j)) none).run P W = .ok (.slice A' k (c - lo)) W) ∧ (∀ w : World, Kd.C d w A l.length l → Kd.C d w A' k ((l.drop lo).take k)) ∧ ((l.drop lo).take k).length = k := by
 have hln : ((l.take (lo + k)).drop lo).length = k := by rw [List.length_drop, List.length_take]; omega
 have hdt : (l.take (lo + k)).drop lo = (l.drop lo).take k := by rw [List.drop_take]; congr 1; omega
 refine ⟨if c = lo then A else A.map (·.add (lo * d.sz)), fun W => ?_, fun w h => ?_, by rw [← hdt]; exact hln⟩
 ·have h := cut_mid (P := P) t e .i64 .i64 ht hi0 d.sz hsz A l.length c i j (by omega) (by omega) (by omega) hc W
  rw [show j.toNat - i.toNat = k from by omega, show i.toNat = lo from by omega] at h
  exact h
 ·have h2 := Kd.C_mid (lo := lo) (hi := lo + k) h (by omega) hk hc
  rw [hln, hdt] at h2
  exact h2
theorem drop_row {α : Type} {P : Program} {d : Kd α} {t e : TypeId} {i0 : TypeInfo} (ht : P.underlying t = some (.slice e)) (hi0 : P.info? e = some i0) (hsz : i0.size = d.sz) (A : Option Addr) (c : Nat) (l : List α) (lo : Nat) (i : Int) (hi : i = lo) (hk : lo ≤ l.length) (hc : l.length ≤ c) :
  ∃ A' : Option Addr, (∀ W : World, (Instr.slice t (.slice A l.length c) (some (.int .i64 i)) none none).run P W = .ok (.slice A' (l.drop lo).length (c - lo)) W) ∧ (∀ w : World, Kd.C d w A l.length l → Kd.C d w A' (l.drop lo).length (l.drop lo)) ∧ (l.drop lo).length ≤ c - lo := by
 refine ⟨if c = lo then A else A.map (·.add (lo * d.sz)), fun W => ?_, fun w h => Kd.C_drop h hk hc, by rw [List.length_drop]; omega⟩
 have hel : P.elem t = e := by simp [Program.elem, ht]
 have hu : P.underlying t = some (.slice (P.elem t)) := by rw [hel]; exact ht
 rw [run_slice_l W t A l.length c hu .i64 i (by omega) (by omega), hel, List.length_drop]
 simp [sizeOf, typeInfo, hi0, hsz, sliced, Result.andThen, hi]
theorem take_row {α : Type} {P : Program} {d : Kd α} {t e : TypeId} {i0 : TypeInfo} (ht : P.underlying t = some (.slice e)) (hi0 : P.info? e = some i0) (A : Option Addr) (c : Nat) (l : List α) (k : Nat) (i : Int) (hi : i = k) (hk : k ≤ l.length) (hc : l.length ≤ c) :
  (∀ W : World, (Instr.slice t (.slice A l.length c) none (some (.int .i64 i)) none).run P W = .ok (.slice A k c) W) ∧ (∀ w : World, Kd.C d w A l.length l → Kd.C d w A k (l.take k)) := by
 have hln : (l.take k).length = k := by rw [List.length_take]; omega
 refine ⟨fun W => ?_, fun w h => ?_⟩
 ·have hel : P.elem t = e := by simp [Program.elem, ht]
  have hu : P.underlying t = some (.slice (P.elem t)) := by rw [hel]; exact ht
  have ha : (A.map fun x => x.add 0) = A := by cases A <;> simp [Addr.add]
  rw [run_slice_h W t A l.length c hu .i64 i (by omega) (by omega), hel]
  simp [sizeOf, typeInfo, hi0, sliced, Result.andThen, hi, ha]
 ·have := Kd.C_take h hk
  rwa [hln] at this
def Only (B : Nat) (w w' : World) : Prop := Below B w w' ∧ ∀ i, i ≠ B → i < w.heap.size → w'.heap[i]? = w.heap[i]?
theorem Only.refl (B : Nat) (w : World) : Only B w w := ⟨Below.refl _ _, fun _ _ _ => rfl⟩
theorem Only.of_below {B : Nat} {w w' : World} (h : Below w.heap.size w w') (hB : B ≤ w.heap.size) : Only B w w' := ⟨h.mono hB, fun i _ hi => h.block i hi⟩
theorem Only.trans {B : Nat} {a b c : World} (h : Only B a b) (k : Only B b c) : Only B a c :=
 ⟨h.1.trans k.1, fun i hi hl => (k.2 i hi (Nat.lt_of_lt_of_le hl h.1.size)).trans (h.2 i hi hl)⟩
theorem Only.set {B j : Nat} {w w' : World} (h : Only B w w') (u : Value) : Only B w (w'.setCell ⟨B, j, none⟩ u) :=
 ⟨h.1.setCell (Nat.le_refl _) u, fun i hi hl => (Below.heap_setCell w' ⟨B, j, none⟩ u i hi).trans (h.2 i hi hl)⟩
theorem Only.step {B : Nat} {w w' w2 : World} (h : Only B w w') (k : Below w'.heap.size w' w2) (hB : B ≤ w'.heap.size) : Only B w w2 := h.trans (Only.of_below k hB)
theorem Only.below {n B : Nat} {w0 w w' : World} (h0 : Below n w0 w) (h : Only B w w') (hn : n ≤ B) : Below n w0 w' := h0.trans (h.1.mono hn)
theorem Only.blk {B i : Nat} {w w' : World} {o : Obj} (h : Only B w w') (hk : w.heap[i]? = some o) (hi : i ≠ B) : w'.heap[i]? = some o := (h.2 i hi (zay hk)).trans hk
theorem Only.row {α : Type} {d : Kd α} {e B t base : Nat} {w w' : World} {ok : Nat → Prop} {v : Value} {xs : List α} {cells : Array Value} (ho : Only B w w') (h : d.R e w base ok v xs) (hb : w.heap[B]? = some (.cells cells t (0, 0))) (ht : ∀ q, q ∈ e :: d.E → q ≠ t) : d.R e w' base ok v xs :=
 Kd.R_mono (Kd.R_step (Kd.R_types h hb ht) (fun k hk hl => ho.2 k hk.2 hl)) (fun _ hk => hk.1)
theorem zbq {w : World} {b i : Nat} {v x : Value} {p : Addr} (h : w.cell? ⟨b, i, none⟩ = some v) (hne : b ≠ p.block) : (w.setCell p x).cell? ⟨b, i, none⟩ = some v :=
 (World.cell?_of_block (w := w) (a := ⟨b, i, none⟩) (Below.heap_setCell w p x b hne)).trans h
theorem getM_put {n m : Nat} (rest : List Int) (h : n ≤ m) (hm : m < 18446744073709551616) : getM (zaK n ++ rest) m = some (n, (zaK n).length) := by
 rw [getM_some (getN_put n rest (by omega)), if_pos h]
theorem getM_take {l : List Int} {m n u : Nat} (hb : za5 l) (h : getM l m = some (n, u)) : l.take u = zaK n ∧ u = (zaK n).length := by
 obtain ⟨h1, _, h3⟩ := getM_used h
 have h4 := (getN_some hb h1).2.2
 refine ⟨h4, ?_⟩
 rw [← h4, List.length_take]
 omega
def zigN (n : Int) : Nat := if 0 ≤ n then (2 * n).toNat else (-2 * n - 1).toNat
def zagN (m : Nat) : Int := if m % 2 = 0 then ((m / 2 : Nat) : Int) else -((m / 2 : Nat) : Int) - 1
theorem zag_zig (n : Int) : zagN (zigN n) = n := by
 unfold zigN zagN
 split <;> split <;> omega
theorem zig_zag (m : Nat) : zigN (zagN m) = m := by
 unfold zigN zagN
 split <;> split <;> omega
theorem zig_lt {n : Int} (h0 : -9223372036854775808 ≤ n) (h1 : n ≤ 9223372036854775807) : zigN n < 18446744073709551616 := by unfold zigN; split <;> omega
theorem zag_in {m : Nat} (h : m < 18446744073709551616) : -9223372036854775808 ≤ zagN m ∧ zagN m ≤ 9223372036854775807 := by unfold zagN; split <;> omega
theorem xor_zeroU (a : Int) (ha : IntKind.wrap .u64 ((BitVec.ofInt 64 a).toNat : Int) = a) : Go.bits .xor .u64 a 0 = a := by
 show IntKind.wrap .u64 (((BitVec.ofInt 64 a ^^^ BitVec.ofInt 64 0).toNat : Nat) : Int) = a
 rw [show BitVec.ofInt 64 0 = 0#64 from by decide, BitVec.xor_zero]
 exact ha
theorem xor_zeroI (a : Int) (ha : IntKind.wrap .i64 ((BitVec.ofInt 64 a).toNat : Int) = a) : Go.bits .xor .i64 a 0 = a := by
 show IntKind.wrap .i64 (((BitVec.ofInt 64 a ^^^ BitVec.ofInt 64 0).toNat : Nat) : Int) = a
 rw [show BitVec.ofInt 64 0 = 0#64 from by decide, BitVec.xor_zero]
 exact ha
theorem ofInt_u64 {a : Int} (h0 : 0 ≤ a) (h1 : a < 18446744073709551616) : (BitVec.ofInt 64 a).toNat = a.toNat := by
 rw [BitVec.toNat_ofInt]
 omega
theorem wrap_u64 (n : Int) : IntKind.wrap .u64 n = n % 18446744073709551616 := rfl
theorem wrap_i64 (n : Int) : IntKind.wrap .i64 n = wrap64 n := by
 have h : IntKind.wrap .i64 n = if 9223372036854775808 ≤ n % 18446744073709551616 then n % 18446744073709551616 - 18446744073709551616 else n % 18446744073709551616 := by simp [IntKind.wrap, IntKind.bits, IntKind.signed]
 rw [h]
 unfold wrap64
 split <;> omega
theorem not64 (a : BitVec 64) : (a ^^^ BitVec.allOnes 64).toNat = 18446744073709551615 - a.toNat := by
 rw [BitVec.xor_allOnes, BitVec.toNat_not]
end Go.Proofs.Ytooemobolfoefaa.P


namespace Go.Proofs.Ytooemobolfoefaa.P
open Go.RowKit Go.Proofs.YtooemobolfoefaaW.PrintWords Go.Proofs.YtooemobolfoefaaW.PrintLast Go.Proofs.YtooemobolfoefaaW.PrintMore
def Own8 (e : TypeId) (base : Nat) (w : World) (v : Value) (xs : List Int) : Prop := Kd.R (Kd.int .u8) e w base (fun _ => True) v xs
theorem Own8.below {e : TypeId} {base : Nat} {w w1 : World} {v : Value} {xs : List Int} (h : Own8 e base w v xs) (hb : Below w.heap.size w w1) : Own8 e base w1 v xs := Kd.R_below h hb
theorem Own8.lower {e : TypeId} {base base' : Nat} {w : World} {v : Value} {xs : List Int} (h : Own8 e base w v xs) (hb : base' ≤ base) : Own8 e base' w v xs := Kd.R_lower h hb
theorem Own8.reads {e : TypeId} {base : Nat} {w : World} {v : Value} {xs : List Int} (h : Own8 e base w v xs) : ∃ A c, v = .slice A xs.length c ∧ xs.length ≤ c ∧ Kd.C (Kd.int .u8) w A xs.length xs := Kd.R_reads h
theorem Own8.ne {e : TypeId} {base b t : Nat} {w : World} {v : Value} {xs : List Int} {cs : Array Value} (h : Own8 e base w v xs) (hk : w.heap[b]? = some (.cells cs t (0, 0))) (ht : e ≠ t) : some b ≠ v.ownBlock := Kd.R_ne h hk ht
theorem own8_one (w : World) {e : TypeId} {base : Nat} (x : Int) (hb : base ≤ w.heap.size) : Own8 e base (w.alloc (.cells #[.int .u8 x] e)) (.slice (some ⟨w.heap.size, 0, none⟩) 1 1) [x] :=
 Kd.R_of_own (enc := Value.int .u8) (h1 := fun _ => rfl) (by simpa [encs] using World.ownsRow_lit (base := base) (e := e) (size := 1) w #[.int .u8 x] 1 hb (by simp [maxLen]) (by simp)) (fun _ _ => trivial)
section
variable {P : Program} {ops : Array Oper} {rest : List Oper} {o : Oper} {a : Act} {Q : Exit → Act → World → Prop} {Kc : Act → World → Prop}
theorem app8 {w0 W : World} (base : Nat) (hgd : o.guard = none) (s x : Operand) (t e : TypeId) (ho : o.op = .call { callee := .builtin .append, args := #[s, x], argTypes := #[t, t] })
  (ht : P.underlying t = some (.slice e)) (hinfo : (P.info? e).map (fun i => (i.zero, i.size, i.bytes)) = some (some (.int .u8 0), 1, 1)) (v : Value) (xs ys : List Int) (A : Option Addr) (m c : Nat) (hs : a.eval s = v) (hx : a.eval x = .slice A m c)
  (HO : Own8 e base W v xs) (HR : Kd.C (Kd.int .u8) W A m ys) (HB : Below base w0 W) (hbase : base ≤ W.heap.size) (hl : xs.length + m ≤ 140737488355328)
  (h : ∀ v1 w1, Own8 e base w1 v1 (xs ++ ys) → Below base w0 w1 → W.grownBy w1 v.ownBlock → wpList P ops Q rest (a.put o.dst v1) w1) : wpList P ops Q (o :: rest) a W :=
 Kd.R_append_rows (Kd.int .u8) (Rr := (Kd.int .u8).K W) (w0 := w0) base hgd s x t e (.int .u8 0) 1 ho ht hinfo rfl (by decide) (by decide) v xs ys A m c (fun _ => True) (fun _ => False) hs hx HO HR (fun _ _ h => h) (fun _ h => h.elim) (fun _ _ => trivial) HB hbase (by omega) (fun v1 w1 h1 h2 h3 _ => h v1 w1 h1 h2 h3)
theorem app8s {w0 W : World} (base : Nat) (hgd : o.guard = none) (s x : Operand) (t u e : TypeId) (ho : o.op = .call { callee := .builtin .append, args := #[s, x], argTypes := #[t, u] })
  (ht : P.underlying t = some (.slice e)) (hu : P.underlying u = some .string) (hinfo : (P.info? e).map (fun i => (i.zero, i.size, i.bytes)) = some (some (.int .u8 0), 1, 1)) (v : Value) (xs : List Int) (y : ByteArray) (hs : a.eval s = v) (hx : a.eval x = .string y)
  (HO : Own8 e base W v xs) (HB : Below base w0 W) (hbase : base ≤ W.heap.size) (hl : xs.length + y.size ≤ 140737488355328)
  (h : ∀ v1 w1, Own8 e base w1 v1 (xs ++ bytesOf y) → Below base w0 w1 → W.grownBy w1 v.ownBlock → wpList P ops Q rest (a.put o.dst v1) w1) : wpList P ops Q (o :: rest) a W :=
 print_append_str base hgd s x t u e ho ht hu hinfo v xs y hs hx (Kd.own_of_R HO) HB hbase hl (fun v1 w1 h1 h2 h3 => h v1 w1 (Kd.R_of_own h1 (fun _ _ => trivial)) h2 h3)
theorem app8_step {w0 W : World} (base : Nat) (hw : Region.wanted o (yielded ops a.tmps) = true) (s x : Operand) (t e : TypeId) (ho : o.op = .call { callee := .builtin .append, args := #[s, x], argTypes := #[t, t] })
  (ht : P.underlying t = some (.slice e)) (hinfo : (P.info? e).map (fun i => (i.zero, i.size, i.bytes)) = some (some (.int .u8 0), 1, 1)) (v : Value) (xs ys : List Int) (A : Option Addr) (m c : Nat) (hs : a.eval s = v) (hx : a.eval x = .slice A m c)
  (HO : Own8 e base W v xs) (HR : Kd.C (Kd.int .u8) W A m ys) (HB : Below base w0 W) (hbase : base ≤ W.heap.size) (hl : xs.length + m ≤ 140737488355328)
  (h : ∀ v1 w1, Own8 e base w1 v1 (xs ++ ys) → Below base w0 w1 → W.grownBy w1 v.ownBlock → Kc (a.put o.dst v1) w1) :
  if Region.wanted o (yielded ops a.tmps) = true then Oper.wp P o a W Kc Q else Kc (a.put o.dst undef) W :=
 Kd.R_append_rows_step (Kd.int .u8) (Rr := (Kd.int .u8).K W) (w0 := w0) base hw s x t e (.int .u8 0) 1 ho ht hinfo rfl (by decide) (by decide) v xs ys A m c (fun _ => True) (fun _ => False) hs hx HO HR (fun _ _ h => h) (fun _ h => h.elim) (fun _ _ => trivial) HB hbase (by omega) (fun v1 w1 h1 h2 h3 _ => h v1 w1 h1 h2 h3)
end
theorem append_types {P : Program} {t u e e' : TypeId} (ht : P.underlying t = some (.slice e)) (hu : P.underlying u = some (.slice e')) (ty : TypeId) (v x : Value) (W : World) : (Builtin.append_ #[t, u] ty #[v, x]).run P W = (Builtin.append_ #[t, t] ty #[v, x]).run P W := by
 unfold Builtin.append_
 cases v <;> simp [Sem.run_bind, run_underlying ht, run_underlying hu]
theorem exec_types {P : Program} {o : Oper} {ρ : Operand → Value} {W : World} {s x : Operand} {t u e e' : TypeId} (ho : o.op = .call { callee := .builtin .append, args := #[s, x], argTypes := #[t, u] }) (ht : P.underlying t = some (.slice e)) (hu : P.underlying u = some (.slice e')) :
  (execOp ρ o).run P W = (execOp ρ { o with op := .call { callee := .builtin .append, args := #[s, x], argTypes := #[t, t] } }).run P W := by
 unfold execOp
 simp only [ho, resolve, invoke, builtin, Sem.run_bind, List.map_toArray, List.map_cons, List.map_nil]
 simp [append_types ht hu]
section
variable {P : Program} {ops : Array Oper} {rest : List Oper} {o : Oper} {a : Act} {Q : Exit → Act → World → Prop} {Kc : Act → World → Prop}
theorem app8t_step {w0 W : World} (base : Nat) (hw : Region.wanted o (yielded ops a.tmps) = true) (s x : Operand) (t u e : TypeId) (ho : o.op = .call { callee := .builtin .append, args := #[s, x], argTypes := #[t, u] })
  (ht : P.underlying t = some (.slice e)) (hu : P.underlying u = some (.slice e)) (hinfo : (P.info? e).map (fun i => (i.zero, i.size, i.bytes)) = some (some (.int .u8 0), 1, 1)) (v : Value) (xs ys : List Int) (A : Option Addr) (m c : Nat) (hs : a.eval s = v) (hx : a.eval x = .slice A m c)
  (HO : Own8 e base W v xs) (HR : Kd.C (Kd.int .u8) W A m ys) (HB : Below base w0 W) (hbase : base ≤ W.heap.size) (hl : xs.length + m ≤ 140737488355328)
  (h : ∀ v1 w1, Own8 e base w1 v1 (xs ++ ys) → Below base w0 w1 → W.grownBy w1 v.ownBlock → Kc (a.put o.dst v1) w1) :
  if Region.wanted o (yielded ops a.tmps) = true then Oper.wp P o a W Kc Q else Kc (a.put o.dst undef) W := by
 have h1 := app8_step (o := { o with op := .call { callee := .builtin .append, args := #[s, x], argTypes := #[t, t] } }) (P := P) (ops := ops) (a := a) (Q := Q) (Kc := Kc) (w0 := w0) base hw s x t e rfl ht hinfo v xs ys A m c hs hx HO HR HB hbase hl h
 rw [if_pos hw]
 replace h1 := (if_pos (show Region.wanted { o with op := .call { callee := .builtin .append, args := #[s, x], argTypes := #[t, t] } } (yielded ops a.tmps) = true from hw)).mp h1
 unfold Oper.wp at h1 ⊢
 rw [exec_types ho ht hu]
 exact h1
theorem app8t {w0 W : World} (base : Nat) (hgd : o.guard = none) (s x : Operand) (t u e : TypeId) (ho : o.op = .call { callee := .builtin .append, args := #[s, x], argTypes := #[t, u] })
  (ht : P.underlying t = some (.slice e)) (hu : P.underlying u = some (.slice e)) (hinfo : (P.info? e).map (fun i => (i.zero, i.size, i.bytes)) = some (some (.int .u8 0), 1, 1)) (v : Value) (xs ys : List Int) (A : Option Addr) (m c : Nat) (hs : a.eval s = v) (hx : a.eval x = .slice A m c)
  (HO : Own8 e base W v xs) (HR : Kd.C (Kd.int .u8) W A m ys) (HB : Below base w0 W) (hbase : base ≤ W.heap.size) (hl : xs.length + m ≤ 140737488355328)
  (h : ∀ v1 w1, Own8 e base w1 v1 (xs ++ ys) → Below base w0 w1 → W.grownBy w1 v.ownBlock → wpList P ops Q rest (a.put o.dst v1) w1) : wpList P ops Q (o :: rest) a W := by
 have hw : Region.wanted o (yielded ops a.tmps) = true := by simp [Region.wanted, hgd]
 have h1 := app8t_step (P := P) (ops := ops) (a := a) (Q := Q) (Kc := wpList P ops Q rest) (w0 := w0) base hw s x t u e ho ht hu hinfo v xs ys A m c hs hx HO HR HB hbase hl h
 rw [if_pos hw] at h1
 unfold wpList
 rw [if_pos hw]
 exact .inl h1
end
theorem zero_i64 : -9223372036854775808 ≤ (0 : Int) ∧ (0 : Int) ≤ 9223372036854775807 := by decide
theorem zbB {W : World} {g : Nat} {t : TypeId} {a b c : Value} (h : W.heap[g]? = some (.cells #[a, b, c] t (0, 0))) (x y z : Value) : (((W.setCell ⟨g, 0, none⟩ x).setCell ⟨g, 1, none⟩ y).setCell ⟨g, 2, none⟩ z).heap[g]? = some (.cells #[x, y, z] t (0, 0)) :=
 zas (zas (zas h 0 x rfl) 1 y rfl) 2 z rfl
theorem below_put3 {B : Nat} {w W : World} {g : Nat} (h : Below B w W) (hg : B ≤ g) (x y z : Value) : Below B w (((W.setCell ⟨g, 0, none⟩ x).setCell ⟨g, 1, none⟩ y).setCell ⟨g, 2, none⟩ z) :=
 ((h.setCell (p := ⟨g, 0, none⟩) hg x).setCell (p := ⟨g, 1, none⟩) hg y).setCell (p := ⟨g, 2, none⟩) hg z
theorem za8 {W : World} {g : Nat} {t : TypeId} {cs : Array Value} (h : W.heap[g]? = some (.cells cs t (0, 0))) : ∀ i, W.cell? ⟨g, i, none⟩ = cs[i]? := fun i => zad h i
theorem cells_past {W : World} {g : Nat} {t : TypeId} {cs : Array Value} (h : W.heap[g]? = some (.cells cs t (0, 0))) : ∀ (o : Obj) (i : Nat), (W.alloc o).cell? ⟨g, i, none⟩ = cs[i]? := fun o i => zad (zag h o) i
theorem frozen_of {W : World} {g : Nat} {t : TypeId} {cs : Array Value} (h : W.heap[g]? = some (.cells cs t (0, 0))) : ∀ i, W.frozen? ⟨g, i, none⟩ = false := fun i => zab h i
theorem frozen_past {W : World} {g : Nat} {t : TypeId} {cs : Array Value} (h : W.heap[g]? = some (.cells cs t (0, 0))) : ∀ (o : Obj) (i : Nat), (W.alloc o).frozen? ⟨g, i, none⟩ = false := fun o i => zab (zag h o) i
theorem blk_new3 (w : World) (o o2 o3 : Obj) : (((w.alloc o).alloc o2).alloc o3).heap[w.heap.size + 1 + 1]? = some o3 := by
 have h := zaw ((w.alloc o).alloc o2) o3
 rwa [show ((w.alloc o).alloc o2).heap.size = w.heap.size + 1 + 1 from by simp] at h
theorem know {W : World} {g : Nat} {t : TypeId} {cs : Array Value} (h : W.heap[g]? = some (.cells cs t (0, 0))) :
  (∀ i, W.cell? ⟨g, i, none⟩ = cs[i]?) ∧ (∀ (o : Obj) (i : Nat), (W.alloc o).cell? ⟨g, i, none⟩ = cs[i]?) ∧ (∀ i, W.frozen? ⟨g, i, none⟩ = false) ∧ (∀ (o : Obj) (i : Nat), (W.alloc o).frozen? ⟨g, i, none⟩ = false) :=
 ⟨za8 h, cells_past h, frozen_of h, frozen_past h⟩
def Spares (S : Nat → Prop) (w w' : World) : Prop := Below 0 w w' ∧ ∀ i, i < w.heap.size → ¬ S i → w'.heap[i]? = w.heap[i]?
theorem Spares.refl (S : Nat → Prop) (w : World) : Spares S w w := ⟨Below.refl _ _, fun _ _ _ => rfl⟩
theorem Spares.of_below {S : Nat → Prop} {w w' : World} (h : Below w.heap.size w w') : Spares S w w' := ⟨h.mono (Nat.zero_le _), fun i hi _ => h.block i hi⟩
theorem Spares.trans {S : Nat → Prop} {a b c : World} (h : Spares S a b) (k : Spares S b c) : Spares S a c :=
 ⟨h.1.trans k.1, fun i hi hs => (k.2 i (Nat.lt_of_lt_of_le hi h.1.size) hs).trans (h.2 i hi hs)⟩
theorem Spares.step {S : Nat → Prop} {a b c : World} (h : Spares S a b) (k : Below b.heap.size b c) : Spares S a c := h.trans (Spares.of_below k)
theorem Spares.set {S : Nat → Prop} {w w' : World} (h : Spares S w w') {g : Nat} (j : Nat) (hg : S g ∨ w.heap.size ≤ g) (u : Value) : Spares S w (w'.setCell ⟨g, j, none⟩ u) :=
 ⟨h.1.setCell (Nat.zero_le _) u, fun i hi hs => (Below.heap_setCell w' ⟨g, j, none⟩ u i (by rintro rfl; rcases hg with hg | hg; exact hs hg; exact absurd hi (Nat.not_lt.2 hg))).trans (h.2 i hi hs)⟩
theorem Spares.blk {S : Nat → Prop} {w w' : World} {i : Nat} {o : Obj} (h : Spares S w w') (hk : w.heap[i]? = some o) (hi : ¬ S i) : w'.heap[i]? = some o := (h.2 i (zay hk) hi).trans hk
theorem Spares.size {S : Nat → Prop} {w w' : World} (h : Spares S w w') : w.heap.size ≤ w'.heap.size := h.1.size
theorem Spares.below {S : Nat → Prop} {w0 w w' : World} (h0 : Below w0.heap.size w0 w) (h : Spares S w w') (hS : ∀ i, S i → w0.heap.size ≤ i) : Below w0.heap.size w0 w' :=
 ⟨h.1.os.trans h0.os, h.1.tape.trans h0.tape, h.1.output.trans h0.output, Nat.le_trans h0.size h.1.size, fun i hi => (h.2 i (Nat.lt_of_lt_of_le hi h0.size) (fun hs => by have := hS i hs; omega)).trans (h0.block i hi)⟩
theorem below_spares {B : Nat} {w0 w w' : World} (h0 : Below w0.heap.size w0 w) (h : Spares (fun i => i = B) w w') (hB : w0.heap.size ≤ B) : Below w0.heap.size w0 w' := Spares.below h0 h (fun i hi => by omega)
theorem Spares.row {α : Type} {d : Kd α} {e base : Nat} {S : Nat → Prop} {w w' : World} {ok : Nat → Prop} {v : Value} {xs : List α} (h : Spares S w w') (hr : d.R e w base ok v xs) (hok : ∀ k, ok k → k < w.heap.size → ¬ S k) : d.R e w' base ok v xs :=
 Kd.R_step hr (fun k hk hl => h.2 k hl (hok k hk hl))
def bytesPost (e : TypeId) (l : List Int) (b : Bool) (w : World) (en : Ending) (w' : World) : Prop := ∃ v0_ : Value, en = .returned (.tuple #[v0_, .bool b]) ∧ Own8 e w.heap.size w' v0_ l ∧ Below w.heap.size w w'
end Go.Proofs.Ytooemobolfoefaa.P


namespace Go.Proofs.Ytooemobolfoefaa.P
open Go.RowKit Go.Proofs.YtooemobolfoefaaW.PrintWords Go.Proofs.YtooemobolfoefaaW.PrintLast Go.Proofs.YtooemobolfoefaaW.PrintMore
attribute [local go_sem] za1 zaZ zbb zba zaU zaT za0 zaY   -- for this text's walks alone
set_option linter.unusedVariables false
set_option linter.unusedSimpArgs false
def errW : Option Int → Value
 | none => .nilIface
 | some c => .iface 0 (.int .i64 c)
theorem zap : errW none = .nilIface := rfl
theorem zao (c : Int) : errW (some c) = .iface 0 (.int .i64 c) := rfl
theorem info5 : (Try.prog.info? 5).map (fun i => (i.zero, i.size, i.bytes)) = some (some (.int .u8 0), 1, 1) := by kernel_rfl
theorem infoStep : (Try.prog.info? 40).map (fun i => (i.zero, i.size, i.bytes)) = some (some (.agg #[(.string ⟨#[]⟩), (.slice none 0 0), (.int .i64 0), (.int .i64 0), (.bool false), (.string ⟨#[]⟩), (.slice none 0 0)]), 7, 104) := by kernel_rfl
theorem infoSchema : (Try.prog.info? 43).map (fun i => (i.zero, i.size, i.bytes)) = some (some (.agg #[(.string ⟨#[]⟩), (.int .i64 0), (.slice none 0 0)]), 3, 48) := by kernel_rfl
theorem infoField : (Try.prog.info? 67).map (fun i => (i.zero, i.size, i.bytes)) = some (some (.agg #[(.string ⟨#[]⟩), (.int .i64 0)]), 2, 24) := by kernel_rfl
theorem infoValue : (Try.prog.info? 73).map (fun i => (i.zero, i.size, i.bytes)) = some (some (.agg #[(.int .i64 0), (.int .i64 0), (.string ⟨#[]⟩)]), 3, 32) := by kernel_rfl
theorem infoOp : (Try.prog.info? 75).map (fun i => (i.zero, i.size, i.bytes)) = some (some (.agg #[(.int .i64 0), (.int .i64 0), (.int .i64 0), (.int .i64 0), (.string ⟨#[]⟩)]), 5, 48) := by kernel_rfl
structure SValue where
 f0 : Int
 f1 : Int
 f2 : ByteArray
def zaN : SValue := ⟨(0 : Int), (0 : Int), (⟨#[]⟩ : ByteArray)⟩
def kValue : Kd SValue := Kd.iso (Kd.pair (Kd.int .i64) (Kd.pair (Kd.int .i64) Kd.string)) (fun x : SValue => (x.f0, x.f1, x.f2))
theorem kValue_open {w : World} {x : SValue} {cs : List Value} (h : kValue.K w x cs) : cs = [.int .i64 x.f0, .int .i64 x.f1, .string x.f2] := by
 obtain ⟨_, _, rfl, rfl, ⟨_, _, rfl, rfl, rfl⟩⟩ := h
 exact rfl
theorem kValue_mkM (w : World) (base : Nat) (ok : Nat → Prop) (x : SValue)  : kValue.M w base ok x [.int .i64 x.f0, .int .i64 x.f1, .string x.f2] := ⟨[.int .i64 x.f0], [.int .i64 x.f1, .string x.f2], rfl, rfl, ⟨[.int .i64 x.f1], [.string x.f2], rfl, rfl, rfl⟩⟩
def rd_TValue (xs : List SValue) (i : Int) : SValue := xs.getD i.toNat zaN
theorem at_TValue {w : World} {A : Option Addr} {n : Nat} {xs : List SValue} (h : Kd.C kValue w A n xs) (i : Int) (h0 : 0 ≤ i) (h1 : i < n) : ∃ ad , A = some ad ∧ w.cell? (ad.add (i.toNat * 3)) = some (.int .i64 (rd_TValue xs i).f0) ∧ w.cell? ⟨(ad.add (i.toNat * 3)).block, (ad.add (i.toNat * 3)).off + 1, none⟩ = some (.int .i64 (rd_TValue xs i).f1) ∧ w.cell? ⟨(ad.add (i.toNat * 3)).block, (ad.add (i.toNat * 3)).off + 2, none⟩ = some (.string (rd_TValue xs i).f2) := by
 obtain ⟨ad, c, e, _, hK, hc0⟩ := Kd.C_get h zaN i h0 h1
 have hc : ∀ j u, c[j]? = some u → w.cell? (ad.add (i.toNat * 3 + j)) = some u := hc0
 obtain rfl := kValue_open hK
 exact ⟨ad, e, hc 0 _ rfl, by rw [← zaA _ _ 1 (by omega)]; exact hc 1 _ rfl, by rw [← zaA _ _ 2 (by omega)]; exact hc 2 _ rfl⟩
structure SOp where
 f0 : Int
 f1 : Int
 f2 : SValue
def zOp : SOp := ⟨(0 : Int), (0 : Int), zaN⟩
def kOp : Kd SOp := Kd.iso (Kd.pair (Kd.int .i64) (Kd.pair (Kd.int .i64) kValue)) (fun x : SOp => (x.f0, x.f1, x.f2))
theorem kOp_open {w : World} {x : SOp} {cs : List Value} (h : kOp.K w x cs) : cs = [.int .i64 x.f0, .int .i64 x.f1, .int .i64 x.f2.f0, .int .i64 x.f2.f1, .string x.f2.f2] := by
 obtain ⟨_, _, rfl, rfl, ⟨_, _, rfl, rfl, s2⟩⟩ := h
 obtain rfl := kValue_open s2
 exact rfl
theorem kOp_mkM (w : World) (base : Nat) (ok : Nat → Prop) (x : SOp)  : kOp.M w base ok x [.int .i64 x.f0, .int .i64 x.f1, .int .i64 x.f2.f0, .int .i64 x.f2.f1, .string x.f2.f2] := ⟨[.int .i64 x.f0], [.int .i64 x.f1, .int .i64 x.f2.f0, .int .i64 x.f2.f1, .string x.f2.f2], rfl, rfl, ⟨[.int .i64 x.f1], [.int .i64 x.f2.f0, .int .i64 x.f2.f1, .string x.f2.f2], rfl, rfl, (kValue_mkM w base ok x.f2 )⟩⟩
def zaJ (xs : List SOp) (i : Int) : SOp := xs.getD i.toNat zOp
theorem at_TOp {w : World} {A : Option Addr} {n : Nat} {xs : List SOp} (h : Kd.C kOp w A n xs) (i : Int) (h0 : 0 ≤ i) (h1 : i < n) : ∃ ad , A = some ad ∧ w.cell? (ad.add (i.toNat * 5)) = some (.int .i64 (zaJ xs i).f0) ∧ w.cell? ⟨(ad.add (i.toNat * 5)).block, (ad.add (i.toNat * 5)).off + 1, none⟩ = some (.int .i64 (zaJ xs i).f1) ∧ w.cell? ⟨(ad.add (i.toNat * 5)).block, (ad.add (i.toNat * 5)).off + 2, none⟩ = some (.int .i64 (zaJ xs i).f2.f0) ∧ w.cell? ⟨(ad.add (i.toNat * 5)).block, (ad.add (i.toNat * 5)).off + 3, none⟩ = some (.int .i64 (zaJ xs i).f2.f1) ∧ w.cell? ⟨(ad.add (i.toNat * 5)).block, (ad.add (i.toNat * 5)).off + 4, none⟩ = some (.string (zaJ xs i).f2.f2) := by
 obtain ⟨ad, c, e, _, hK, hc0⟩ := Kd.C_get h zOp i h0 h1
 have hc : ∀ j u, c[j]? = some u → w.cell? (ad.add (i.toNat * 5 + j)) = some u := hc0
 obtain rfl := kOp_open hK
 exact ⟨ad, e, hc 0 _ rfl, by rw [← zaA _ _ 1 (by omega)]; exact hc 1 _ rfl, by rw [← zaA _ _ 2 (by omega)]; exact hc 2 _ rfl, by rw [← zaA _ _ 3 (by omega)]; exact hc 3 _ rfl, by rw [← zaA _ _ 4 (by omega)]; exact hc 4 _ rfl⟩
structure SField where
 f0 : ByteArray
 f1 : Int
def zaO : SField := ⟨(⟨#[]⟩ : ByteArray), (0 : Int)⟩
def kField : Kd SField := Kd.iso (Kd.pair Kd.string (Kd.int .i64)) (fun x : SField => (x.f0, x.f1))
theorem kField_open {w : World} {x : SField} {cs : List Value} (h : kField.K w x cs) : cs = [.string x.f0, .int .i64 x.f1] := by
 obtain ⟨_, _, rfl, rfl, rfl⟩ := h
 exact rfl
theorem kField_mkM (w : World) (base : Nat) (ok : Nat → Prop) (x : SField)  : kField.M w base ok x [.string x.f0, .int .i64 x.f1] := ⟨[.string x.f0], [.int .i64 x.f1], rfl, rfl, rfl⟩
def zaz (xs : List SField) (i : Int) : SField := xs.getD i.toNat zaO
theorem zbk {w : World} {A : Option Addr} {n : Nat} {xs : List SField} (h : Kd.C kField w A n xs) (i : Int) (h0 : 0 ≤ i) (h1 : i < n) : ∃ ad , A = some ad ∧ w.cell? (ad.add (i.toNat * 2)) = some (.string (zaz xs i).f0) ∧ w.cell? ⟨(ad.add (i.toNat * 2)).block, (ad.add (i.toNat * 2)).off + 1, none⟩ = some (.int .i64 (zaz xs i).f1) := by
 obtain ⟨ad, c, e, _, hK, hc0⟩ := Kd.C_get h zaO i h0 h1
 have hc : ∀ j u, c[j]? = some u → w.cell? (ad.add (i.toNat * 2 + j)) = some u := hc0
 obtain rfl := kField_open hK
 exact ⟨ad, e, hc 0 _ rfl, by rw [← zaA _ _ 1 (by omega)]; exact hc 1 _ rfl⟩
structure SSchema where
 f0 : ByteArray
 f1 : Int
 f2 : (List SField)
def zau : SSchema := ⟨(⟨#[]⟩ : ByteArray), (0 : Int), ([] : List SField)⟩
def kSchema : Kd SSchema := Kd.iso (Kd.pair Kd.string (Kd.pair (Kd.int .i64) (Kd.slice 67 kField))) (fun x : SSchema => (x.f0, x.f1, x.f2))
theorem kSchema_open {w : World} {x : SSchema} {cs : List Value} (h : kSchema.K w x cs) : ∃ A2 c2, cs = [.string x.f0, .int .i64 x.f1, .slice A2 x.f2.length c2] ∧ x.f2.length ≤ c2 ∧ kField.C w A2 x.f2.length x.f2 := by
 obtain ⟨_, _, rfl, rfl, ⟨_, _, rfl, rfl, ⟨A2, c2, rfl, l2, g2⟩⟩⟩ := h
 exact ⟨A2, c2, rfl, l2, g2⟩
theorem kSchema_openM {w : World} {base : Nat} {ok : Nat → Prop} {x : SSchema} {cs : List Value} (h : kSchema.M w base ok x cs) : ∃ v2, cs = [.string x.f0, .int .i64 x.f1, v2] ∧ kField.R 67 w base ok v2 x.f2 := by
 obtain ⟨_, _, rfl, rfl, ⟨_, _, rfl, rfl, ⟨v2, rfl, g2⟩⟩⟩ := h
 exact ⟨v2, rfl, g2⟩
theorem kSchema_mk (w : World) (x : SSchema) {A2 : Option Addr} {c2 : Nat} (l2 : x.f2.length ≤ c2) (g2 : kField.C w A2 x.f2.length x.f2) : kSchema.K w x [.string x.f0, .int .i64 x.f1, .slice A2 x.f2.length c2] := ⟨[.string x.f0], [.int .i64 x.f1, .slice A2 x.f2.length c2], rfl, rfl, ⟨[.int .i64 x.f1], [.slice A2 x.f2.length c2], rfl, rfl, ⟨A2, c2, rfl, l2, g2⟩⟩⟩
theorem kSchema_mkM (w : World) (base : Nat) (ok : Nat → Prop) (x : SSchema) {v2 : Value} (g2 : kField.R 67 w base ok v2 x.f2) : kSchema.M w base ok x [.string x.f0, .int .i64 x.f1, v2] := ⟨[.string x.f0], [.int .i64 x.f1, v2], rfl, rfl, ⟨[.int .i64 x.f1], [v2], rfl, rfl, ⟨v2, rfl, g2⟩⟩⟩
def zal (xs : List SSchema) (i : Int) : SSchema := xs.getD i.toNat zau
theorem zbl {w : World} {A : Option Addr} {n : Nat} {xs : List SSchema} (h : Kd.C kSchema w A n xs) (i : Int) (h0 : 0 ≤ i) (h1 : i < n) : ∃ ad A2 c2, A = some ad ∧ w.cell? (ad.add (i.toNat * 3)) = some (.string (zal xs i).f0) ∧ w.cell? ⟨(ad.add (i.toNat * 3)).block, (ad.add (i.toNat * 3)).off + 1, none⟩ = some (.int .i64 (zal xs i).f1) ∧ w.cell? ⟨(ad.add (i.toNat * 3)).block, (ad.add (i.toNat * 3)).off + 2, none⟩ = some (.slice A2 (zal xs i).f2.length c2) ∧ (zal xs i).f2.length ≤ c2 ∧ kField.C w A2 (zal xs i).f2.length (zal xs i).f2 := by
 obtain ⟨ad, c, e, _, hK, hc0⟩ := Kd.C_get h zau i h0 h1
 have hc : ∀ j u, c[j]? = some u → w.cell? (ad.add (i.toNat * 3 + j)) = some u := hc0
 obtain ⟨A2, c2, rfl, l2, g2⟩ := kSchema_open hK
 exact ⟨ad, A2, c2, e, hc 0 _ rfl, by rw [← zaA _ _ 1 (by omega)]; exact hc 1 _ rfl, by rw [← zaA _ _ 2 (by omega)]; exact hc 2 _ rfl, l2, g2⟩
structure SStep where
 f0 : ByteArray
 f1 : (List SOp)
 f2 : Int
 f3 : Int
 f4 : Bool
 f5 : ByteArray
 f6 : (List SOp)
def zbm : SStep := ⟨(⟨#[]⟩ : ByteArray), ([] : List SOp), (0 : Int), (0 : Int), false, (⟨#[]⟩ : ByteArray), ([] : List SOp)⟩
def kStep : Kd SStep := Kd.iso (Kd.pair Kd.string (Kd.pair (Kd.slice 75 kOp) (Kd.pair (Kd.int .i64) (Kd.pair (Kd.int .i64) (Kd.pair Kd.bool (Kd.pair Kd.string (Kd.slice 75 kOp))))))) (fun x : SStep => (x.f0, x.f1, x.f2, x.f3, x.f4, x.f5, x.f6))
theorem kStep_open {w : World} {x : SStep} {cs : List Value} (h : kStep.K w x cs) : ∃ A1 c1 A6 c6, cs = [.string x.f0, .slice A1 x.f1.length c1, .int .i64 x.f2, .int .i64 x.f3, .bool x.f4, .string x.f5, .slice A6 x.f6.length c6] ∧ x.f1.length ≤ c1 ∧ kOp.C w A1 x.f1.length x.f1 ∧ x.f6.length ≤ c6 ∧ kOp.C w A6 x.f6.length x.f6 := by
 obtain ⟨_, _, rfl, rfl, ⟨_, _, rfl, ⟨A1, c1, rfl, l1, g1⟩, ⟨_, _, rfl, rfl, ⟨_, _, rfl, rfl, ⟨_, _, rfl, rfl, ⟨_, _, rfl, rfl, ⟨A6, c6, rfl, l6, g6⟩⟩⟩⟩⟩⟩⟩ := h
 exact ⟨A1, c1, A6, c6, rfl, l1, g1, l6, g6⟩
theorem kStep_mkM (w : World) (base : Nat) (ok : Nat → Prop) (x : SStep) {v1 : Value} (g1 : kOp.R 75 w base ok v1 x.f1) {v6 : Value} (g6 : kOp.R 75 w base ok v6 x.f6) : kStep.M w base ok x [.string x.f0, v1, .int .i64 x.f2, .int .i64 x.f3, .bool x.f4, .string x.f5, v6] := ⟨[.string x.f0], [v1, .int .i64 x.f2, .int .i64 x.f3, .bool x.f4, .string x.f5, v6], rfl, rfl, ⟨[v1], [.int .i64 x.f2, .int .i64 x.f3, .bool x.f4, .string x.f5, v6], rfl, ⟨v1, rfl, g1⟩, ⟨[.int .i64 x.f2], [.int .i64 x.f3, .bool x.f4, .string x.f5, v6], rfl, rfl, ⟨[.int .i64 x.f3], [.bool x.f4, .string x.f5, v6], rfl, rfl, ⟨[.bool x.f4], [.string x.f5, v6], rfl, rfl, ⟨[.string x.f5], [v6], rfl, rfl, ⟨v6, rfl, g6⟩⟩⟩⟩⟩⟩⟩
def zam (xs : List SStep) (i : Int) : SStep := xs.getD i.toNat zbm
theorem zbr {w : World} {A : Option Addr} {n : Nat} {xs : List SStep} (h : Kd.C kStep w A n xs) (i : Int) (h0 : 0 ≤ i) (h1 : i < n) : ∃ ad A1 c1 A6 c6, A = some ad ∧ w.cell? (ad.add (i.toNat * 7)) = some (.string (zam xs i).f0) ∧ w.cell? ⟨(ad.add (i.toNat * 7)).block, (ad.add (i.toNat * 7)).off + 1, none⟩ = some (.slice A1 (zam xs i).f1.length c1) ∧ w.cell? ⟨(ad.add (i.toNat * 7)).block, (ad.add (i.toNat * 7)).off + 2, none⟩ = some (.int .i64 (zam xs i).f2) ∧ w.cell? ⟨(ad.add (i.toNat * 7)).block, (ad.add (i.toNat * 7)).off + 3, none⟩ = some (.int .i64 (zam xs i).f3) ∧ w.cell? ⟨(ad.add (i.toNat * 7)).block, (ad.add (i.toNat * 7)).off + 4, none⟩ = some (.bool (zam xs i).f4) ∧ w.cell? ⟨(ad.add (i.toNat * 7)).block, (ad.add (i.toNat * 7)).off + 5, none⟩ = some (.string (zam xs i).f5) ∧ w.cell? ⟨(ad.add (i.toNat * 7)).block, (ad.add (i.toNat * 7)).off + 6, none⟩ = some (.slice A6 (zam xs i).f6.length c6) ∧ (zam xs i).f1.length ≤ c1 ∧ kOp.C w A1 (zam xs i).f1.length (zam xs i).f1 ∧ (zam xs i).f6.length ≤ c6 ∧ kOp.C w A6 (zam xs i).f6.length (zam xs i).f6 := by
 obtain ⟨ad, c, e, _, hK, hc0⟩ := Kd.C_get h zbm i h0 h1
 have hc : ∀ j u, c[j]? = some u → w.cell? (ad.add (i.toNat * 7 + j)) = some u := hc0
 obtain ⟨A1, c1, A6, c6, rfl, l1, g1, l6, g6⟩ := kStep_open hK
 exact ⟨ad, A1, c1, A6, c6, e, hc 0 _ rfl, by rw [← zaA _ _ 1 (by omega)]; exact hc 1 _ rfl, by rw [← zaA _ _ 2 (by omega)]; exact hc 2 _ rfl, by rw [← zaA _ _ 3 (by omega)]; exact hc 3 _ rfl, by rw [← zaA _ _ 4 (by omega)]; exact hc 4 _ rfl, by rw [← zaA _ _ 5 (by omega)]; exact hc 5 _ rfl, by rw [← zaA _ _ 6 (by omega)]; exact hc 6 _ rfl, l1, g1, l6, g6⟩
structure SQuery where
 f0 : (List SStep)
 f1 : Int
 f2 : Int
 f3 : Int
 f4 : Int
def zQuery : SQuery := ⟨([] : List SStep), (0 : Int), (0 : Int), (0 : Int), (0 : Int)⟩
def kQuery : Kd SQuery := Kd.iso (Kd.pair (Kd.slice 40 kStep) (Kd.pair (Kd.int .i64) (Kd.pair (Kd.int .i64) (Kd.pair (Kd.int .i64) (Kd.int .i64))))) (fun x : SQuery => (x.f0, x.f1, x.f2, x.f3, x.f4))
theorem kQuery_open {w : World} {x : SQuery} {cs : List Value} (h : kQuery.K w x cs) : ∃ A0 c0, cs = [.slice A0 x.f0.length c0, .int .i64 x.f1, .int .i64 x.f2, .int .i64 x.f3, .int .i64 x.f4] ∧ x.f0.length ≤ c0 ∧ kStep.C w A0 x.f0.length x.f0 := by
 obtain ⟨_, _, rfl, ⟨A0, c0, rfl, l0, g0⟩, ⟨_, _, rfl, rfl, ⟨_, _, rfl, rfl, ⟨_, _, rfl, rfl, rfl⟩⟩⟩⟩ := h
 exact ⟨A0, c0, rfl, l0, g0⟩
end Go.Proofs.Ytooemobolfoefaa.P


namespace Go.Proofs.Ytooemobolfoefaa.P
open Go.RowKit Go.Proofs.YtooemobolfoefaaW.PrintWords Go.Proofs.YtooemobolfoefaaW.PrintLast Go.Proofs.YtooemobolfoefaaW.PrintMore
def Opens {α : Type} (P : Program) (t : TypeId) (d : Kd α) (wf : α → Prop) : Prop :=
 ∀ {H : Type} (enc : TypeId × Value → H) (W : World) (base : Nat) (spare : Nat → Bool) (held : Bool) (fuel : Nat) (cs : List Value) (x : DataW H × List MemPlace),
  DataW.trod enc P W base spare held fuel t cs = some x → (∀ n ∈ x.1.weights P t, n ≤ reachBytes) → ∃ a, d.K W a cs ∧ wf a
theorem zbj {P : Program} {t : TypeId} {k : IntKind} (hu : P.underlying t = some (.int k)) : Opens P t (Kd.int k) (fun n => (Lit.int k n).wf = true) := by
 intro H enc W base spare held fuel cs x h _
 obtain ⟨n, rfl, _, hw⟩ := DataW.trod_int hu h
 exact ⟨n, rfl, hw⟩
theorem opens_bool {P : Program} {t : TypeId} (hu : P.underlying t = some .bool) : Opens P t Kd.bool (fun _ => True) := by
 intro H enc W base spare held fuel cs x h _
 obtain ⟨b, rfl, _⟩ := DataW.trod_bool hu h
 exact ⟨b, rfl, trivial⟩
theorem opens_string {P : Program} {t : TypeId} (hu : P.underlying t = some .string) : Opens P t Kd.string (fun s => s.size ≤ 140737488351232) := by
 intro H enc W base spare held fuel cs x h hw
 obtain ⟨s, rfl, rfl, _⟩ := DataW.trod_string hu h
 refine ⟨s, rfl, ?_⟩
 have := hw s.data.toList.length (by simp [DataW.weights])
 simpa [reachBytes] using this
theorem weightsAll_mem {H : Type} {P : Program} {e : TypeId} : ∀ (l : List (DataW H)) (d : DataW H), d ∈ l → ∀ n ∈ d.weights P e, n ∈ DataW.weightsAll P e l
 | [], d, h, _, _ => by simp at h
 | a :: l, d, h, n, hn => by
  simp only [DataW.weightsAll, List.mem_append]
  rcases List.mem_cons.1 h with rfl | h
  ·exact .inl hn
  ·exact .inr (weightsAll_mem l d h n hn)
theorem fin_list {α : Type} (n : Nat) (p : Nat → α → Prop) (h : ∀ i, i < n → ∃ a, p i a) : ∃ l : List α, l.length = n ∧ ∀ i a, l[i]? = some a → p i a := by
 induction n with
 | zero => exact ⟨[], rfl, fun i a ha => by simp at ha⟩
 | succ n ih =>
  obtain ⟨l, hl, hp⟩ := ih (fun i hi => h i (by omega))
  obtain ⟨a, ha⟩ := h n (by omega)
  refine ⟨l ++ [a], by simp [hl], fun i b hb => ?_⟩
  by_cases hi : i < n
  ·rw [List.getElem?_append_left (by omega)] at hb
   exact hp i b hb
  ·rw [List.getElem?_append_right (by omega)] at hb
   have : i = n := by
    have := (List.getElem?_eq_some_iff.1 hb).1
    simp at this
    omega
   subst this
   simp [hl] at hb
   exact hb ▸ ha
theorem opens_slice {α : Type} {P : Program} {t e : TypeId} {d : Kd α} {wf : α → Prop} {B : Nat} (ht : P.underlying t = some (.slice e)) (he : Opens P e d wf) (hc : P.cellsOf e = d.sz) (hB : P.bytesOf e = B) :
  Opens P t (Kd.slice e d) (fun l => l.length * B ≤ 140737488351232 ∧ ∀ x ∈ l, wf x) := by
 intro H enc W base spare held fuel cs x h hw
 rcases Go.Deep.open_slice ht h with ⟨rfl, rfl⟩ | ⟨a, len, cap, m, n, D, Pl, rfl, hb, hl, hm, hmm, rfl, hx⟩
 ·exact ⟨[], ⟨none, 0, rfl, Nat.le_refl _, Kd.C_nil _ _⟩, by simp, by simp⟩
 ·simp only [DataW.weights, ht] at hw
  have hle : len ≤ m := by rw [hmm]; split <;> omega
  have hlen : len * B ≤ 140737488351232 := by
   have := hw _ (List.mem_cons_self ..)
   rw [hB] at this
   simp only [List.length_map, List.length_range] at this
   exact Nat.le_trans (Nat.mul_le_mul_right _ (by omega)) this
  obtain ⟨l, hl1, hl2⟩ := fin_list len (fun i a' => ∃ c, c.length = d.sz ∧ (d.K W a' c ∧ wf a') ∧ ∀ j u, c[j]? = some u → W.cell? (a.add (i * d.sz + j)) = some u) (fun i hi => by
   obtain ⟨cs', h1, h2⟩ := hx i (by omega)
   obtain ⟨_, h4, h5⟩ := World.cells?_some h1
   obtain ⟨y, hy⟩ := he enc W base spare held n cs' _ h2 (fun q hq => hw q (List.mem_cons_of_mem _ (List.mem_append_left _ (weightsAll_mem _ _ (List.mem_map.2 ⟨i, List.mem_range.2 hi, rfl⟩) q hq))))
   rw [hc] at h4 h5
   refine ⟨y, cs', h4, hy, fun j u hu => ?_⟩
   have hj : j < d.sz := by rw [← h4]; exact (List.getElem?_eq_some_iff.1 hu).1
   rw [← addr_add, h5 j hj]
   exact hu)
  refine ⟨l, ⟨some a, cap, by rw [hl1], by omega, ?_⟩, by rw [hl1]; exact hlen, fun x hx => ?_⟩
  ·rw [hl1]
   refine ⟨hl1, by unfold maxLen at hm; omega, fun _ => ⟨a, rfl, fun j p hp => ?_⟩⟩
   obtain ⟨c, h1, h2, h3⟩ := hl2 j p hp
   exact ⟨c, h1, h2.1, h3⟩
  ·obtain ⟨i, hi⟩ := List.mem_iff_getElem?.1 hx
   obtain ⟨c, _, h2, _⟩ := hl2 i x hi
   exact h2.2
def OpensF {α : Type} (P : Program) (fs : List Field) (o : Nat) (d : Kd α) (wf : α → Prop) : Prop :=
 ∀ {H : Type} (enc : TypeId × Value → H) (W : World) (base : Nat) (spare : Nat → Bool) (held : Bool) (fuel : Nat) (cs : List Value) (xs : List (DataW H × List MemPlace)),
  xs.length = fs.length → (∀ (i : Nat) (f : Field), fs[i]? = some f → ∃ y, xs[i]? = some y ∧ DataW.trod enc P W base spare held fuel f.type ((cs.drop f.offset).take (P.cellsOf f.type)) = some y) →
  (∀ n ∈ DataW.weightsEach P (fs.map fun f : Field => f.type) (xs.map (·.1)), n ≤ reachBytes) → ∃ a, d.K W a ((cs.drop o).take d.sz) ∧ wf a
theorem opens_one {α : Type} {P : Program} {f : Field} {d : Kd α} {wf : α → Prop} {o : Nat} (h : Opens P f.type d wf) (ho : f.offset = o) (hs : P.cellsOf f.type = d.sz) : OpensF P [f] o d wf := by
 intro H enc W base spare held fuel cs xs hl hx hw
 obtain ⟨y, h1, h2⟩ := hx 0 f rfl
 rw [ho, hs] at h2
 match xs, hl with
 | [z], _ =>
  simp at h1
  subst h1
  exact h enc W base spare held fuel _ _ h2 (fun n hn => hw n (by simp [DataW.weightsEach, hn]))
theorem zaS {α β : Type} {P : Program} {f : Field} {fs : List Field} {d : Kd α} {d' : Kd β} {wf : α → Prop} {wf' : β → Prop} {o : Nat} (h : Opens P f.type d wf) (h' : OpensF P fs (o + d.sz) d' wf') (ho : f.offset = o) (hs : P.cellsOf f.type = d.sz) :
  OpensF P (f :: fs) o (Kd.pair d d') (fun x => wf x.1 ∧ wf' x.2) := by
 intro H enc W base spare held fuel cs xs hl hx hw
 match xs, hl with
 | z :: zs, hl =>
  obtain ⟨y, h1, h2⟩ := hx 0 f rfl
  rw [ho, hs] at h2
  simp at h1
  subst h1
  simp only [List.map_cons, DataW.weightsEach, List.mem_append] at hw
  obtain ⟨a, ha, wa⟩ := h enc W base spare held fuel _ _ h2 (fun n hn => hw n (.inl hn))
  obtain ⟨b, hb, wb⟩ := h' enc W base spare held fuel cs zs (by simpa using hl) (fun i g hg => by simpa using hx (i + 1) g (by simpa using hg)) (fun n hn => hw n (.inr hn))
  refine ⟨(a, b), ⟨_, _, ?_, ha, hb⟩, wa, wb⟩
  show (cs.drop o).take (d.sz + d'.sz) = _
  rw [List.take_add, List.drop_drop]
theorem zbt {α β : Type} {P : Program} {t : TypeId} {fs : Array Field} {d : Kd β} {wf : β → Prop} {wf' : α → Prop} (f : α → β) (g : β → α) (ht : P.underlying t = some (.struct fs)) (h : OpensF P fs.toList 0 d wf) (hs : P.cellsOf t = d.sz) (hg : ∀ b, f (g b) = b) (hw : ∀ b, wf b → wf' (g b)) :
  Opens P t (Kd.iso d f) wf' := by
 intro H enc W base spare held fuel cs x hx hwt
 obtain ⟨xs, n, rfl, rfl, h1, h2, h3⟩ := DataW.trod_struct ht hx
 obtain ⟨b, hb, wb⟩ := h enc W base spare held n cs xs (by simpa using h2) (fun i f hf => by
  have hf' : fs[i]? = some f := by simpa using hf
  have hi : i < xs.length := by rw [h2]; exact (Array.getElem?_eq_some_iff.1 hf').1
  exact ⟨xs[i], List.getElem?_eq_getElem hi, (h3 i f hf').trans (List.getElem?_eq_getElem hi)⟩) (fun n hn => hwt n (by simpa [DataW.weights, ht] using hn))
 refine ⟨g b, ?_, hw b wb⟩
 show d.K W (f (g b)) cs
 rw [hg]
 have : (cs.drop 0).take d.sz = cs := by rw [List.drop_zero, List.take_of_length_le (by rw [h1, hs]; exact Nat.le_refl _)]
 rw [← this]
 exact hb
end Go.Proofs.Ytooemobolfoefaa.P


namespace Go.Proofs.Ytooemobolfoefaa.P
open Go.RowKit Go.Proofs.YtooemobolfoefaaW.PrintWords Go.Proofs.YtooemobolfoefaaW.PrintLast Go.Proofs.YtooemobolfoefaaW.PrintMore
attribute [local go_sem] za1 zaZ zbb zba zaU zaT za0 zaY   -- for this text's walks alone
set_option linter.unusedVariables false
set_option linter.unusedSimpArgs false
def wfValue (x_ : SValue) : Prop := ((Lit.int .i64 x_.f0).wf = true) ∧ ((Lit.int .i64 x_.f1).wf = true) ∧ (x_.f2.size ≤ 140737488351232)
theorem openValue : Opens Try.prog 73 kValue wfValue := zbt (fun x_ : SValue => (x_.f0, x_.f1, x_.f2)) (fun b_ => ⟨b_.1, b_.2.1, b_.2.2⟩) Try.underlying73 (zaS (zbj Try.underlying3) (zaS (zbj Try.underlying3) (opens_one (opens_string Try.underlying9) rfl (by kernel_rfl)) rfl (by kernel_rfl)) rfl (by kernel_rfl)) (by kernel_rfl) (fun _ => rfl) (fun _ h_ => h_)
def wfOp (x_ : SOp) : Prop := ((Lit.int .i64 x_.f0).wf = true) ∧ ((Lit.int .i64 x_.f1).wf = true) ∧ (wfValue x_.f2)
theorem openOp : Opens Try.prog 75 kOp wfOp := zbt (fun x_ : SOp => (x_.f0, x_.f1, x_.f2)) (fun b_ => ⟨b_.1, b_.2.1, b_.2.2⟩) Try.underlying75 (zaS (zbj Try.underlying3) (zaS (zbj Try.underlying3) (opens_one openValue rfl (by kernel_rfl)) rfl (by kernel_rfl)) rfl (by kernel_rfl)) (by kernel_rfl) (fun _ => rfl) (fun _ h_ => h_)
def wfStep (x_ : SStep) : Prop := (x_.f0.size ≤ 140737488351232) ∧ (x_.f1.length * 48 ≤ 140737488351232 ∧ ∀ y_ ∈ x_.f1, wfOp y_) ∧ ((Lit.int .i64 x_.f2).wf = true) ∧ ((Lit.int .i64 x_.f3).wf = true) ∧ (True) ∧ (x_.f5.size ≤ 140737488351232) ∧ (x_.f6.length * 48 ≤ 140737488351232 ∧ ∀ y_ ∈ x_.f6, wfOp y_)
theorem openStep : Opens Try.prog 40 kStep wfStep := zbt (fun x_ : SStep => (x_.f0, x_.f1, x_.f2, x_.f3, x_.f4, x_.f5, x_.f6)) (fun b_ => ⟨b_.1, b_.2.1, b_.2.2.1, b_.2.2.2.1, b_.2.2.2.2.1, b_.2.2.2.2.2.1, b_.2.2.2.2.2.2⟩) Try.underlying40 (zaS (opens_string Try.underlying9) (zaS (opens_slice Try.underlying38 openOp (by kernel_rfl) (by kernel_rfl)) (zaS (zbj Try.underlying3) (zaS (zbj Try.underlying3) (zaS (opens_bool Try.underlying4) (zaS (opens_string Try.underlying9) (opens_one (opens_slice Try.underlying38 openOp (by kernel_rfl) (by kernel_rfl)) rfl (by kernel_rfl)) rfl (by kernel_rfl)) rfl (by kernel_rfl)) rfl (by kernel_rfl)) rfl (by kernel_rfl)) rfl (by kernel_rfl)) rfl (by kernel_rfl)) (by kernel_rfl) (fun _ => rfl) (fun _ h_ => h_)
def wfQuery (x_ : SQuery) : Prop := (x_.f0.length * 104 ≤ 140737488351232 ∧ ∀ y_ ∈ x_.f0, wfStep y_) ∧ ((Lit.int .i64 x_.f1).wf = true) ∧ ((Lit.int .i64 x_.f2).wf = true) ∧ ((Lit.int .i64 x_.f3).wf = true) ∧ ((Lit.int .i64 x_.f4).wf = true)
theorem openQuery : Opens Try.prog 24 kQuery wfQuery := zbt (fun x_ : SQuery => (x_.f0, x_.f1, x_.f2, x_.f3, x_.f4)) (fun b_ => ⟨b_.1, b_.2.1, b_.2.2.1, b_.2.2.2.1, b_.2.2.2.2⟩) Try.underlying24 (zaS (opens_slice Try.underlying22 openStep (by kernel_rfl) (by kernel_rfl)) (zaS (zbj Try.underlying3) (zaS (zbj Try.underlying3) (zaS (zbj Try.underlying3) (opens_one (zbj Try.underlying3) rfl (by kernel_rfl)) rfl (by kernel_rfl)) rfl (by kernel_rfl)) rfl (by kernel_rfl)) rfl (by kernel_rfl)) (by kernel_rfl) (fun _ => rfl) (fun _ h_ => h_)
def wfField (x_ : SField) : Prop := (x_.f0.size ≤ 140737488351232) ∧ ((Lit.int .i64 x_.f1).wf = true)
theorem openField : Opens Try.prog 67 kField wfField := zbt (fun x_ : SField => (x_.f0, x_.f1)) (fun b_ => ⟨b_.1, b_.2⟩) Try.underlying67 (zaS (opens_string Try.underlying9) (opens_one (zbj Try.underlying3) rfl (by kernel_rfl)) rfl (by kernel_rfl)) (by kernel_rfl) (fun _ => rfl) (fun _ h_ => h_)
def zaR (x_ : SSchema) : Prop := (x_.f0.size ≤ 140737488351232) ∧ ((Lit.int .i64 x_.f1).wf = true) ∧ (x_.f2.length * 24 ≤ 140737488351232 ∧ ∀ y_ ∈ x_.f2, wfField y_)
theorem openSchema : Opens Try.prog 43 kSchema zaR := zbt (fun x_ : SSchema => (x_.f0, x_.f1, x_.f2)) (fun b_ => ⟨b_.1, b_.2.1, b_.2.2⟩) Try.underlying43 (zaS (opens_string Try.underlying9) (zaS (zbj Try.underlying3) (opens_one (opens_slice Try.underlying41 openField (by kernel_rfl) (by kernel_rfl)) rfl (by kernel_rfl)) rfl (by kernel_rfl)) rfl (by kernel_rfl)) (by kernel_rfl) (fun _ => rfl) (fun _ h_ => h_)
def eqField (x y : SField) : Bool := x.f0.toList == y.f0.toList && x.f1 == y.f1
def eqSchema (x y : SSchema) : Bool := decide (x.f0.toList = y.f0.toList) && (decide (x.f1 = y.f1) && eqf eqField zaO x.f2 y.f2)
def fieldOK (F : List SField) (i : Nat) : Bool := !((F.take i).any (fun x => x.f0.toList == (F.getD i zaO).f0.toList)) && (nameB (F.getD i zaO).f0 && (decide (0 ≤ (F.getD i zaO).f1) && decide ((F.getD i zaO).f1 < 4)))
def mayB (nm : ByteArray) (ver : Int) (F : List SField) : Bool := nameB nm && (decide (1 ≤ ver) && (decide (ver ≤ 1000) && (decide (F.length ≤ 6) && (List.range F.length).all (fieldOK F))))
def mayS (x : SSchema) : Bool := mayB x.f0 x.f1 x.f2
def schema_Name.f (a0 : ByteArray) : Option Bool := some (nameB a0)
def nameRel (s : ByteArray) (w : World) (pos : Nat) (w' : World) : Prop := pos ≤ s.size ∧ (∀ i, i < pos → nameCh i (bt s (i : Int)) = true) ∧ w' = w.iter s pos
theorem name_hit (s : ByteArray) (k : Nat) (hk : k < s.size) (h : nameCh k (bt s (k : Int)) = false) : nameB s = false := by
 unfold nameB
 rw [Bool.and_eq_false_iff]
 left
 rw [List.all_eq_false]
 exact ⟨k, List.mem_range.2 hk, by rw [h]; simp⟩
theorem nameCh_ok {i : Nat} {c : Int} (h : (97 ≤ c ∧ c ≤ 122) ∨ (0 < i ∧ (c = 95 ∨ (48 ≤ c ∧ c ≤ 57)))) : nameCh i c = true := by
 unfold nameCh
 rcases h with ⟨h1, h2⟩ | ⟨h1, h2 | ⟨h2, h3⟩⟩
 ·simp [h1, h2]
 ·simp [h1, h2]
 ·simp [h1, h2, h3]
theorem nameCh_no {i : Nat} {c : Int} (h : ¬ ((97 ≤ c ∧ c ≤ 122) ∨ (0 < i ∧ (c = 95 ∨ (48 ≤ c ∧ c ≤ 57))))) : nameCh i c = false := by
 rw [← Bool.not_eq_true]
 intro hc
 apply h
 unfold nameCh at hc
 simp only [Bool.or_eq_true, Bool.and_eq_true, decide_eq_true_eq, beq_iff_eq] at hc
 exact hc
theorem name_next {s : ByteArray} {pos : Nat} {c : Nat} (hs : Aside0 (∀ i : Nat, i < pos → nameCh i (bt s (i : Int)) = true)) (hc : Aside0 (bt s (pos : Int) = (c : Int))) (h : (97 ≤ (c : Int) ∧ (c : Int) ≤ 122) ∨ (0 < pos ∧ ((c : Int) = 95 ∨ (48 ≤ (c : Int) ∧ (c : Int) ≤ 57)))) : ∀ i : Nat, i < pos + 1 → nameCh i (bt s (i : Int)) = true := by
 intro i hi
 by_cases h2 : i < pos
 ·exact hs.out i h2
 ·obtain rfl : i = pos := by omega
  rw [hc.out]
  exact nameCh_ok h
theorem name_fall {s : ByteArray} {pos : Nat} {c : Nat} (hp : pos < s.size) (hc : Aside0 (bt s (pos : Int) = (c : Int))) (h : ¬ ((97 ≤ (c : Int) ∧ (c : Int) ≤ 122) ∨ (0 < pos ∧ ((c : Int) = 95 ∨ (48 ≤ (c : Int) ∧ (c : Int) ≤ 57))))) : nameB s = false := name_hit s pos hp (by rw [hc.out]; exact nameCh_no h)
theorem name_all (s : ByteArray) (h : ∀ i, i < s.size → nameCh i (bt s (i : Int)) = true) : nameB s = (decide (s.size ≠ 0) && decide (s.size ≤ 12)) := by
 unfold nameB
 rw [show ((List.range s.size).all fun i => nameCh i (bt s (i : Int))) = true from List.all_eq_true.2 fun i hi => h i (List.mem_range.1 hi)]
 rfl
set_option maxHeartbeats 1000000 in
set_option maxRecDepth 100000 in
theorem schema_Name.calls (a0 : ByteArray) (r : Bool) (w : World) (h : schema_Name.f a0 = some r) :
  Calls Try.prog 50 #[.string a0] w fun e w' => e = .returned (.bool r) ∧ Below w.heap.size w w' := by
 obtain rfl := Option.some.inj h
 clear h
 show Calls _ _ _ _ (za2 (nameB a0) w)
 go_enter Try.func50, Try.ntmps50
 go_wp2
 go_loopw [3, 4] (fun v3 v4 w' => ∃ pos : Nat, nameRel a0 w pos w') (fun _ _ w' => a0.size - w'.iterPos w.heap.size)
 case atStart => exact ⟨0, Nat.zero_le _, fun i hi => by omega, rfl⟩
 case round =>
  obtain ⟨pos, hp, hall, rfl⟩ := hrel
  have HALL := Aside0.mk hall
  clear hall
  by_cases hlt : pos < a0.size
  ·by_cases ha : (a0[pos]'hlt).toNat < 128
   ·have hnx : ∀ ty, (Instr.next (.pointer (some ⟨w.heap.size, 0, none⟩)) true ty).run Try.prog (w.iter a0 pos) = _ := fun ty => run_next_ascii w a0 pos ty hlt ha
    have HE : Aside0 (bt a0 (pos : Int) = (((a0[pos]'hlt).toNat : Nat) : Int)) := ⟨by simp [bt, hlt]⟩
    generalize (a0[pos]'hlt).toNat = c at *
    go_wp2
    all_goals first
     | (refine ⟨⟨pos + 1, ?_⟩, ?_⟩; (exact ⟨by omega, name_next HALL HE (by first | omega | (simp only [beq_iff_eq, beq_eq_false_iff_ne, ne_eq] at *; omega)), rfl⟩); (simp; omega))
     | (go_ret; rw [name_fall hlt HE (by first | omega | (simp only [beq_iff_eq, beq_eq_false_iff_ne, ne_eq] at *; omega))]; exact ⟨rfl, (Below.refl _ _).alloc (Nat.le_refl _) _⟩)
   ·have hnx : ∀ ty, (Instr.next (.pointer (some ⟨w.heap.size, 0, none⟩)) true ty).run Try.prog (w.iter a0 pos) = _ := fun ty => run_next_any w a0 pos ty hlt
    have hd := (decode_high a0 pos hlt (by omega)).1
    have HE : Aside0 (bt a0 (pos : Int) = (((a0[pos]'hlt).toNat : Nat) : Int)) := ⟨by simp [bt, hlt]⟩
    have hf : nameB a0 = false := name_fall hlt HE (by omega)
    clear HE
    generalize (Utf8.decode a0 pos).1 = c at *
    generalize (Utf8.decode a0 pos).2 = wd at *
    go_wp2
    all_goals first
     | (exfalso; first | omega | (simp only [beq_iff_eq, beq_eq_false_iff_ne, ne_eq] at *; omega))
     | (go_ret; rw [hf]; exact ⟨rfl, (Below.refl _ _).alloc (Nat.le_refl _) _⟩)
  ·have hnx : ∀ ty, (Instr.next (.pointer (some ⟨w.heap.size, 0, none⟩)) true ty).run Try.prog (w.iter a0 pos) = _ := fun ty => run_next_end w a0 pos ty hlt
   have hn := name_all a0 (fun i hi => HALL.out i (by omega))
   by_cases hz : a0.size = 0
   ·have HN : nameB a0 = false := by rw [hn]; simp [hz]
    have he : a0.toList = [] := List.eq_nil_of_length_eq_zero (by rw [ByteArray.toList_eq, data_length]; exact hz)
    clear hn
    go_wp2
    all_goals (go_ret; rw [HN]; exact ⟨by simp [he], (Below.refl _ _).alloc (Nat.le_refl _) _⟩)
   ·have HN : nameB a0 = decide (a0.size ≤ 12) := by rw [hn]; simp [hz]
    have he : a0.toList.isEmpty = false := List.isEmpty_eq_false_iff.mpr fun h => hz (by rw [← data_length, ← ByteArray.toList_eq, h]; rfl)
    have hs : decide ((a0.size : Int) ≤ 12) = decide (a0.size ≤ 12) := decide_eq_decide.2 (by omega)
    clear hn
    go_wp2
    all_goals (go_ret; rw [HN]; exact ⟨by simp [he, hs], (Below.refl _ _).alloc (Nat.le_refl _) _⟩)
set_option maxHeartbeats 400000 in
theorem slices_IndexFunc_api_Field.toldw (g : Nat) (caps : Array Value) (p : SField → Bool) (wf : SField → Prop) (A0 : Option Addr) (cp : Nat) (l0 : List SField) (w : World) (eg : ∀ args w, (callFunc g args).run Try.prog w = .ok (.enter g args) w) (hp : TellsW Try.prog kField g caps p wf w) (hwf : ∀ x ∈ l0, wf x) (hr0 : Kd.C kField w A0 l0.length l0) (hc0 : l0.length ≤ cp) :
  Calls Try.prog 64 #[.slice A0 l0.length cp, .func (.func g) #[] caps] w (idxPost p l0 w) := by
 have HR0 := Aside0.mk hr0
 have HC0 := Aside0.mk hc0
 have HP := Aside0.mk hp
 have HWF := Aside0.mk hwf
 have hm := hr0.2.1
 clear hr0 hc0 hp hwf
 go_enter Try.func64, Try.ntmps64
 go_wp2
 go_loopw [4, 5, 8] (fun v4 v5 v8 w' => ∃ k : Nat, v8 = .int .i64 k ∧ idxRel p l0 zaO w k w') (fun _ _ i _ => l0.length - (intOf i).toNat)
 case atStart => exact ⟨0, rfl, Nat.zero_le _, fun i hi => by omega, Below.refl _ _⟩
 case round =>
  obtain ⟨k, rfl, HK⟩ := hrel
  have HK := Aside0.mk HK
  by_cases hlt : k < l0.length
  ·obtain ⟨ad, cs, e, hl, hK, hcell⟩ := Kd.C_get (Kd.C_below HR0.out HK.out.2.2) zaO (k : Int) (by omega) (by omega)
   cases e
   simp only [Int.toNat_natCast] at hK hcell
   obtain ⟨c0, c1, rfl⟩ := cells2 cs hl
   have hx0 : wr.cell? (ad.add (k * 2)) = some c0 := hcell 0 _ rfl
   have hx1 : wr.cell? ⟨(ad.add (k * 2)).block, (ad.add (k * 2)).off + 1, none⟩ = some c1 := by rw [← zaA _ _ 1 (by omega)]; exact hcell 1 _ rfl
   have hcall := HP.out (l0.getD k zaO) _ wr (HWF.out _ (getD_in _ hlt)) HK.out.2.2 hK
   clear hcell hK hl
   cases hp : p (l0.getD k zaO) with
   | true =>
    rw [hp] at hcall
    have HQ := Aside0.mk hp; clear hp
    go_wp2_with (go_at_fn g; refine hcall.mono ?_; rintro e w1 ⟨rfl, hb1⟩)
    go_ret
    exact ⟨by rw [idx_skip p zaO l0 k HK.out.2.1 hlt HQ.out]; rfl, zah HK.out.2.2 hb1⟩
   | false =>
    rw [hp] at hcall
    have HQ := Aside0.mk hp; clear hp
    go_wp2_with (go_at_fn g; refine hcall.mono ?_; rintro e w1 ⟨rfl, hb1⟩)
    go_roundw
    case rel => exact ⟨k + 1, by go_num, by omega, fun i hi => by rcases Nat.lt_succ_iff_lt_or_eq.1 hi with h | rfl; exact HK.out.2.1 i h; exact HQ.out, zah HK.out.2.2 hb1⟩
    case measure => simp [intOf]; omega
  ·go_wp2
   go_ret
   exact ⟨by rw [idx_none p zaO l0 (fun i hi => HK.out.2.1 i (by omega))]; rfl, HK.out.2.2⟩
set_option maxHeartbeats 400000 in
theorem slices_ContainsFunc_api_Field.toldw (g : Nat) (caps : Array Value) (p : SField → Bool) (wf : SField → Prop) (A0 : Option Addr) (cp : Nat) (l0 : List SField) (w : World) (eg : ∀ args w, (callFunc g args).run Try.prog w = .ok (.enter g args) w) (hp : TellsW Try.prog kField g caps p wf w) (hwf : ∀ x ∈ l0, wf x) (hr0 : Kd.C kField w A0 l0.length l0) (hc0 : l0.length ≤ cp) :
  Calls Try.prog 51 #[.slice A0 l0.length cp, .func (.func g) #[] caps] w (za2 (l0.any p) w) := by
 obtain ⟨ha, hn⟩ := idx_any p l0
 have HA := Aside0.mk ha
 have HC := Aside0.mk (slices_IndexFunc_api_Field.toldw g caps p wf A0 cp l0 w eg hp hwf hr0 hc0)
 clear ha hn eg hp hwf hr0
 go_enter Try.func51, Try.ntmps51
 go_wp2_with (go_at_call 64; refine HC.out.mono ?_; rintro e w1 ⟨rfl, hb1⟩)
 go_ret
 exact ⟨by rw [← HA.out]; rfl, hb1⟩
theorem slices_ContainsFunc_api_Field.told (g : Nat) (caps : Array Value) (p : SField → Bool) (A0 : Option Addr) (cp : Nat) (l0 : List SField) (w : World) (eg : ∀ args w, (callFunc g args).run Try.prog w = .ok (.enter g args) w) (hp : Tells Try.prog kField g caps p w) (hr0 : Kd.C kField w A0 l0.length l0) (hc0 : l0.length ≤ cp) :
  Calls Try.prog 51 #[.slice A0 l0.length cp, .func (.func g) #[] caps] w (za2 (l0.any p) w) :=
 slices_ContainsFunc_api_Field.toldw g caps p (fun _ => True) A0 cp l0 w eg (fun x cs W _ => hp x cs W) (fun _ _ => trivial) hr0 hc0
theorem may1_told (nm : ByteArray) (B : Nat) (w : World) (hB : B < w.heap.size) (hc : w.cell? ⟨B, 0, none⟩ = some (.string nm)) :
  Tells Try.prog kField 52 #[.pointer (some ⟨B, 0, none⟩)] (fun x : SField => x.f0.toList == nm.toList) w := by
 intro x cs W hW hK
 obtain rfl := kField_open hK
 have hc2 : W.cell? ⟨B, 0, none⟩ = some (.string nm) := (hW.cell (p := ⟨B, 0, none⟩) hB).trans hc
 have hB2 : B < W.heap.size := Nat.lt_of_lt_of_le hB hW.size
 clear hc hW hK hB
 show Calls _ _ #[.agg #[.string x.f0, .int .i64 x.f1], .pointer (some ⟨B, 0, none⟩)] W (za2 (x.f0.toList == nm.toList) W)
 go_enter Try.func52, Try.ntmps52
 go_wp2
 go_ret
 exact ⟨rfl, (Below.refl _ _).alloc (Nat.le_refl _) _⟩
theorem name_told {s : ByteArray} {b : Bool} (h : nameB s = b) (W : World) : Calls Try.prog 50 #[.string s] W (za2 b W) := schema_Name.calls s b W (by rw [← h]; rfl)
def schema_May.f (a0_0 : ByteArray) (a0_1 : Int) (l0_2 : List SField) : Option Bool := some (mayB a0_0 a0_1 l0_2)
theorem may_twice (nm : ByteArray) (B k : Nat) (ad : Addr) (c : Nat) (l : List SField) (W : World) (hB : B < W.heap.size) (hc : W.cell? ⟨B, 0, none⟩ = some (.string nm)) (hr : Kd.C kField W (some ad) l.length l) (hk : k ≤ l.length) (hlc : l.length ≤ c) :
  Calls Try.prog 51 #[.slice (some ad) k c, .func (.func 52) #[] #[.pointer (some ⟨B, 0, none⟩)]] W (za2 ((l.take k).any fun x : SField => x.f0.toList == nm.toList) W) := by
 have h := slices_ContainsFunc_api_Field.told 52 #[.pointer (some ⟨B, 0, none⟩)] (fun x : SField => x.f0.toList == nm.toList) (some ad) c (l.take k) W (enters_of Try.func52 (by kernel_rfl) rfl) (may1_told nm B W hB hc) (Kd.C_take hr hk) (by rw [List.length_take]; omega)
 rwa [List.length_take, Nat.min_eq_left hk] at h
theorem may_hit {nm : ByteArray} {ver : Int} {F : List SField} (k : Nat) (hk : k < F.length) (h : fieldOK F k = false) : mayB nm ver F = false := by
 unfold mayB
 rw [range_all_hit _ _ k hk h]
 simp
theorem may_all {nm : ByteArray} {ver : Int} {F : List SField} (h : ∀ i, i < F.length → fieldOK F i = true) : mayB nm ver F = (nameB nm && (decide (1 ≤ ver) && (decide (ver ≤ 1000) && decide (F.length ≤ 6)))) := by
 unfold mayB
 rw [range_all_none _ _ h, Bool.and_true]
theorem nameB_size {s : ByteArray} (h : nameB s = true) : s.size ≠ 0 ∧ s.size ≤ 12 := by
 unfold nameB at h
 simp only [Bool.and_eq_true, decide_eq_true_eq] at h
 exact ⟨h.2.1, h.2.2⟩
theorem fieldOK_parts {F : List SField} {i : Nat} (h : fieldOK F i = true) : nameB (F.getD i zaO).f0 = true ∧ 0 ≤ (F.getD i zaO).f1 ∧ (F.getD i zaO).f1 < 4 := by
 unfold fieldOK at h
 simp only [Bool.and_eq_true, decide_eq_true_eq] at h
 exact ⟨h.2.1, h.2.2.1, h.2.2.2⟩
def mayRel (nm : ByteArray) (ver : Int) (A : Option Addr) (c : Nat) (F : List SField) (w : World) (k : Nat) (w' : World) : Prop :=
 k ≤ F.length ∧ (∀ i, i < k → fieldOK F i = true) ∧ Below w.heap.size w w' ∧ w'.heap[w.heap.size]? = some (.cells #[.string nm, .int .i64 ver, .slice A F.length c] 43 (0, 0))
set_option maxHeartbeats 2000000 in
set_option maxRecDepth 20000 in
theorem schema_May.calls (a0_0 : ByteArray) (a0_1 : Int) (A0_2 : Option Addr) (c0_2 : Nat) (l0_2 : List SField) (r : Bool) (w : World) (hr0_2 : Kd.C kField w A0_2 l0_2.length l0_2) (hc0_2 : l0_2.length ≤ c0_2) (h : schema_May.f a0_0 a0_1 l0_2 = some r) :
  Calls Try.prog 33 #[.agg #[.string a0_0, .int .i64 a0_1, .slice A0_2 l0_2.length c0_2]] w fun e w' => e = .returned (.bool r) ∧ Below w.heap.size w w' := by
 obtain rfl := Option.some.inj h
 clear h
 have hm := hr0_2.2.1
 show Calls _ _ _ _ (za2 (mayB a0_0 a0_1 l0_2) w)
 have HR := Aside0.mk hr0_2
 have HC := Aside0.mk hc0_2
 clear hr0_2 hc0_2
 obtain ⟨q, hq⟩ : ∃ q, mayB a0_0 a0_1 l0_2 = q := ⟨_, rfl⟩
 have HQ := Aside0.mk hq
 rw [hq]
 unfold mayB at hq
 cases hn : nameB a0_0 with
 | false =>
  rw [hn, Bool.false_and] at hq
  have HN := Aside0.mk hn
  subst hq
  clear hn
  go_enter Try.func33, Try.ntmps33
  go_wp2_with (go_at_call 50; refine (name_told HN.out _).mono ?_; rintro e w1 ⟨rfl, hb1⟩)
  go_ret
  exact ⟨rfl, zah ((Below.refl _ _).alloc (Nat.le_refl _) _) hb1⟩
 | true =>
  rw [hn, Bool.true_and] at hq
  have HN := Aside0.mk hn
  have HQ2 := Aside0.mk hq
  clear hn hq
  go_enter Try.func33, Try.ntmps33
  go_wp2_with (go_at_call 50; refine (name_told HN.out _).mono ?_; rintro e w1 ⟨rfl, hb1⟩; have hk1 := zak (zaw _ _) hb1; have hS1 : w.heap.size < w1.heap.size := by { have h_ := hb1.size; rw [World.size_alloc] at h_; omega }; have hd1 : w1.cell? ⟨w.heap.size, 1, none⟩ = some (.int .i64 a0_1) := (zad hk1 1).trans rfl; have hd2 : w1.cell? ⟨w.heap.size, 2, none⟩ = some (.slice A0_2 l0_2.length c0_2) := (zad hk1 2).trans rfl; have HK1 := Aside0.mk hk1; clear hk1)
  any_goals (go_ret; exact ⟨by rw [show q = false from by rw [← HQ2.out]; simp only [Bool.and_eq_false_iff, decide_eq_false_iff_not]; omega]; rfl, zah ((Below.refl _ _).alloc (Nat.le_refl _) _) hb1⟩)
  go_loopw [3, 4, 5, 29] (fun _ _ _ v29 w' => ∃ k : Nat, v29 = .int .i64 k ∧ mayRel a0_0 a0_1 A0_2 c0_2 l0_2 w k w') (fun _ _ _ i _ => l0_2.length - (intOf i).toNat)
  case atStart => exact ⟨0, rfl, Nat.zero_le _, fun i hi => by omega, zah ((Below.refl _ _).alloc (Nat.le_refl _) _) hb1, HK1.out⟩
  case round =>
   obtain ⟨k, rfl, HK⟩ := hrel
   obtain ⟨hkl, hall, hb, hblk⟩ := HK
   have HALL := Aside0.mk hall
   have HB := Aside0.mk hb
   have HBLK := Aside0.mk hblk
   clear hall hb hblk
   by_cases hlt : k < l0_2.length
   ·obtain ⟨ad, e, hx0, hx1⟩ := zbk (Kd.C_below HR.out HB.out) (k : Int) (by omega) (by omega)
    cases e
    simp only [Int.toNat_natCast] at hx0 hx1
    rw [show zaz l0_2 (k : Int) = l0_2.getD k zaO from rfl] at hx0 hx1
    have HF : Aside0 (fieldOK l0_2 k = (!((l0_2.take k).any (fun x => x.f0.toList == (l0_2.getD k zaO).f0.toList)) && (nameB (l0_2.getD k zaO).f0 && (decide (0 ≤ (l0_2.getD k zaO).f1) && decide ((l0_2.getD k zaO).f1 < 4))))) := ⟨rfl⟩
    generalize l0_2.getD k zaO = x at *
    have hsz : w.heap.size < wr.heap.size := zay HBLK.out
    have hlc := HC.out
    have hc2 : wr.cell? ⟨w.heap.size, 2, none⟩ = some (.slice (some ad) l0_2.length c0_2) := (zad HBLK.out 2).trans rfl
    cases ht : (l0_2.take k).any (fun y => y.f0.toList == x.f0.toList) with
    | true =>
     have HT := Aside0.mk ht
     clear ht
     go_wp2_with (go_at_call 51; refine (may_twice x.f0 wr.heap.size k ad c0_2 l0_2 _ (by simp) ((zad (zaw _ _) 0).trans rfl) (Kd.C_alloc (Kd.C_below HR.out HB.out) _) (by omega) HC.out).mono ?_; rintro e w2 ⟨rfl, hb2⟩; rw [HT.out])
     go_ret
     exact ⟨by rw [← HQ.out, may_hit k hlt (by rw [HF.out, HT.out]; rfl)]; rfl, zah (zaa HB.out _) hb2⟩
    | false =>
     have HT := Aside0.mk ht
     clear ht
     cases hn2 : nameB x.f0 with
     | false =>
      have HN2 := Aside0.mk hn2
      clear hn2
      go_wp2_with (first | (go_at_call 51; refine (may_twice x.f0 wr.heap.size k ad c0_2 l0_2 _ (by simp) ((zad (zaw _ _) 0).trans rfl) (Kd.C_alloc (Kd.C_below HR.out HB.out) _) (by omega) HC.out).mono ?_; rintro e w2 ⟨rfl, hb2⟩; rw [HT.out]; have hk2 := zak (zaw _ _) hb2; have hS2 : wr.heap.size < w2.heap.size := zay hk2; have hd0 : w2.cell? ⟨wr.heap.size, 0, none⟩ = some (.string x.f0) := (zad hk2 0).trans rfl; have hd1 : w2.cell? ⟨wr.heap.size, 1, none⟩ = some (.int .i64 x.f1) := (zad hk2 1).trans rfl; have HK2 := Aside0.mk hk2; clear hk2) | (go_at_call 50; refine (name_told HN2.out _).mono ?_; rintro e w3 ⟨rfl, hb3⟩))
      go_ret
      exact ⟨by rw [← HQ.out, may_hit k hlt (by rw [HF.out, HT.out, HN2.out]; rfl)]; rfl, zah (zah (zaa HB.out _) hb2) hb3⟩
     | true =>
      have HN2 := Aside0.mk hn2
      clear hn2
      by_cases hkd : 0 ≤ x.f1 ∧ x.f1 < 4
      ·obtain ⟨hkd1, hkd2⟩ := hkd
       have HOK : Aside0 (fieldOK l0_2 k = true) := ⟨by rw [HF.out, HT.out, HN2.out, decide_eq_true hkd1, decide_eq_true hkd2]; rfl⟩
       go_wp2_with (first | (go_at_call 51; refine (may_twice x.f0 wr.heap.size k ad c0_2 l0_2 _ (by simp) ((zad (zaw _ _) 0).trans rfl) (Kd.C_alloc (Kd.C_below HR.out HB.out) _) (by omega) HC.out).mono ?_; rintro e w2 ⟨rfl, hb2⟩; rw [HT.out]; have hk2 := zak (zaw _ _) hb2; have hS2 : wr.heap.size < w2.heap.size := zay hk2; have hd0 : w2.cell? ⟨wr.heap.size, 0, none⟩ = some (.string x.f0) := (zad hk2 0).trans rfl; have hd1 : w2.cell? ⟨wr.heap.size, 1, none⟩ = some (.int .i64 x.f1) := (zad hk2 1).trans rfl; have HK2 := Aside0.mk hk2; clear hk2) | (go_at_call 50; refine (name_told HN2.out _).mono ?_; rintro e w3 ⟨rfl, hb3⟩; have hk3 := zak HK2.out hb3; have hS3 : wr.heap.size < w3.heap.size := zay hk3; have he1 : w3.cell? ⟨wr.heap.size, 1, none⟩ = some (.int .i64 x.f1) := (zad hk3 1).trans rfl; clear hk3))
       have hb5 := zah (zah (zaa HB.out _) hb2) hb3
       have hm5 : w3.heap[w.heap.size]? = some (.cells #[.string a0_0, .int .i64 a0_1, .slice (some ad) l0_2.length c0_2] 43 (0, 0)) := zak (zak (zag HBLK.out _) hb2) hb3
       go_roundw
       case rel => exact ⟨k + 1, by go_num, by omega, all_next HALL.out HOK.out, hb5, hm5⟩
       case measure => simp [intOf]; omega
      ·have HOK : Aside0 (fieldOK l0_2 k = false) := ⟨by rw [HF.out, HT.out, HN2.out]; simp only [Bool.not_false, Bool.true_and, Bool.and_eq_false_iff, decide_eq_false_iff_not]; omega⟩
       go_wp2_with (first | (go_at_call 51; refine (may_twice x.f0 wr.heap.size k ad c0_2 l0_2 _ (by simp) ((zad (zaw _ _) 0).trans rfl) (Kd.C_alloc (Kd.C_below HR.out HB.out) _) (by omega) HC.out).mono ?_; rintro e w2 ⟨rfl, hb2⟩; rw [HT.out]; have hk2 := zak (zaw _ _) hb2; have hS2 : wr.heap.size < w2.heap.size := zay hk2; have hd0 : w2.cell? ⟨wr.heap.size, 0, none⟩ = some (.string x.f0) := (zad hk2 0).trans rfl; have hd1 : w2.cell? ⟨wr.heap.size, 1, none⟩ = some (.int .i64 x.f1) := (zad hk2 1).trans rfl; have HK2 := Aside0.mk hk2; clear hk2) | (go_at_call 50; refine (name_told HN2.out _).mono ?_; rintro e w3 ⟨rfl, hb3⟩; have hk3 := zak HK2.out hb3; have hS3 : wr.heap.size < w3.heap.size := zay hk3; have he1 : w3.cell? ⟨wr.heap.size, 1, none⟩ = some (.int .i64 x.f1) := (zad hk3 1).trans rfl; clear hk3))
       all_goals first
        | (exfalso; omega)
        | (go_ret; exact ⟨by rw [← HQ.out, may_hit k hlt HOK.out]; rfl, zah (zah (zaa HB.out _) hb2) hb3⟩)
   ·have hq2 := may_all (nm := a0_0) (ver := a0_1) (fun i hi => HALL.out i (by omega))
    have hq3 : q = true := by
     rw [← HQ.out, hq2, HN.out]
     simp only [Bool.true_and, Bool.and_eq_true, decide_eq_true_eq]
     omega
    clear hq2
    subst hq3
    go_wp2
    go_ret
    exact ⟨rfl, HB.out⟩
mutual
def towncrierlaw05_Few.j0 : Nat → Bool → ByteArray → Int → List (SField) → Option (Bool)
 | 0, _, _, _, _ => none
 | k + 1, x13, x204000, x204001, x204002 => if x13 = true then (some false) else (towncrierlaw05_Few.l0 k 0 x204000 x204001 x204002)
def towncrierlaw05_Few.l0 : Nat → Int → ByteArray → Int → List (SField) → Option (Bool)
 | 0, _, _, _, _ => none
 | k + 1, x3, x204000, x204001, x204002 => if x3 < (x204002.length : Int) then (if 0 ≤ x3 then (if (((zaz x204002 x3).f0).size : Int) > 60 then (some false) else (towncrierlaw05_Few.l0 k (wrap64 (x3 + 1)) x204000 x204001 x204002)) else (none)) else (some true)
end
def towncrierlaw05_Few.f (k : Nat) (a0_0 : ByteArray) (a0_1 : Int) (l0_2 : List (SField)) : Option (Bool) := if (a0_0.size : Int) > 60 then (towncrierlaw05_Few.j0 k true a0_0 a0_1 l0_2) else (towncrierlaw05_Few.j0 k (decide ((l0_2.length : Int) > 10)) a0_0 a0_1 l0_2)
set_option maxHeartbeats 8000000 in
set_option maxRecDepth 100000 in
theorem towncrierlaw05_Few.calls (k : Nat) (a0_0 : ByteArray) (a0_1 : Int) (A0_2 : Option Addr) (c0_2 : Nat) (l0_2 : List (SField)) (r : Bool) (w : World) (hr0_2 : Kd.C kField w A0_2 l0_2.length l0_2) (hc0_2 : l0_2.length ≤ c0_2) (h : towncrierlaw05_Few.f k a0_0 a0_1 l0_2 = some r) :
  Calls Try.prog 17 #[.agg #[.string a0_0, .int .i64 a0_1, .slice A0_2 l0_2.length c0_2]] w fun e w' => e = .returned (.bool r) ∧ Below w.heap.size w w' := by
 have hu43 := Try.underlying43
 have HR0_2 := Aside0.mk hr0_2
 have HC0_2 := Aside0.mk hc0_2
 clear hr0_2 hc0_2
 have HB := Aside0.mk (Below.refl w.heap.size w)
 have H : (if (a0_0.size : Int) > 60 then (towncrierlaw05_Few.j0 k true a0_0 a0_1 l0_2) else (towncrierlaw05_Few.j0 k (decide ((l0_2.length : Int) > 10)) a0_0 a0_1 l0_2)) = some r := h
 clear h
 have HC2 := Aside0.mk H
 clear H
 go_enter Try.func17, Try.ntmps17
 go_upto_region 1 with (first | ((with_reducible refine zat (N := 1) rfl ?_); (try (refine zaC (by rfl) ?_; dsimp only)); refine zar ?hg (N := 1) ?hd (cs := #[.string a0_0, .int .i64 a0_1, .slice A0_2 l0_2.length c0_2]) (t := 43) ?hr ?_; (case hd => rfl); (case hg => rfl); (case hr => first | (go_simp; done) | (go_simp; rfl)); intro gb203 hg w3 hbox hb; have n0_ := Aside0.mk (zah (by repeat (first | (with_reducible first | exact HB.out | apply zaa | apply zac | apply zae) | exact HB.out)) hb); have n1_ := Aside0.mk (hbox); have n2_ := Aside0.mk ((by rw [hg]; exact (zan (by repeat (first | (with_reducible first | exact HB.out | apply zaa | apply zac | apply zae) | exact HB.out))) : w.heap.size ≤ gb203)); have n3_ := Aside0.mk ((by rw [hg]; exact (zan (by repeat (first | (with_reducible first | exact HB.out | apply zaa | apply zac | apply zae) | exact HB.out))) : w.heap.size ≤ gb203)); clear HB; have HB := n0_; have BK203 := n1_; have GW203 := n2_; have GE203 := n3_; clear n0_ n1_ n2_ n3_; clear hb hbox hg))
 (try simp only [Act.put, List.setIfInBounds_toArray, List.set_cons_zero, List.set_cons_succ])
 go_cut [13] (fun v13 wc => ∃ (kq : Nat) (x13_1 : Bool), v13 = .bool x13_1 ∧ Aside0 (towncrierlaw05_Few.j0 kq x13_1 a0_0 a0_1 l0_2 = some r) ∧ Aside0 (kq ≤ k) ∧ Aside0 (wc.heap[gb203]? = some (.cells #[.string a0_0, .int .i64 a0_1, (.slice A0_2 l0_2.length c0_2)] 43 (0, 0))) ∧ Aside0 (Below w.heap.size w wc))
 case first =>
  have H := HC2.out
  clear HC2
  by_cases c4 : (a0_0.size : Int) > 60
  ·rw [if_pos c4] at H
   have c4b0 : decide (60 < (a0_0.size : Int)) = true := decide_eq_true c4
   have c4b1 : decide (60 < a0_0.size) = true := decide_eq_true (by omega)
   clear c4
   (first | rw [c4b0] | (simp only [zaE, zaF]; rw [c4b0]) | skip)
   have H' := Aside0.mk H
   clear H
   have hcz5_0 : w3.cell? ⟨gb203, 0, none⟩ = some (.string a0_0) := (zad BK203.out 0).trans rfl
   have hcz5_1 : w3.cell? ⟨gb203, 1, none⟩ = some (.int .i64 a0_1) := (zad BK203.out 1).trans rfl
   have hcz5_2 : w3.cell? ⟨gb203, 2, none⟩ = some (.slice A0_2 l0_2.length c0_2) := (zad BK203.out 2).trans rfl
   have hfz5_0 := zab BK203.out 0
   have hfz5_1 := zab BK203.out 1
   have hfz5_2 := zab BK203.out 2
   go_wp2
   go_meet
   case rel => exact ⟨_, (true), (by first | rfl | (simp; done) | (simp [*]; done)), H', ⟨by first | omega | exact Nat.le_refl _⟩, ⟨by (with_reducible repeat (first | refine zai ?_ _ | refine zaj ?_ | refine zag ?_ _)); exact BK203.out⟩, ⟨by repeat (first | (with_reducible first | exact HB.out | apply zaa | apply zac | apply zae | refine zaf ?_ GE203.out) | exact HB.out)⟩⟩
  ·rw [if_neg c4] at H
   have c4b0 : decide (60 < (a0_0.size : Int)) = false := decide_eq_false c4
   have c4b1 : decide (60 < a0_0.size) = false := decide_eq_false (by omega)
   clear c4
   (first | rw [c4b0] | (simp only [zaE, zaF]; rw [c4b0]) | skip)
   have H' := Aside0.mk H
   clear H
   have hcz6_0 : w3.cell? ⟨gb203, 0, none⟩ = some (.string a0_0) := (zad BK203.out 0).trans rfl
   have hcz6_1 : w3.cell? ⟨gb203, 1, none⟩ = some (.int .i64 a0_1) := (zad BK203.out 1).trans rfl
   have hcz6_2 : w3.cell? ⟨gb203, 2, none⟩ = some (.slice A0_2 l0_2.length c0_2) := (zad BK203.out 2).trans rfl
   have hfz6_0 := zab BK203.out 0
   have hfz6_1 := zab BK203.out 1
   have hfz6_2 := zab BK203.out 2
   go_wp2
   go_meet
   case rel => exact ⟨_, (decide ((l0_2.length : Int) > 10)), (by first | rfl | (simp; done) | (simp [*]; done)), H', ⟨by first | omega | exact Nat.le_refl _⟩, ⟨by (with_reducible repeat (first | refine zai ?_ _ | refine zaj ?_ | refine zag ?_ _)); exact BK203.out⟩, ⟨by repeat (first | (with_reducible first | exact HB.out | apply zaa | apply zac | apply zae | refine zaf ?_ GE203.out) | exact HB.out)⟩⟩
 case rest =>
  clear HC2
  try clear c1
  try clear p2
  try clear c4
  try clear c4b0
  try clear c4b1
  try clear hcz5_0
  try clear hcz5_1
  try clear hcz5_2
  try clear hcz6_0
  try clear hcz6_1
  try clear hcz6_2
  try clear hfz5_0
  try clear hfz5_1
  try clear hfz5_2
  try clear hfz6_0
  try clear hfz6_1
  try clear hfz6_2
  obtain ⟨kq, x13_1, rfl, HA, HJ1, BK203, HB⟩ := hcut
  cases kq with
  | zero => exact absurd HA.out (by simp [towncrierlaw05_Few.j0])
  | succ kj1 =>
   have H := HA.out
   clear HA
   simp only [towncrierlaw05_Few.j0] at H
   by_cases c7 : x13_1 = true
   ·subst c7
    have H1 : (some false) = some r := by rw [if_pos rfl] at H; exact H
    clear H
    have H := H1
    clear H1
    obtain rfl := Option.some.inj H
    go_wp2
    go_ret
    exact ⟨by first | rfl | (simp [zap, zao] <;> rfl) | (simp [*, zap, zao] <;> rfl), by repeat (first | (with_reducible first | exact HB.out | apply zaa | apply zac | apply zae | refine zaf ?_ GE203.out) | exact HB.out)⟩
   ·replace c7 := Bool.eq_false_iff.mpr c7
    subst c7
    have H1 : (towncrierlaw05_Few.l0 kj1 0 a0_0 a0_1 l0_2) = some r := by rw [if_neg (show ¬ (false = true) by decide)] at H; exact H
    clear H
    have H := H1
    clear H1
    have H' := Aside0.mk H
    clear H
    go_wp2
    go_loopg [3] kj1 (fun kq v3 w' => ∃ (x3_2 : Int), v3 = .int .i64 x3_2 ∧ Aside0 (towncrierlaw05_Few.l0 kq x3_2 a0_0 a0_1 l0_2 = some r) ∧ Aside0 (kq ≤ kj1) ∧ Aside0 (w'.heap[gb203]? = some (.cells #[.string a0_0, .int .i64 a0_1, (.slice A0_2 l0_2.length c0_2)] 43 (0, 0))) ∧ Aside0 (Below w.heap.size w w'))
    case atStart => exact ⟨(0), (by first | rfl | (simp; done) | (simp [*]; done)), H', ⟨Nat.le_refl _⟩, ⟨by (with_reducible repeat (first | refine zai ?_ _ | refine zaj ?_ | refine zag ?_ _)); exact BK203.out⟩, ⟨by repeat (first | (with_reducible first | exact HB.out | apply zaa | apply zac | apply zae | refine zaf ?_ GE203.out) | exact HB.out)⟩⟩
    case round =>
     clear H'
     try clear c1
     try clear p2
     try clear c4
     try clear c4b0
     try clear c4b1
     try clear c7
     try clear hcz5_0
     try clear hcz5_1
     try clear hcz5_2
     try clear hcz6_0
     try clear hcz6_1
     try clear hcz6_2
     try clear hfz5_0
     try clear hfz5_1
     try clear hfz5_2
     try clear hfz6_0
     try clear hfz6_1
     try clear hfz6_2
     try clear p2
     obtain ⟨x3_2, rfl, HA, HK2, BK203, HB⟩ := hrel
     cases gk with
     | zero => exact absurd HA.out (by simp [towncrierlaw05_Few.l0])
     | succ k2 =>
      have H := HA.out
      clear HA
      simp only [towncrierlaw05_Few.l0] at H
      by_cases c8 : x3_2 < (l0_2.length : Int)
      ·rw [if_pos c8] at H
       have c8b0 : decide (x3_2 < (l0_2.length : Int)) = true := decide_eq_true c8
       clear c8
       by_cases c9 : 0 ≤ x3_2
       ·rw [if_pos c9] at H
        have c9b0 : decide (0 ≤ x3_2) = true := decide_eq_true c9
        clear c9
        by_cases c10 : (((zaz l0_2 x3_2).f0).size : Int) > 60
        ·rw [if_pos c10] at H
         have c10b0 : decide (60 < (((zaz l0_2 x3_2).f0).size : Int)) = true := decide_eq_true c10
         have c10b1 : decide (60 < ((zaz l0_2 x3_2).f0).size) = true := decide_eq_true (by omega)
         clear c10
         obtain rfl := Option.some.inj H
         have hcz11_0 : wr.cell? ⟨gb203, 0, none⟩ = some (.string a0_0) := (zad BK203.out 0).trans rfl
         have hcz11_1 : wr.cell? ⟨gb203, 1, none⟩ = some (.int .i64 a0_1) := (zad BK203.out 1).trans rfl
         have hcz11_2 : wr.cell? ⟨gb203, 2, none⟩ = some (.slice A0_2 l0_2.length c0_2) := (zad BK203.out 2).trans rfl
         have hfz11_0 := zab BK203.out 0
         have hfz11_1 := zab BK203.out 1
         have hfz11_2 := zab BK203.out 2
         have p204 : 0 ≤ (x3_2 : Int) := of_decide_eq_true (by first | (with_reducible assumption) | assumption)
         have q204 : x3_2 < (l0_2.length : Int) := of_decide_eq_true (by first | (with_reducible assumption) | assumption)
         obtain ⟨ad204, e204, hx204_0, hx204_1⟩ := zbk HR0_2.out x3_2 p204 q204
         cases e204
         replace hx204_0 := (HB.out.cell (World.block_lt_of_cell? w _ hx204_0)).trans hx204_0
         replace hx204_1 := (HB.out.cell (World.block_lt_of_cell? w _ hx204_1)).trans hx204_1
         replace p204 := eq_true p204
         replace q204 := eq_true q204
         go_wp2
         go_ret
         exact ⟨by first | rfl | (simp [zap, zao] <;> rfl) | (simp [*, zap, zao] <;> rfl), by repeat (first | (with_reducible first | exact HB.out | apply zaa | apply zac | apply zae | refine zaf ?_ GE203.out) | exact HB.out)⟩
        ·rw [if_neg c10] at H
         have c10b0 : decide (60 < (((zaz l0_2 x3_2).f0).size : Int)) = false := decide_eq_false c10
         have c10b1 : decide (60 < ((zaz l0_2 x3_2).f0).size) = false := decide_eq_false (by omega)
         clear c10
         have H' := Aside0.mk H
         clear H
         have hcz12_0 : wr.cell? ⟨gb203, 0, none⟩ = some (.string a0_0) := (zad BK203.out 0).trans rfl
         have hcz12_1 : wr.cell? ⟨gb203, 1, none⟩ = some (.int .i64 a0_1) := (zad BK203.out 1).trans rfl
         have hcz12_2 : wr.cell? ⟨gb203, 2, none⟩ = some (.slice A0_2 l0_2.length c0_2) := (zad BK203.out 2).trans rfl
         have hfz12_0 := zab BK203.out 0
         have hfz12_1 := zab BK203.out 1
         have hfz12_2 := zab BK203.out 2
         have p204 : 0 ≤ (x3_2 : Int) := of_decide_eq_true (by first | (with_reducible assumption) | assumption)
         have q204 : x3_2 < (l0_2.length : Int) := of_decide_eq_true (by first | (with_reducible assumption) | assumption)
         obtain ⟨ad204, e204, hx204_0, hx204_1⟩ := zbk HR0_2.out x3_2 p204 q204
         cases e204
         replace hx204_0 := (HB.out.cell (World.block_lt_of_cell? w _ hx204_0)).trans hx204_0
         replace hx204_1 := (HB.out.cell (World.block_lt_of_cell? w _ hx204_1)).trans hx204_1
         replace p204 := eq_true p204
         replace q204 := eq_true q204
         go_wp2
         go_roundg k2
         case measure => have := HJ1.out; have := HK2.out; omega
         case rel => exact ⟨(wrap64 (x3_2 + 1)), (by first | rfl | (simp; done) | (simp [*]; done)), H', ⟨by have := HJ1.out; have := HK2.out; omega⟩, ⟨by (with_reducible repeat (first | refine zai ?_ _ | refine zaj ?_ | refine zag ?_ _)); exact BK203.out⟩, ⟨by repeat (first | (with_reducible first | exact HB.out | apply zaa | apply zac | apply zae | refine zaf ?_ GE203.out) | exact HB.out)⟩⟩
       ·rw [if_neg c9] at H
        exact absurd H (by simp)
      ·rw [if_neg c8] at H
       have c8b0 : decide (x3_2 < (l0_2.length : Int)) = false := decide_eq_false c8
       clear c8
       obtain rfl := Option.some.inj H
       have hcz13_0 : wr.cell? ⟨gb203, 0, none⟩ = some (.string a0_0) := (zad BK203.out 0).trans rfl
       have hcz13_1 : wr.cell? ⟨gb203, 1, none⟩ = some (.int .i64 a0_1) := (zad BK203.out 1).trans rfl
       have hcz13_2 : wr.cell? ⟨gb203, 2, none⟩ = some (.slice A0_2 l0_2.length c0_2) := (zad BK203.out 2).trans rfl
       have hfz13_0 := zab BK203.out 0
       have hfz13_1 := zab BK203.out 1
       have hfz13_2 := zab BK203.out 2
       go_wp2
       go_ret
       exact ⟨by first | rfl | (simp [zap, zao] <;> rfl) | (simp [*, zap, zao] <;> rfl), by repeat (first | (with_reducible first | exact HB.out | apply zaa | apply zac | apply zae | refine zaf ?_ GE203.out) | exact HB.out)⟩
theorem eqAField (d : Nat) (w : World) (x0 y0 : ByteArray) (x1 y1 : Int) :
  (Op.equalIn (d + 2) 67 (.agg #[.string x0, .int .i64 x1]) (.agg #[.string y0, .int .i64 y1])).run Try.prog w = .ok (x0.toList == y0.toList && (x1 == y1)) w := by
 refine eqA_of Try.underlying67 (by kernel_rfl) ?_
 refine eqf_cons (by rfl) (by go_simp; rfl) (by go_simp; rfl) (by go_simp) ?_
 exact eqf_last (by rfl) (by go_simp; rfl) (by go_simp; rfl) (by go_simp)
end Go.Proofs.Ytooemobolfoefaa.P


namespace Go.Proofs.Ytooemobolfoefaa.P
open Go.RowKit Go.Proofs.YtooemobolfoefaaW.PrintWords Go.Proofs.YtooemobolfoefaaW.PrintLast Go.Proofs.YtooemobolfoefaaW.PrintMore
attribute [local go_sem] za1 zaZ zbb zba zaU zaT za0 zaY   -- for this text's walks alone
set_option linter.unusedVariables false
set_option linter.unusedSimpArgs false
attribute [local go_sem high] eqAField
def slices_Equal_api_Field.l0 : Nat → List (SField) → List (SField) → Int → Int → Option (Bool)
 | 0, _, _, _, _ => none
 | k + 1, x0, x1, x12, x13 => if x13 < x12 then (if 0 ≤ x13 then (if x13 < (x0.length : Int) then (if x13 < (x1.length : Int) then (if (!((((zaz x0 x13).f0).toList) == (((zaz x1 x13).f0).toList)) || (!(((zaz x0 x13).f1) == ((zaz x1 x13).f1)))) = true then (some false) else (slices_Equal_api_Field.l0 k x0 x1 x12 (wrap64 (x13 + 1)))) else (none)) else (none)) else (none)) else (some true)
def slices_Equal_api_Field.f (k : Nat) (l0 : List (SField)) (l1 : List (SField)) : Option (Bool) := if (l0.length : Int) = (l1.length : Int) then (slices_Equal_api_Field.l0 k l0 l1 (l0.length : Int) 0) else (some false)
set_option maxHeartbeats 8000000 in
set_option maxRecDepth 100000 in
theorem slices_Equal_api_Field.calls (k : Nat) (A0 : Option Addr) (c0 : Nat) (l0 : List (SField)) (A1 : Option Addr) (c1 : Nat) (l1 : List (SField)) (r : Bool) (w : World) (hr0 : Kd.C kField w A0 l0.length l0) (hc0 : l0.length ≤ c0) (hr1 : Kd.C kField w A1 l1.length l1) (hc1 : l1.length ≤ c1) (h : slices_Equal_api_Field.f k l0 l1 = some r) :
  Calls Try.prog 55 #[.slice A0 l0.length c0, .slice A1 l1.length c1] w fun e w' => e = .returned (.bool r) ∧ Drawn0 w w' := by
 have hu67 := Try.underlying67
 have HR0 := Aside0.mk hr0
 have HC0 := Aside0.mk hc0
 clear hr0 hc0
 have HR1 := Aside0.mk hr1
 have HC1 := Aside0.mk hc1
 clear hr1 hc1
 have H : (if (l0.length : Int) = (l1.length : Int) then (slices_Equal_api_Field.l0 k l0 l1 (l0.length : Int) 0) else (some false)) = some r := h
 clear h
 by_cases c3 : (l0.length : Int) = (l1.length : Int)
 ·rw [if_pos c3] at H
  have c3b0 : ((l0.length : Int) == (l1.length : Int)) = true := beq_iff_eq.mpr c3
  have c3b1 : ((l0.length : Int) != (l1.length : Int)) = false := bne_eq_false_iff_eq.mpr c3
  have c3b2 : (l0.length == l1.length) = true := by first | simpa using c3 | (simp at c3 ⊢; omega)
  clear c3
  have H' := Aside0.mk H
  clear H
  go_enter Try.func55, Try.ntmps55
  go_wp2
  repeat (go_quiet (fail); try go_wp2)
  go_loopg [13] k (fun kq v13 w' => ∃ (x13_1 : Int), v13 = .int .i64 x13_1 ∧ Aside0 (slices_Equal_api_Field.l0 kq l0 l1 (l0.length : Int) x13_1 = some r) ∧ Aside0 (kq ≤ k) ∧ Drawn0 w w')
  case atStart => exact ⟨(0), (by first | rfl | (simp; done) | (simp [*]; done)), H', ⟨Nat.le_refl _⟩, by repeat (first | exact Drawn0.refl _ | apply Drawn0.step)⟩
  case round =>
   clear H'
   try clear c1
   try clear p2
   try clear c3
   try clear c3b0
   try clear c3b1
   try clear c3b2
   obtain ⟨x13_1, rfl, HA, HK1, ⟨m1, rfl⟩⟩ := hrel
   cases gk with
   | zero => exact absurd HA.out (by simp [slices_Equal_api_Field.l0])
   | succ k1 =>
    have H := HA.out
    clear HA
    simp only [slices_Equal_api_Field.l0] at H
    by_cases c4 : x13_1 < (l0.length : Int)
    ·rw [if_pos c4] at H
     have c4b0 : decide (x13_1 < (l0.length : Int)) = true := decide_eq_true c4
     clear c4
     by_cases c5 : 0 ≤ x13_1
     ·rw [if_pos c5] at H
      have c5b0 : decide (0 ≤ x13_1) = true := decide_eq_true c5
      clear c5
      by_cases c6 : x13_1 < (l0.length : Int)
      ·rw [if_pos c6] at H
       have c6b0 : decide (x13_1 < (l0.length : Int)) = true := decide_eq_true c6
       clear c6
       by_cases c7 : x13_1 < (l1.length : Int)
       ·rw [if_pos c7] at H
        have c7b0 : decide (x13_1 < (l1.length : Int)) = true := decide_eq_true c7
        clear c7
        by_cases c8 : (!((((zaz l0 x13_1).f0).toList) == (((zaz l1 x13_1).f0).toList)) || (!(((zaz l0 x13_1).f1) == ((zaz l1 x13_1).f1)))) = true
        ·rw [if_pos c8] at H
         have c8b0 : (!((((zaz l0 x13_1).f0).toList) == (((zaz l1 x13_1).f0).toList)) || (!(((zaz l0 x13_1).f1) == ((zaz l1 x13_1).f1)))) = true := c8
         clear c8
         obtain rfl := Option.some.inj H
         have p215 : 0 ≤ (x13_1 : Int) := of_decide_eq_true (by first | (with_reducible assumption) | assumption)
         have q215 : x13_1 < (l0.length : Int) := of_decide_eq_true (by first | (with_reducible assumption) | assumption)
         obtain ⟨ad215, e215, hx215_0, hx215_1⟩ := zbk HR0.out x13_1 p215 q215
         cases e215
         replace p215 := eq_true p215
         replace q215 := eq_true q215
         have p216 : 0 ≤ (x13_1 : Int) := of_decide_eq_true (by first | (with_reducible assumption) | assumption)
         have q216 : x13_1 < (l1.length : Int) := of_decide_eq_true (by first | (with_reducible assumption) | assumption)
         obtain ⟨ad216, e216, hx216_0, hx216_1⟩ := zbk HR1.out x13_1 p216 q216
         cases e216
         replace p216 := eq_true p216
         replace q216 := eq_true q216
         go_wp2
         repeat (go_quiet (fail); try go_wp2)
         go_ret
         exact ⟨by first | rfl | (simp; done) | (simp [*]; done), by repeat (first | exact Drawn0.refl _ | apply Drawn0.step)⟩
        ·rw [if_neg c8] at H
         have c8b0 : (!((((zaz l0 x13_1).f0).toList) == (((zaz l1 x13_1).f0).toList)) || (!(((zaz l0 x13_1).f1) == ((zaz l1 x13_1).f1)))) = false := by simpa using c8
         clear c8
         have H' := Aside0.mk H
         clear H
         have p215 : 0 ≤ (x13_1 : Int) := of_decide_eq_true (by first | (with_reducible assumption) | assumption)
         have q215 : x13_1 < (l0.length : Int) := of_decide_eq_true (by first | (with_reducible assumption) | assumption)
         obtain ⟨ad215, e215, hx215_0, hx215_1⟩ := zbk HR0.out x13_1 p215 q215
         cases e215
         replace p215 := eq_true p215
         replace q215 := eq_true q215
         have p216 : 0 ≤ (x13_1 : Int) := of_decide_eq_true (by first | (with_reducible assumption) | assumption)
         have q216 : x13_1 < (l1.length : Int) := of_decide_eq_true (by first | (with_reducible assumption) | assumption)
         obtain ⟨ad216, e216, hx216_0, hx216_1⟩ := zbk HR1.out x13_1 p216 q216
         cases e216
         replace p216 := eq_true p216
         replace q216 := eq_true q216
         go_wp2
         repeat (go_quiet (fail); try go_wp2)
         go_roundg k1
         case measure => have := HK1.out; omega
         case rel => exact ⟨(wrap64 (x13_1 + 1)), (by first | rfl | (simp; done) | (simp [*]; done)), H', ⟨by have := HK1.out; omega⟩, by repeat (first | exact Drawn0.refl _ | apply Drawn0.step)⟩
       ·rw [if_neg c7] at H
        exact absurd H (by simp)
      ·rw [if_neg c6] at H
       exact absurd H (by simp)
     ·rw [if_neg c5] at H
      exact absurd H (by simp)
    ·rw [if_neg c4] at H
     have c4b0 : decide (x13_1 < (l0.length : Int)) = false := decide_eq_false c4
     clear c4
     obtain rfl := Option.some.inj H
     go_wp2
     repeat (go_quiet (fail); try go_wp2)
     go_ret
     exact ⟨by first | rfl | (simp; done) | (simp [*]; done), by repeat (first | exact Drawn0.refl _ | apply Drawn0.step)⟩
 ·rw [if_neg c3] at H
  have c3b0 : ((l0.length : Int) == (l1.length : Int)) = false := beq_eq_false_iff_ne.mpr c3
  have c3b1 : ((l0.length : Int) != (l1.length : Int)) = true := bne_iff_ne.mpr c3
  have c3b2 : (l0.length == l1.length) = false := by first | simpa using c3 | (simp at c3 ⊢; omega)
  obtain rfl := Option.some.inj H
  go_enter Try.func55, Try.ntmps55
  go_wp2
  repeat (go_quiet (fail); try go_wp2)
  go_ret
  exact ⟨by first | rfl | (simp; done) | (simp [*]; done), by repeat (first | exact Drawn0.refl _ | apply Drawn0.step)⟩
end Go.Proofs.Ytooemobolfoefaa.P


namespace Go.Proofs.Ytooemobolfoefaa.P
open Go.RowKit Go.Proofs.YtooemobolfoefaaW.PrintWords Go.Proofs.YtooemobolfoefaaW.PrintLast Go.Proofs.YtooemobolfoefaaW.PrintMore
attribute [local go_sem] za1 zaZ zbb zba zaU zaT za0 zaY   -- for this text's walks alone
set_option linter.unusedVariables false
set_option linter.unusedSimpArgs false
def schema_Same.f (k : Nat) (a0_0 : ByteArray) (a0_1 : Int) (l0_2 : List (SField)) (a1_0 : ByteArray) (a1_1 : Int) (l1_2 : List (SField)) : Option (Bool) := if a0_0.toList = a1_0.toList then (if a0_1 = a1_1 then ((slices_Equal_api_Field.f k l0_2 l1_2).bind fun t219 => (some t219)) else (some false)) else (some false)
set_option maxHeartbeats 8000000 in
set_option maxRecDepth 100000 in
theorem schema_Same.calls (k : Nat) (a0_0 : ByteArray) (a0_1 : Int) (A0_2 : Option Addr) (c0_2 : Nat) (l0_2 : List (SField)) (a1_0 : ByteArray) (a1_1 : Int) (A1_2 : Option Addr) (c1_2 : Nat) (l1_2 : List (SField)) (r : Bool) (w : World) (hr0_2 : Kd.C kField w A0_2 l0_2.length l0_2) (hc0_2 : l0_2.length ≤ c0_2) (hr1_2 : Kd.C kField w A1_2 l1_2.length l1_2) (hc1_2 : l1_2.length ≤ c1_2) (h : schema_Same.f k a0_0 a0_1 l0_2 a1_0 a1_1 l1_2 = some r) :
  Calls Try.prog 35 #[.agg #[.string a0_0, .int .i64 a0_1, .slice A0_2 l0_2.length c0_2], .agg #[.string a1_0, .int .i64 a1_1, .slice A1_2 l1_2.length c1_2]] w fun e w' => e = .returned (.bool r) ∧ Below w.heap.size w w' := by
 have hu43 := Try.underlying43
 have HR0_2 := Aside0.mk hr0_2
 have HC0_2 := Aside0.mk hc0_2
 clear hr0_2 hc0_2
 have HR1_2 := Aside0.mk hr1_2
 have HC1_2 := Aside0.mk hc1_2
 clear hr1_2 hc1_2
 have HB := Aside0.mk (Below.refl w.heap.size w)
 have H : (if a0_0.toList = a1_0.toList then (if a0_1 = a1_1 then ((slices_Equal_api_Field.f k l0_2 l1_2).bind fun t219 => (some t219)) else (some false)) else (some false)) = some r := h
 clear h
 by_cases c3 : a0_0.toList = a1_0.toList
 ·rw [if_pos c3] at H
  have c3b0 : (a0_0.toList == a1_0.toList) = true := beq_iff_eq.mpr c3
  have c3b1 : (a0_0.toList != a1_0.toList) = false := bne_eq_false_iff_eq.mpr c3
  clear c3
  by_cases c4 : a0_1 = a1_1
  ·rw [if_pos c4] at H
   have c4b0 : (a0_1 == a1_1) = true := beq_iff_eq.mpr c4
   have c4b1 : (a0_1 != a1_1) = false := bne_eq_false_iff_eq.mpr c4
   clear c4
   replace H := Option.bind_eq_some_iff.mp H
   obtain ⟨t219, A50, H⟩ := H
   replace H : (some t219) = some r := H
   have A5 := Aside0.mk A50
   clear A50
   obtain rfl := Option.some.inj H
   go_enter Try.func35, Try.ntmps35
   go_wp2_with (first | ((with_reducible refine zat (N := 2) rfl ?_); refine zar ?hg (N := 2) ?hd (cs := #[.string a0_0, .int .i64 a0_1, .slice A0_2 l0_2.length c0_2]) (t := 43) ?hr ?_; (case hd => rfl); (case hg => rfl); (case hr => first | (go_simp; done) | (go_simp; rfl)); intro gb217 hg w6 hbox hb; have n0_ := Aside0.mk (zah (by repeat (first | (with_reducible first | exact HB.out | apply zaa | apply zac | apply zae) | exact HB.out)) hb); have n1_ := Aside0.mk (hbox); have n2_ := Aside0.mk ((by rw [hg]; exact (zan (by repeat (first | (with_reducible first | exact HB.out | apply zaa | apply zac | apply zae) | exact HB.out))) : w.heap.size ≤ gb217)); have n3_ := Aside0.mk ((by rw [hg]; exact (zan (by repeat (first | (with_reducible first | exact HB.out | apply zaa | apply zac | apply zae) | exact HB.out))) : w.heap.size ≤ gb217)); clear HB; have HB := n0_; have BK217 := n1_; have GW217 := n2_; have GE217 := n3_; clear n0_ n1_ n2_ n3_; clear hb hbox hg) | ((with_reducible refine zat (N := 3) rfl ?_); refine zar ?hg (N := 3) ?hd (cs := #[.string a1_0, .int .i64 a1_1, .slice A1_2 l1_2.length c1_2]) (t := 43) ?hr ?_; (case hd => rfl); (case hg => rfl); (case hr => first | (go_simp; done) | (go_simp; rfl)); intro gb218 hg w7 hbox hb; have n0_ := Aside0.mk (zak (g := gb217) (o := .cells #[.string a0_0, .int .i64 a0_1, .slice A0_2 l0_2.length c0_2] 43 (0, 0)) (by (with_reducible repeat (first | refine zai ?_ _ | refine zaj ?_ | refine zag ?_ _)); exact BK217.out) hb); have n1_ := Aside0.mk (zah (by repeat (first | (with_reducible first | exact HB.out | apply zaa | apply zac | apply zae | refine zaf ?_ GE217.out) | exact HB.out)) hb); have n2_ := Aside0.mk (hbox); have n3_ := Aside0.mk ((by rw [hg]; exact (zan (by repeat (first | (with_reducible first | exact HB.out | apply zaa | apply zac | apply zae | refine zaf ?_ GE217.out) | exact HB.out))) : w.heap.size ≤ gb218)); have n4_ := Aside0.mk ((by rw [hg]; exact (zan (by repeat (first | (with_reducible first | exact HB.out | apply zaa | apply zac | apply zae | refine zaf ?_ GE217.out) | exact HB.out))) : w.heap.size ≤ gb218)); have n5_ := Aside0.mk ((by rw [hg]; exact Nat.ne_of_lt (zay (g := gb217) (o := .cells #[.string a0_0, .int .i64 a0_1, .slice A0_2 l0_2.length c0_2] 43 (0, 0)) (by (with_reducible repeat (first | refine zai ?_ _ | refine zaj ?_ | refine zag ?_ _)); exact BK217.out)) : gb217 ≠ gb218)); have n6_ := Aside0.mk ((by rw [hg]; exact Nat.ne_of_gt (zay (g := gb217) (o := .cells #[.string a0_0, .int .i64 a0_1, .slice A0_2 l0_2.length c0_2] 43 (0, 0)) (by (with_reducible repeat (first | refine zai ?_ _ | refine zaj ?_ | refine zag ?_ _)); exact BK217.out)) : gb218 ≠ gb217)); clear BK217; clear HB; have BK217 := n0_; have HB := n1_; have BK218 := n2_; have GW218 := n3_; have GE218 := n4_; have NB217_218 := n5_; have NB218_217 := n6_; clear n0_ n1_ n2_ n3_ n4_ n5_ n6_; clear hb hbox hg; have hnb8 := NB217_218.out; have hnc8 := NB218_217.out; have hcz9_0 : w7.cell? ⟨gb217, 0, none⟩ = some (.string a0_0) := (zad BK217.out 0).trans rfl; have hcz9_1 : w7.cell? ⟨gb217, 1, none⟩ = some (.int .i64 a0_1) := (zad BK217.out 1).trans rfl; have hcz9_2 : w7.cell? ⟨gb217, 2, none⟩ = some (.slice A0_2 l0_2.length c0_2) := (zad BK217.out 2).trans rfl; have hfz9_0 := zab BK217.out 0; have hfz9_1 := zab BK217.out 1; have hfz9_2 := zab BK217.out 2; have hcz10_0 : w7.cell? ⟨gb218, 0, none⟩ = some (.string a1_0) := (zad BK218.out 0).trans rfl; have hcz10_1 : w7.cell? ⟨gb218, 1, none⟩ = some (.int .i64 a1_1) := (zad BK218.out 1).trans rfl; have hcz10_2 : w7.cell? ⟨gb218, 2, none⟩ = some (.slice A1_2 l1_2.length c1_2) := (zad BK218.out 2).trans rfl; have hfz10_0 := zab BK218.out 0; have hfz10_1 := zab BK218.out 1; have hfz10_2 := zab BK218.out 2) | (go_at_call 55; (with_reducible refine (slices_Equal_api_Field.calls k _ _ l0_2 _ _ l1_2 t219 _ ?side1 ?side2 ?side3 ?side4 A5.out).mono ?_); (case side1 => repeat (first | exact (Kd.C_below HR0_2.out HB.out) | (with_reducible refine Kd.C_alloc ?_ _) | (with_reducible refine Kd.C_drewN ?_ _) | (with_reducible refine Kd.C_drew ?_))); (case side2 => exact HC0_2.out); (case side3 => repeat (first | exact (Kd.C_below HR1_2.out HB.out) | (with_reducible refine Kd.C_alloc ?_ _) | (with_reducible refine Kd.C_drewN ?_ _) | (with_reducible refine Kd.C_drew ?_))); (case side4 => exact HC1_2.out); rintro e w' ⟨rfl, ⟨nd, rfl⟩⟩))
   go_ret
   exact ⟨by first | rfl | (simp [zap, zao] <;> rfl) | (simp [*, zap, zao] <;> rfl), by repeat (first | (with_reducible first | exact HB.out | apply zaa | apply zac | apply zae | refine zaf ?_ GE217.out | refine zaf ?_ GE218.out) | exact HB.out)⟩
  ·rw [if_neg c4] at H
   have c4b0 : (a0_1 == a1_1) = false := beq_eq_false_iff_ne.mpr c4
   have c4b1 : (a0_1 != a1_1) = true := bne_iff_ne.mpr c4
   obtain rfl := Option.some.inj H
   go_enter Try.func35, Try.ntmps35
   go_wp2_with (first | ((with_reducible refine zat (N := 2) rfl ?_); refine zar ?hg (N := 2) ?hd (cs := #[.string a0_0, .int .i64 a0_1, .slice A0_2 l0_2.length c0_2]) (t := 43) ?hr ?_; (case hd => rfl); (case hg => rfl); (case hr => first | (go_simp; done) | (go_simp; rfl)); intro gb217 hg w11 hbox hb; have n0_ := Aside0.mk (zah (by repeat (first | (with_reducible first | exact HB.out | apply zaa | apply zac | apply zae) | exact HB.out)) hb); have n1_ := Aside0.mk (hbox); have n2_ := Aside0.mk ((by rw [hg]; exact (zan (by repeat (first | (with_reducible first | exact HB.out | apply zaa | apply zac | apply zae) | exact HB.out))) : w.heap.size ≤ gb217)); have n3_ := Aside0.mk ((by rw [hg]; exact (zan (by repeat (first | (with_reducible first | exact HB.out | apply zaa | apply zac | apply zae) | exact HB.out))) : w.heap.size ≤ gb217)); clear HB; have HB := n0_; have BK217 := n1_; have GW217 := n2_; have GE217 := n3_; clear n0_ n1_ n2_ n3_; clear hb hbox hg) | ((with_reducible refine zat (N := 3) rfl ?_); refine zar ?hg (N := 3) ?hd (cs := #[.string a1_0, .int .i64 a1_1, .slice A1_2 l1_2.length c1_2]) (t := 43) ?hr ?_; (case hd => rfl); (case hg => rfl); (case hr => first | (go_simp; done) | (go_simp; rfl)); intro gb218 hg w12 hbox hb; have n0_ := Aside0.mk (zak (g := gb217) (o := .cells #[.string a0_0, .int .i64 a0_1, .slice A0_2 l0_2.length c0_2] 43 (0, 0)) (by (with_reducible repeat (first | refine zai ?_ _ | refine zaj ?_ | refine zag ?_ _)); exact BK217.out) hb); have n1_ := Aside0.mk (zah (by repeat (first | (with_reducible first | exact HB.out | apply zaa | apply zac | apply zae | refine zaf ?_ GE217.out) | exact HB.out)) hb); have n2_ := Aside0.mk (hbox); have n3_ := Aside0.mk ((by rw [hg]; exact (zan (by repeat (first | (with_reducible first | exact HB.out | apply zaa | apply zac | apply zae | refine zaf ?_ GE217.out) | exact HB.out))) : w.heap.size ≤ gb218)); have n4_ := Aside0.mk ((by rw [hg]; exact (zan (by repeat (first | (with_reducible first | exact HB.out | apply zaa | apply zac | apply zae | refine zaf ?_ GE217.out) | exact HB.out))) : w.heap.size ≤ gb218)); have n5_ := Aside0.mk ((by rw [hg]; exact Nat.ne_of_lt (zay (g := gb217) (o := .cells #[.string a0_0, .int .i64 a0_1, .slice A0_2 l0_2.length c0_2] 43 (0, 0)) (by (with_reducible repeat (first | refine zai ?_ _ | refine zaj ?_ | refine zag ?_ _)); exact BK217.out)) : gb217 ≠ gb218)); have n6_ := Aside0.mk ((by rw [hg]; exact Nat.ne_of_gt (zay (g := gb217) (o := .cells #[.string a0_0, .int .i64 a0_1, .slice A0_2 l0_2.length c0_2] 43 (0, 0)) (by (with_reducible repeat (first | refine zai ?_ _ | refine zaj ?_ | refine zag ?_ _)); exact BK217.out)) : gb218 ≠ gb217)); clear BK217; clear HB; have BK217 := n0_; have HB := n1_; have BK218 := n2_; have GW218 := n3_; have GE218 := n4_; have NB217_218 := n5_; have NB218_217 := n6_; clear n0_ n1_ n2_ n3_ n4_ n5_ n6_; clear hb hbox hg; have hnb13 := NB217_218.out; have hnc13 := NB218_217.out; have hcz14_0 : w12.cell? ⟨gb217, 0, none⟩ = some (.string a0_0) := (zad BK217.out 0).trans rfl; have hcz14_1 : w12.cell? ⟨gb217, 1, none⟩ = some (.int .i64 a0_1) := (zad BK217.out 1).trans rfl; have hcz14_2 : w12.cell? ⟨gb217, 2, none⟩ = some (.slice A0_2 l0_2.length c0_2) := (zad BK217.out 2).trans rfl; have hfz14_0 := zab BK217.out 0; have hfz14_1 := zab BK217.out 1; have hfz14_2 := zab BK217.out 2; have hcz15_0 : w12.cell? ⟨gb218, 0, none⟩ = some (.string a1_0) := (zad BK218.out 0).trans rfl; have hcz15_1 : w12.cell? ⟨gb218, 1, none⟩ = some (.int .i64 a1_1) := (zad BK218.out 1).trans rfl; have hcz15_2 : w12.cell? ⟨gb218, 2, none⟩ = some (.slice A1_2 l1_2.length c1_2) := (zad BK218.out 2).trans rfl; have hfz15_0 := zab BK218.out 0; have hfz15_1 := zab BK218.out 1; have hfz15_2 := zab BK218.out 2))
   go_ret
   exact ⟨by first | rfl | (simp [zap, zao] <;> rfl) | (simp [*, zap, zao] <;> rfl), by repeat (first | (with_reducible first | exact HB.out | apply zaa | apply zac | apply zae | refine zaf ?_ GE217.out | refine zaf ?_ GE218.out) | exact HB.out)⟩
 ·rw [if_neg c3] at H
  have c3b0 : (a0_0.toList == a1_0.toList) = false := beq_eq_false_iff_ne.mpr c3
  have c3b1 : (a0_0.toList != a1_0.toList) = true := bne_iff_ne.mpr c3
  obtain rfl := Option.some.inj H
  go_enter Try.func35, Try.ntmps35
  go_wp2_with (first | ((with_reducible refine zat (N := 2) rfl ?_); refine zar ?hg (N := 2) ?hd (cs := #[.string a0_0, .int .i64 a0_1, .slice A0_2 l0_2.length c0_2]) (t := 43) ?hr ?_; (case hd => rfl); (case hg => rfl); (case hr => first | (go_simp; done) | (go_simp; rfl)); intro gb217 hg w16 hbox hb; have n0_ := Aside0.mk (zah (by repeat (first | (with_reducible first | exact HB.out | apply zaa | apply zac | apply zae) | exact HB.out)) hb); have n1_ := Aside0.mk (hbox); have n2_ := Aside0.mk ((by rw [hg]; exact (zan (by repeat (first | (with_reducible first | exact HB.out | apply zaa | apply zac | apply zae) | exact HB.out))) : w.heap.size ≤ gb217)); have n3_ := Aside0.mk ((by rw [hg]; exact (zan (by repeat (first | (with_reducible first | exact HB.out | apply zaa | apply zac | apply zae) | exact HB.out))) : w.heap.size ≤ gb217)); clear HB; have HB := n0_; have BK217 := n1_; have GW217 := n2_; have GE217 := n3_; clear n0_ n1_ n2_ n3_; clear hb hbox hg) | ((with_reducible refine zat (N := 3) rfl ?_); refine zar ?hg (N := 3) ?hd (cs := #[.string a1_0, .int .i64 a1_1, .slice A1_2 l1_2.length c1_2]) (t := 43) ?hr ?_; (case hd => rfl); (case hg => rfl); (case hr => first | (go_simp; done) | (go_simp; rfl)); intro gb218 hg w17 hbox hb; have n0_ := Aside0.mk (zak (g := gb217) (o := .cells #[.string a0_0, .int .i64 a0_1, .slice A0_2 l0_2.length c0_2] 43 (0, 0)) (by (with_reducible repeat (first | refine zai ?_ _ | refine zaj ?_ | refine zag ?_ _)); exact BK217.out) hb); have n1_ := Aside0.mk (zah (by repeat (first | (with_reducible first | exact HB.out | apply zaa | apply zac | apply zae | refine zaf ?_ GE217.out) | exact HB.out)) hb); have n2_ := Aside0.mk (hbox); have n3_ := Aside0.mk ((by rw [hg]; exact (zan (by repeat (first | (with_reducible first | exact HB.out | apply zaa | apply zac | apply zae | refine zaf ?_ GE217.out) | exact HB.out))) : w.heap.size ≤ gb218)); have n4_ := Aside0.mk ((by rw [hg]; exact (zan (by repeat (first | (with_reducible first | exact HB.out | apply zaa | apply zac | apply zae | refine zaf ?_ GE217.out) | exact HB.out))) : w.heap.size ≤ gb218)); have n5_ := Aside0.mk ((by rw [hg]; exact Nat.ne_of_lt (zay (g := gb217) (o := .cells #[.string a0_0, .int .i64 a0_1, .slice A0_2 l0_2.length c0_2] 43 (0, 0)) (by (with_reducible repeat (first | refine zai ?_ _ | refine zaj ?_ | refine zag ?_ _)); exact BK217.out)) : gb217 ≠ gb218)); have n6_ := Aside0.mk ((by rw [hg]; exact Nat.ne_of_gt (zay (g := gb217) (o := .cells #[.string a0_0, .int .i64 a0_1, .slice A0_2 l0_2.length c0_2] 43 (0, 0)) (by (with_reducible repeat (first | refine zai ?_ _ | refine zaj ?_ | refine zag ?_ _)); exact BK217.out)) : gb218 ≠ gb217)); clear BK217; clear HB; have BK217 := n0_; have HB := n1_; have BK218 := n2_; have GW218 := n3_; have GE218 := n4_; have NB217_218 := n5_; have NB218_217 := n6_; clear n0_ n1_ n2_ n3_ n4_ n5_ n6_; clear hb hbox hg; have hnb18 := NB217_218.out; have hnc18 := NB218_217.out; have hcz19_0 : w17.cell? ⟨gb217, 0, none⟩ = some (.string a0_0) := (zad BK217.out 0).trans rfl; have hcz19_1 : w17.cell? ⟨gb217, 1, none⟩ = some (.int .i64 a0_1) := (zad BK217.out 1).trans rfl; have hcz19_2 : w17.cell? ⟨gb217, 2, none⟩ = some (.slice A0_2 l0_2.length c0_2) := (zad BK217.out 2).trans rfl; have hfz19_0 := zab BK217.out 0; have hfz19_1 := zab BK217.out 1; have hfz19_2 := zab BK217.out 2; have hcz20_0 : w17.cell? ⟨gb218, 0, none⟩ = some (.string a1_0) := (zad BK218.out 0).trans rfl; have hcz20_1 : w17.cell? ⟨gb218, 1, none⟩ = some (.int .i64 a1_1) := (zad BK218.out 1).trans rfl; have hcz20_2 : w17.cell? ⟨gb218, 2, none⟩ = some (.slice A1_2 l1_2.length c1_2) := (zad BK218.out 2).trans rfl; have hfz20_0 := zab BK218.out 0; have hfz20_1 := zab BK218.out 1; have hfz20_2 := zab BK218.out 2))
  go_ret
  exact ⟨by first | rfl | (simp [zap, zao] <;> rfl) | (simp [*, zap, zao] <;> rfl), by repeat (first | (with_reducible first | exact HB.out | apply zaa | apply zac | apply zae | refine zaf ?_ GE217.out | refine zaf ?_ GE218.out) | exact HB.out)⟩
theorem equal_fields_loop (a b : List SField) (hl : a.length ≤ 9223372036854775807) (he : a.length = b.length) : ∀ (d i k : Nat), i + d = a.length → d < k → (∀ j, j < i → eqField (a.getD j zaO) (b.getD j zaO) = true) →
  slices_Equal_api_Field.l0 k a b (a.length : Int) (i : Int) = some (eqf eqField zaO a b) := by
 intro d
 induction d with
 | zero =>
  intro i k hi hk h
  obtain ⟨k, rfl⟩ := zaP hk
  simp only [slices_Equal_api_Field.l0]
  rw [if_neg (by omega), eqf_all he (fun j hj => h j (by omega))]
 | succ d ih =>
  intro i k hi hk h
  obtain ⟨k, rfl⟩ := zaP hk
  simp only [slices_Equal_api_Field.l0]
  rw [if_pos (by omega), if_pos (by omega), if_pos (by omega), if_pos (by omega), zbs (by omega)]
  rw [show zaz a (i : Int) = a.getD i zaO from rfl, show zaz b (i : Int) = b.getD i zaO from rfl]
  cases hq : eqField (a.getD i zaO) (b.getD i zaO) with
  | true =>
   have hq2 := hq
   unfold eqField at hq
   rw [Bool.and_eq_true] at hq
   rw [hq.1, hq.2]
   exact ih (i + 1) k (by omega) (by omega) (all_next h hq2)
  | false =>
   rw [eqf_hit i (by omega) hq]
   unfold eqField at hq
   rw [Bool.and_eq_false_iff] at hq
   rcases hq with hq | hq <;> (rw [hq, if_pos (by simp)])
theorem equal_fields (a b : List SField) (hl : a.length ≤ 9223372036854775807) {k : Nat} (hk : a.length < k) : slices_Equal_api_Field.f k a b = some (eqf eqField zaO a b) := by
 unfold slices_Equal_api_Field.f
 by_cases he : a.length = b.length
 ·rw [if_pos (by omega)]
  exact equal_fields_loop a b hl he a.length 0 k (by omega) hk (fun j hj => by omega)
 ·rw [if_neg (by omega), eqf_len he]
theorem schema_Same_is (x y : SSchema) (hl : x.f2.length ≤ 9223372036854775807) {k : Nat} (hk : x.f2.length < k) : schema_Same.f k x.f0 x.f1 x.f2 y.f0 y.f1 y.f2 = some (eqSchema x y) := by
 unfold schema_Same.f eqSchema
 by_cases h1 : x.f0.toList = y.f0.toList
 ·rw [if_pos h1, decide_eq_true h1]
  by_cases h2 : x.f1 = y.f1
  ·rw [if_pos h2, decide_eq_true h2, equal_fields _ _ hl hk]
   rfl
  ·rw [if_neg h2, decide_eq_false h2]
   rfl
 ·rw [if_neg h1, decide_eq_false h1]
  rfl
def schema_Fits.f (k : Nat) (a0_0 : ByteArray) (a0_1 : Int) (l0_2 : List (SField)) (a1_0 : ByteArray) (a1_1 : Int) (l1_2 : List (SField)) : Option (Bool) := (schema_May.f a0_0 a0_1 l0_2).bind fun t222 => (if t222 = true then ((schema_May.f a1_0 a1_1 l1_2).bind fun t223 => (if t223 = true then (if (l1_2.length : Int) < (l0_2.length : Int) then (some false) else (if 0 ≤ (l0_2.length : Int) then (if (l0_2.length : Int) ≤ (l1_2.length : Int) then ((schema_Same.f k a0_0 a0_1 l0_2 a1_0 (wrap64 (a1_1 - 1)) (l1_2.take ((l0_2.length : Int) : Int).toNat)).bind fun t228 => (some t228)) else (none)) else (none))) else (some false))) else (some false))
set_option maxHeartbeats 8000000 in
set_option maxRecDepth 100000 in
theorem schema_Fits.calls (k : Nat) (a0_0 : ByteArray) (a0_1 : Int) (A0_2 : Option Addr) (c0_2 : Nat) (l0_2 : List (SField)) (a1_0 : ByteArray) (a1_1 : Int) (A1_2 : Option Addr) (c1_2 : Nat) (l1_2 : List (SField)) (r : Bool) (w : World) (hr0_2 : Kd.C kField w A0_2 l0_2.length l0_2) (hc0_2 : l0_2.length ≤ c0_2) (hr1_2 : Kd.C kField w A1_2 l1_2.length l1_2) (hc1_2 : l1_2.length ≤ c1_2) (h : schema_Fits.f k a0_0 a0_1 l0_2 a1_0 a1_1 l1_2 = some r) :
  Calls Try.prog 36 #[.agg #[.string a0_0, .int .i64 a0_1, .slice A0_2 l0_2.length c0_2], .agg #[.string a1_0, .int .i64 a1_1, .slice A1_2 l1_2.length c1_2]] w fun e w' => e = .returned (.bool r) ∧ Below w.heap.size w w' := by
 have hu43 := Try.underlying43
 have HR0_2 := Aside0.mk hr0_2
 have HC0_2 := Aside0.mk hc0_2
 clear hr0_2 hc0_2
 have HR1_2 := Aside0.mk hr1_2
 have HC1_2 := Aside0.mk hc1_2
 clear hr1_2 hc1_2
 have HB := Aside0.mk (Below.refl w.heap.size w)
 have H : ((schema_May.f a0_0 a0_1 l0_2).bind fun t222 => (if t222 = true then ((schema_May.f a1_0 a1_1 l1_2).bind fun t223 => (if t223 = true then (if (l1_2.length : Int) < (l0_2.length : Int) then (some false) else (if 0 ≤ (l0_2.length : Int) then (if (l0_2.length : Int) ≤ (l1_2.length : Int) then ((schema_Same.f k a0_0 a0_1 l0_2 a1_0 (wrap64 (a1_1 - 1)) (l1_2.take ((l0_2.length : Int) : Int).toNat)).bind fun t228 => (some t228)) else (none)) else (none))) else (some false))) else (some false))) = some r := h
 clear h
 replace H := Option.bind_eq_some_iff.mp H
 obtain ⟨t222, A30, H⟩ := H
 replace H : (if t222 = true then ((schema_May.f a1_0 a1_1 l1_2).bind fun t223 => (if t223 = true then (if (l1_2.length : Int) < (l0_2.length : Int) then (some false) else (if 0 ≤ (l0_2.length : Int) then (if (l0_2.length : Int) ≤ (l1_2.length : Int) then ((schema_Same.f k a0_0 a0_1 l0_2 a1_0 (wrap64 (a1_1 - 1)) (l1_2.take ((l0_2.length : Int) : Int).toNat)).bind fun t228 => (some t228)) else (none)) else (none))) else (some false))) else (some false)) = some r := H
 have A3 := Aside0.mk A30
 clear A30
 by_cases c4 : t222 = true
 ·subst c4
  have H1 : ((schema_May.f a1_0 a1_1 l1_2).bind fun t223 => (if t223 = true then (if (l1_2.length : Int) < (l0_2.length : Int) then (some false) else (if 0 ≤ (l0_2.length : Int) then (if (l0_2.length : Int) ≤ (l1_2.length : Int) then ((schema_Same.f k a0_0 a0_1 l0_2 a1_0 (wrap64 (a1_1 - 1)) (l1_2.take ((l0_2.length : Int) : Int).toNat)).bind fun t228 => (some t228)) else (none)) else (none))) else (some false))) = some r := by rw [if_pos rfl] at H; exact H
  clear H
  have H := H1
  clear H1
  replace H := Option.bind_eq_some_iff.mp H
  obtain ⟨t223, A50, H⟩ := H
  replace H : (if t223 = true then (if (l1_2.length : Int) < (l0_2.length : Int) then (some false) else (if 0 ≤ (l0_2.length : Int) then (if (l0_2.length : Int) ≤ (l1_2.length : Int) then ((schema_Same.f k a0_0 a0_1 l0_2 a1_0 (wrap64 (a1_1 - 1)) (l1_2.take ((l0_2.length : Int) : Int).toNat)).bind fun t228 => (some t228)) else (none)) else (none))) else (some false)) = some r := H
  have A5 := Aside0.mk A50
  clear A50
  by_cases c6 : t223 = true
  ·subst c6
   have H1 : (if (l1_2.length : Int) < (l0_2.length : Int) then (some false) else (if 0 ≤ (l0_2.length : Int) then (if (l0_2.length : Int) ≤ (l1_2.length : Int) then ((schema_Same.f k a0_0 a0_1 l0_2 a1_0 (wrap64 (a1_1 - 1)) (l1_2.take ((l0_2.length : Int) : Int).toNat)).bind fun t228 => (some t228)) else (none)) else (none))) = some r := by rw [if_pos rfl] at H; exact H
   clear H
   have H := H1
   clear H1
   by_cases c7 : (l1_2.length : Int) < (l0_2.length : Int)
   ·rw [if_pos c7] at H
    have c7b0 : decide ((l1_2.length : Int) < (l0_2.length : Int)) = true := decide_eq_true c7
    have c7b1 : decide (l1_2.length < l0_2.length) = true := decide_eq_true (Int.ofNat_lt.mp c7)
    clear c7
    obtain rfl := Option.some.inj H
    go_enter Try.func36, Try.ntmps36
    go_wp2_with (first | ((with_reducible refine zat (N := 2) rfl ?_); (try (refine zaC (by rfl) ?_; dsimp only)); refine zar ?hg (N := 2) ?hd (cs := #[.string a0_0, .int .i64 a0_1, .slice A0_2 l0_2.length c0_2]) (t := 43) ?hr ?_; (case hd => rfl); (case hg => rfl); (case hr => first | (go_simp; done) | (go_simp; rfl)); intro gb220 hg w8 hbox hb; have n0_ := Aside0.mk (zah (by repeat (first | (with_reducible first | exact HB.out | apply zaa | apply zac | apply zae) | exact HB.out)) hb); have n1_ := Aside0.mk (hbox); have n2_ := Aside0.mk ((by rw [hg]; exact (zan (by repeat (first | (with_reducible first | exact HB.out | apply zaa | apply zac | apply zae) | exact HB.out))) : w.heap.size ≤ gb220)); have n3_ := Aside0.mk ((by rw [hg]; exact (zan (by repeat (first | (with_reducible first | exact HB.out | apply zaa | apply zac | apply zae) | exact HB.out))) : w.heap.size ≤ gb220)); clear HB; have HB := n0_; have BK220 := n1_; have GW220 := n2_; have GE220 := n3_; clear n0_ n1_ n2_ n3_; clear hb hbox hg) | ((with_reducible refine zat (N := 3) rfl ?_); (try (refine zaC (by rfl) ?_; dsimp only)); refine zar ?hg (N := 3) ?hd (cs := #[.string a1_0, .int .i64 a1_1, .slice A1_2 l1_2.length c1_2]) (t := 43) ?hr ?_; (case hd => rfl); (case hg => rfl); (case hr => first | (go_simp; done) | (go_simp; rfl)); intro gb221 hg w9 hbox hb; have n0_ := Aside0.mk (zak (g := gb220) (o := .cells #[.string a0_0, .int .i64 a0_1, .slice A0_2 l0_2.length c0_2] 43 (0, 0)) (by (with_reducible repeat (first | refine zai ?_ _ | refine zaj ?_ | refine zag ?_ _)); exact BK220.out) hb); have n1_ := Aside0.mk (zah (by repeat (first | (with_reducible first | exact HB.out | apply zaa | apply zac | apply zae | refine zaf ?_ GE220.out) | exact HB.out)) hb); have n2_ := Aside0.mk (hbox); have n3_ := Aside0.mk ((by rw [hg]; exact (zan (by repeat (first | (with_reducible first | exact HB.out | apply zaa | apply zac | apply zae | refine zaf ?_ GE220.out) | exact HB.out))) : w.heap.size ≤ gb221)); have n4_ := Aside0.mk ((by rw [hg]; exact (zan (by repeat (first | (with_reducible first | exact HB.out | apply zaa | apply zac | apply zae | refine zaf ?_ GE220.out) | exact HB.out))) : w.heap.size ≤ gb221)); have n5_ := Aside0.mk ((by rw [hg]; exact Nat.ne_of_lt (zay (g := gb220) (o := .cells #[.string a0_0, .int .i64 a0_1, .slice A0_2 l0_2.length c0_2] 43 (0, 0)) (by (with_reducible repeat (first | refine zai ?_ _ | refine zaj ?_ | refine zag ?_ _)); exact BK220.out)) : gb220 ≠ gb221)); have n6_ := Aside0.mk ((by rw [hg]; exact Nat.ne_of_gt (zay (g := gb220) (o := .cells #[.string a0_0, .int .i64 a0_1, .slice A0_2 l0_2.length c0_2] 43 (0, 0)) (by (with_reducible repeat (first | refine zai ?_ _ | refine zaj ?_ | refine zag ?_ _)); exact BK220.out)) : gb221 ≠ gb220)); clear BK220; clear HB; have BK220 := n0_; have HB := n1_; have BK221 := n2_; have GW221 := n3_; have GE221 := n4_; have NB220_221 := n5_; have NB221_220 := n6_; clear n0_ n1_ n2_ n3_ n4_ n5_ n6_; clear hb hbox hg; have hnb10 := NB220_221.out; have hnc10 := NB221_220.out; have hcz11_0 : w9.cell? ⟨gb220, 0, none⟩ = some (.string a0_0) := (zad BK220.out 0).trans rfl; have hcz11_1 : w9.cell? ⟨gb220, 1, none⟩ = some (.int .i64 a0_1) := (zad BK220.out 1).trans rfl; have hcz11_2 : w9.cell? ⟨gb220, 2, none⟩ = some (.slice A0_2 l0_2.length c0_2) := (zad BK220.out 2).trans rfl; have hfz11_0 := zab BK220.out 0; have hfz11_1 := zab BK220.out 1; have hfz11_2 := zab BK220.out 2) | ((with_reducible refine zaq (f := 33) rfl ?_); refine zav (some 6) rfl rfl Try.func33 (by kernel_rfl) rfl #[.agg #[.string a0_0, .int .i64 a0_1, .slice A0_2 l0_2.length c0_2]] rfl (by (try simp only [List.map_toArray, List.map_cons, List.map_nil]); first | done | rfl | (simp only [List.length_drop, List.length_take]; rfl)) ?_; (with_reducible refine (schema_May.calls a0_0 a0_1 _ _ l0_2 true _ ?side1 ?side2 A3.out).mono ?_); (case side1 => repeat (first | exact (Kd.C_below HR0_2.out HB.out) | (with_reducible refine Kd.C_alloc ?_ _) | (with_reducible refine Kd.C_drewN ?_ _) | (with_reducible refine Kd.C_drew ?_))); (case side2 => exact HC0_2.out); rintro e w12 ⟨rfl, hb⟩; refine ⟨_, rfl, ?_⟩; have n0_ := Aside0.mk (zak (g := gb220) (o := .cells #[.string a0_0, .int .i64 a0_1, .slice A0_2 l0_2.length c0_2] 43 (0, 0)) (by (with_reducible repeat (first | refine zai ?_ _ | refine zaj ?_ | refine zag ?_ _)); exact BK220.out) hb); have n1_ := Aside0.mk (zak (g := gb221) (o := .cells #[.string a1_0, .int .i64 a1_1, .slice A1_2 l1_2.length c1_2] 43 (0, 0)) (by (with_reducible repeat (first | refine zai ?_ _ | refine zaj ?_ | refine zag ?_ _)); exact BK221.out) hb); have n2_ := Aside0.mk (zah (by repeat (first | (with_reducible first | exact HB.out | apply zaa | apply zac | apply zae | refine zaf ?_ GE220.out | refine zaf ?_ GE221.out) | exact HB.out)) hb); clear BK220; clear BK221; clear HB; have BK220 := n0_; have BK221 := n1_; have HB := n2_; clear n0_ n1_ n2_; (try clear hb); (try clear hb2); (try clear hk); (try clear hi); have hcz13_0 : w12.cell? ⟨gb221, 0, none⟩ = some (.string a1_0) := (zad BK221.out 0).trans rfl; have hcz13_1 : w12.cell? ⟨gb221, 1, none⟩ = some (.int .i64 a1_1) := (zad BK221.out 1).trans rfl; have hcz13_2 : w12.cell? ⟨gb221, 2, none⟩ = some (.slice A1_2 l1_2.length c1_2) := (zad BK221.out 2).trans rfl; have hfz13_0 := zab BK221.out 0; have hfz13_1 := zab BK221.out 1; have hfz13_2 := zab BK221.out 2) | (go_at_call 33; (with_reducible refine (schema_May.calls a1_0 a1_1 _ _ l1_2 true _ ?side1 ?side2 A5.out).mono ?_); (case side1 => repeat (first | exact (Kd.C_below HR1_2.out HB.out) | (with_reducible refine Kd.C_alloc ?_ _) | (with_reducible refine Kd.C_drewN ?_ _) | (with_reducible refine Kd.C_drew ?_))); (case side2 => exact HC1_2.out); rintro e w14 ⟨rfl, hb⟩; have n0_ := Aside0.mk (zak (g := gb220) (o := .cells #[.string a0_0, .int .i64 a0_1, .slice A0_2 l0_2.length c0_2] 43 (0, 0)) (by (with_reducible repeat (first | refine zai ?_ _ | refine zaj ?_ | refine zag ?_ _)); exact BK220.out) hb); have n1_ := Aside0.mk (zak (g := gb221) (o := .cells #[.string a1_0, .int .i64 a1_1, .slice A1_2 l1_2.length c1_2] 43 (0, 0)) (by (with_reducible repeat (first | refine zai ?_ _ | refine zaj ?_ | refine zag ?_ _)); exact BK221.out) hb); have n2_ := Aside0.mk (zah (by repeat (first | (with_reducible first | exact HB.out | apply zaa | apply zac | apply zae | refine zaf ?_ GE220.out | refine zaf ?_ GE221.out) | exact HB.out)) hb); clear BK220; clear BK221; clear HB; have BK220 := n0_; have BK221 := n1_; have HB := n2_; clear n0_ n1_ n2_; (try clear hb); (try clear hb2); (try clear hk); (try clear hi); have hcz15_0 : w14.cell? ⟨gb221, 0, none⟩ = some (.string a1_0) := (zad BK221.out 0).trans rfl; have hcz15_1 : w14.cell? ⟨gb221, 1, none⟩ = some (.int .i64 a1_1) := (zad BK221.out 1).trans rfl; have hcz15_2 : w14.cell? ⟨gb221, 2, none⟩ = some (.slice A1_2 l1_2.length c1_2) := (zad BK221.out 2).trans rfl; have hfz15_0 := zab BK221.out 0; have hfz15_1 := zab BK221.out 1; have hfz15_2 := zab BK221.out 2; have hcz16_0 : w14.cell? ⟨gb220, 0, none⟩ = some (.string a0_0) := (zad BK220.out 0).trans rfl; have hcz16_1 : w14.cell? ⟨gb220, 1, none⟩ = some (.int .i64 a0_1) := (zad BK220.out 1).trans rfl; have hcz16_2 : w14.cell? ⟨gb220, 2, none⟩ = some (.slice A0_2 l0_2.length c0_2) := (zad BK220.out 2).trans rfl; have hfz16_0 := zab BK220.out 0; have hfz16_1 := zab BK220.out 1; have hfz16_2 := zab BK220.out 2))
    go_ret
    exact ⟨by first | rfl | (simp [zap, zao] <;> rfl) | (simp [*, zap, zao] <;> rfl), by repeat (first | (with_reducible first | exact HB.out | apply zaa | apply zac | apply zae | refine zaf ?_ GE220.out | refine zaf ?_ GE221.out) | exact HB.out)⟩
   ·rw [if_neg c7] at H
    have c7b0 : decide ((l1_2.length : Int) < (l0_2.length : Int)) = false := decide_eq_false c7
    have c7b1 : decide (l1_2.length < l0_2.length) = false := decide_eq_false (fun h => c7 (Int.ofNat_lt.mpr h))
    clear c7
    by_cases c17 : 0 ≤ (l0_2.length : Int)
    ·rw [if_pos c17] at H
     have c17b0 := eq_true c17
     have c17b1 : decide (0 ≤ (l0_2.length : Int)) = true := decide_eq_true c17
     clear c17
     by_cases c18 : (l0_2.length : Int) ≤ (l1_2.length : Int)
     ·rw [if_pos c18] at H
      have c18b0 := eq_true c18
      have c18b1 : decide ((l0_2.length : Int) ≤ (l1_2.length : Int)) = true := decide_eq_true c18
      clear c18
      obtain ⟨y224, hy224⟩ : ∃ y_ : List (SField), y_ = (l1_2.take ((l0_2.length : Int) : Int).toNat) := ⟨_, rfl⟩
      replace H : ((schema_Same.f k a0_0 a0_1 l0_2 a1_0 (wrap64 (a1_1 - 1)) y224).bind fun t228 => (some t228)) = some r := by first | (rw [hy224]; with_reducible exact H) | (have H2_ := (Option.bind_some _ _).symm.trans H; rw [hy224]; with_reducible exact H2_) | (have H2_ := (Option.bind_some _ _).symm.trans H; with_reducible exact H2_) | with_reducible exact H | (rw [hy224]; exact H) | exact H
      have Ny224 := Aside0.mk hy224
      clear hy224
      replace H := Option.bind_eq_some_iff.mp H
      obtain ⟨t228, A190, H⟩ := H
      replace H : (some t228) = some r := H
      have A19 := Aside0.mk A190
      clear A190
      obtain rfl := Option.some.inj H
      go_enter Try.func36, Try.ntmps36
      go_wp2_with (first | ((with_reducible refine zat (N := 2) rfl ?_); (try (refine zaC (by rfl) ?_; dsimp only)); refine zar ?hg (N := 2) ?hd (cs := #[.string a0_0, .int .i64 a0_1, .slice A0_2 l0_2.length c0_2]) (t := 43) ?hr ?_; (case hd => rfl); (case hg => rfl); (case hr => first | (go_simp; done) | (go_simp; rfl)); intro gb220 hg w20 hbox hb; have n0_ := Aside0.mk (zah (by repeat (first | (with_reducible first | exact HB.out | apply zaa | apply zac | apply zae) | exact HB.out)) hb); have n1_ := Aside0.mk (hbox); have n2_ := Aside0.mk ((by rw [hg]; exact (zan (by repeat (first | (with_reducible first | exact HB.out | apply zaa | apply zac | apply zae) | exact HB.out))) : w.heap.size ≤ gb220)); have n3_ := Aside0.mk ((by rw [hg]; exact (zan (by repeat (first | (with_reducible first | exact HB.out | apply zaa | apply zac | apply zae) | exact HB.out))) : w.heap.size ≤ gb220)); clear HB; have HB := n0_; have BK220 := n1_; have GW220 := n2_; have GE220 := n3_; clear n0_ n1_ n2_ n3_; clear hb hbox hg) | ((with_reducible refine zat (N := 3) rfl ?_); (try (refine zaC (by rfl) ?_; dsimp only)); refine zar ?hg (N := 3) ?hd (cs := #[.string a1_0, .int .i64 a1_1, .slice A1_2 l1_2.length c1_2]) (t := 43) ?hr ?_; (case hd => rfl); (case hg => rfl); (case hr => first | (go_simp; done) | (go_simp; rfl)); intro gb221 hg w21 hbox hb; have n0_ := Aside0.mk (zak (g := gb220) (o := .cells #[.string a0_0, .int .i64 a0_1, .slice A0_2 l0_2.length c0_2] 43 (0, 0)) (by (with_reducible repeat (first | refine zai ?_ _ | refine zaj ?_ | refine zag ?_ _)); exact BK220.out) hb); have n1_ := Aside0.mk (zah (by repeat (first | (with_reducible first | exact HB.out | apply zaa | apply zac | apply zae | refine zaf ?_ GE220.out) | exact HB.out)) hb); have n2_ := Aside0.mk (hbox); have n3_ := Aside0.mk ((by rw [hg]; exact (zan (by repeat (first | (with_reducible first | exact HB.out | apply zaa | apply zac | apply zae | refine zaf ?_ GE220.out) | exact HB.out))) : w.heap.size ≤ gb221)); have n4_ := Aside0.mk ((by rw [hg]; exact (zan (by repeat (first | (with_reducible first | exact HB.out | apply zaa | apply zac | apply zae | refine zaf ?_ GE220.out) | exact HB.out))) : w.heap.size ≤ gb221)); have n5_ := Aside0.mk ((by rw [hg]; exact Nat.ne_of_lt (zay (g := gb220) (o := .cells #[.string a0_0, .int .i64 a0_1, .slice A0_2 l0_2.length c0_2] 43 (0, 0)) (by (with_reducible repeat (first | refine zai ?_ _ | refine zaj ?_ | refine zag ?_ _)); exact BK220.out)) : gb220 ≠ gb221)); have n6_ := Aside0.mk ((by rw [hg]; exact Nat.ne_of_gt (zay (g := gb220) (o := .cells #[.string a0_0, .int .i64 a0_1, .slice A0_2 l0_2.length c0_2] 43 (0, 0)) (by (with_reducible repeat (first | refine zai ?_ _ | refine zaj ?_ | refine zag ?_ _)); exact BK220.out)) : gb221 ≠ gb220)); clear BK220; clear HB; have BK220 := n0_; have HB := n1_; have BK221 := n2_; have GW221 := n3_; have GE221 := n4_; have NB220_221 := n5_; have NB221_220 := n6_; clear n0_ n1_ n2_ n3_ n4_ n5_ n6_; clear hb hbox hg; have hnb22 := NB220_221.out; have hnc22 := NB221_220.out; have hcz23_0 : w21.cell? ⟨gb220, 0, none⟩ = some (.string a0_0) := (zad BK220.out 0).trans rfl; have hcz23_1 : w21.cell? ⟨gb220, 1, none⟩ = some (.int .i64 a0_1) := (zad BK220.out 1).trans rfl; have hcz23_2 : w21.cell? ⟨gb220, 2, none⟩ = some (.slice A0_2 l0_2.length c0_2) := (zad BK220.out 2).trans rfl; have hfz23_0 := zab BK220.out 0; have hfz23_1 := zab BK220.out 1; have hfz23_2 := zab BK220.out 2) | ((with_reducible refine zaq (f := 33) rfl ?_); refine zav (some 6) rfl rfl Try.func33 (by kernel_rfl) rfl #[.agg #[.string a0_0, .int .i64 a0_1, .slice A0_2 l0_2.length c0_2]] rfl (by (try simp only [List.map_toArray, List.map_cons, List.map_nil]); first | done | rfl | (simp only [List.length_drop, List.length_take]; rfl)) ?_; (with_reducible refine (schema_May.calls a0_0 a0_1 _ _ l0_2 true _ ?side1 ?side2 A3.out).mono ?_); (case side1 => repeat (first | exact (Kd.C_below HR0_2.out HB.out) | (with_reducible refine Kd.C_alloc ?_ _) | (with_reducible refine Kd.C_drewN ?_ _) | (with_reducible refine Kd.C_drew ?_))); (case side2 => exact HC0_2.out); rintro e w24 ⟨rfl, hb⟩; refine ⟨_, rfl, ?_⟩; have n0_ := Aside0.mk (zak (g := gb220) (o := .cells #[.string a0_0, .int .i64 a0_1, .slice A0_2 l0_2.length c0_2] 43 (0, 0)) (by (with_reducible repeat (first | refine zai ?_ _ | refine zaj ?_ | refine zag ?_ _)); exact BK220.out) hb); have n1_ := Aside0.mk (zak (g := gb221) (o := .cells #[.string a1_0, .int .i64 a1_1, .slice A1_2 l1_2.length c1_2] 43 (0, 0)) (by (with_reducible repeat (first | refine zai ?_ _ | refine zaj ?_ | refine zag ?_ _)); exact BK221.out) hb); have n2_ := Aside0.mk (zah (by repeat (first | (with_reducible first | exact HB.out | apply zaa | apply zac | apply zae | refine zaf ?_ GE220.out | refine zaf ?_ GE221.out) | exact HB.out)) hb); clear BK220; clear BK221; clear HB; have BK220 := n0_; have BK221 := n1_; have HB := n2_; clear n0_ n1_ n2_; (try clear hb); (try clear hb2); (try clear hk); (try clear hi); have hcz25_0 : w24.cell? ⟨gb221, 0, none⟩ = some (.string a1_0) := (zad BK221.out 0).trans rfl; have hcz25_1 : w24.cell? ⟨gb221, 1, none⟩ = some (.int .i64 a1_1) := (zad BK221.out 1).trans rfl; have hcz25_2 : w24.cell? ⟨gb221, 2, none⟩ = some (.slice A1_2 l1_2.length c1_2) := (zad BK221.out 2).trans rfl; have hfz25_0 := zab BK221.out 0; have hfz25_1 := zab BK221.out 1; have hfz25_2 := zab BK221.out 2) | (go_at_call 33; (with_reducible refine (schema_May.calls a1_0 a1_1 _ _ l1_2 true _ ?side1 ?side2 A5.out).mono ?_); (case side1 => repeat (first | exact (Kd.C_below HR1_2.out HB.out) | (with_reducible refine Kd.C_alloc ?_ _) | (with_reducible refine Kd.C_drewN ?_ _) | (with_reducible refine Kd.C_drew ?_))); (case side2 => exact HC1_2.out); rintro e w26 ⟨rfl, hb⟩; have n0_ := Aside0.mk (zak (g := gb220) (o := .cells #[.string a0_0, .int .i64 a0_1, .slice A0_2 l0_2.length c0_2] 43 (0, 0)) (by (with_reducible repeat (first | refine zai ?_ _ | refine zaj ?_ | refine zag ?_ _)); exact BK220.out) hb); have n1_ := Aside0.mk (zak (g := gb221) (o := .cells #[.string a1_0, .int .i64 a1_1, .slice A1_2 l1_2.length c1_2] 43 (0, 0)) (by (with_reducible repeat (first | refine zai ?_ _ | refine zaj ?_ | refine zag ?_ _)); exact BK221.out) hb); have n2_ := Aside0.mk (zah (by repeat (first | (with_reducible first | exact HB.out | apply zaa | apply zac | apply zae | refine zaf ?_ GE220.out | refine zaf ?_ GE221.out) | exact HB.out)) hb); clear BK220; clear BK221; clear HB; have BK220 := n0_; have BK221 := n1_; have HB := n2_; clear n0_ n1_ n2_; (try clear hb); (try clear hb2); (try clear hk); (try clear hi); have hcz27_0 : w26.cell? ⟨gb221, 0, none⟩ = some (.string a1_0) := (zad BK221.out 0).trans rfl; have hcz27_1 : w26.cell? ⟨gb221, 1, none⟩ = some (.int .i64 a1_1) := (zad BK221.out 1).trans rfl; have hcz27_2 : w26.cell? ⟨gb221, 2, none⟩ = some (.slice A1_2 l1_2.length c1_2) := (zad BK221.out 2).trans rfl; have hfz27_0 := zab BK221.out 0; have hfz27_1 := zab BK221.out 1; have hfz27_2 := zab BK221.out 2; have hcz28_0 : w26.cell? ⟨gb220, 0, none⟩ = some (.string a0_0) := (zad BK220.out 0).trans rfl; have hcz28_1 : w26.cell? ⟨gb220, 1, none⟩ = some (.int .i64 a0_1) := (zad BK220.out 1).trans rfl; have hcz28_2 : w26.cell? ⟨gb220, 2, none⟩ = some (.slice A0_2 l0_2.length c0_2) := (zad BK220.out 2).trans rfl; have hfz28_0 := zab BK220.out 0; have hfz28_1 := zab BK220.out 1; have hfz28_2 := zab BK220.out 2; have q29 : ((l0_2.length : Int) : Int) ≤ ((l1_2.length : Int) : Int) := of_decide_eq_true (by first | (with_reducible assumption) | assumption); obtain ⟨i029, hi029, _, hsz29, _⟩ := info_parts infoField; have hroom29 : l1_2.length ≤ c1_2 := HC1_2.out; have hC29 : Kd.C kField _ A1_2 l1_2.length l1_2 := HR1_2.out; have hcut29 := cut_to (P := Try.prog) 41 67 .i64 Try.underlying41 hi029 A1_2 l1_2.length c1_2 (l0_2.length : Int) (of_decide_eq_true (by first | (with_reducible assumption) | assumption)) q29 hroom29; have hr29 := Kd.C_take (m := ((l0_2.length : Int) : Int).toNat) hC29 (by omega); have hy29 : y224.length = ((l0_2.length : Int) : Int).toNat := (by rw [Ny224.out, List.length_take]; omega); rw [← Ny224.out] at hr29; rw [← hy29] at hcut29; have HR227 := Aside0.mk hr29; have HC227 := Aside0.mk (show y224.length ≤ c1_2 from by omega); clear hr29 hC29 hroom29 hi029 hsz29; have KY29 := Aside0.mk hy29; clear hy29; replace q29 := eq_true q29) | ((with_reducible refine zaq (f := 35) rfl ?_); refine zav (some 35) rfl rfl Try.func35 (by kernel_rfl) rfl #[.agg #[.string a0_0, .int .i64 a0_1, .slice A0_2 l0_2.length c0_2], .agg #[.string a1_0, .int .i64 (wrap64 (a1_1 - 1)), .slice A1_2 y224.length c1_2]] rfl (by (try simp only [List.map_toArray, List.map_cons, List.map_nil]); first | done | rfl | (simp only [List.length_drop, List.length_take]; rfl)) ?_; (with_reducible refine (schema_Same.calls k a0_0 a0_1 _ _ l0_2 a1_0 (wrap64 (a1_1 - 1)) _ _ y224 t228 _ ?side1 ?side2 ?side3 ?side4 A19.out).mono ?_); (case side1 => exact Kd.C_below HR0_2.out (by repeat (first | (with_reducible first | exact HB.out | apply zaa | apply zac | apply zae | refine zaf ?_ GE220.out | refine zaf ?_ GE221.out) | exact HB.out))); (case side2 => exact HC0_2.out); (case side3 => exact Kd.C_below HR227.out (by repeat (first | (with_reducible first | exact HB.out | apply zaa | apply zac | apply zae | refine zaf ?_ GE220.out | refine zaf ?_ GE221.out) | exact HB.out))); (case side4 => exact HC227.out); rintro e w30 ⟨rfl, hb⟩; refine ⟨_, rfl, ?_⟩; have n0_ := Aside0.mk (zak (g := gb220) (o := .cells #[.string a0_0, .int .i64 a0_1, .slice A0_2 l0_2.length c0_2] 43 (0, 0)) (by (with_reducible repeat (first | refine zai ?_ _ | refine zaj ?_ | refine zag ?_ _)); refine zaM ?_ NB220_221.out _; (with_reducible repeat (first | refine zai ?_ _ | refine zaj ?_ | refine zag ?_ _)); refine zaM ?_ NB220_221.out _; (with_reducible repeat (first | refine zai ?_ _ | refine zaj ?_ | refine zag ?_ _)); exact BK220.out) hb); have n1_ := Aside0.mk (zak (g := gb221) (o := .cells #[.string a1_0, .int .i64 (wrap64 (a1_1 - 1)), .slice A1_2 y224.length c1_2] 43 (0, 0)) (by (with_reducible repeat (first | refine zai ?_ _ | refine zaj ?_ | refine zag ?_ _)); refine zas (cs := #[.string a1_0, .int .i64 a1_1, .slice A1_2 y224.length c1_2]) ?_ 1 _ rfl; (with_reducible repeat (first | refine zai ?_ _ | refine zaj ?_ | refine zag ?_ _)); refine zas (cs := #[.string a1_0, .int .i64 a1_1, .slice A1_2 l1_2.length c1_2]) ?_ 2 _ rfl; (with_reducible repeat (first | refine zai ?_ _ | refine zaj ?_ | refine zag ?_ _)); exact BK221.out) hb); have n2_ := Aside0.mk (zah (by repeat (first | (with_reducible first | exact HB.out | apply zaa | apply zac | apply zae | refine zaf ?_ GE220.out | refine zaf ?_ GE221.out) | exact HB.out)) hb); clear BK220; clear BK221; clear HB; have BK220 := n0_; have BK221 := n1_; have HB := n2_; clear n0_ n1_ n2_; (try clear hb); (try clear hb2); (try clear hk); (try clear hi)))
      go_ret
      exact ⟨by first | rfl | (simp [zap, zao] <;> rfl) | (simp [*, zap, zao] <;> rfl), by repeat (first | (with_reducible first | exact HB.out | apply zaa | apply zac | apply zae | refine zaf ?_ GE220.out | refine zaf ?_ GE221.out) | exact HB.out)⟩
     ·rw [if_neg c18] at H
      exact absurd H (by simp)
    ·rw [if_neg c17] at H
     exact absurd H (by simp)
  ·replace c6 := Bool.eq_false_iff.mpr c6
   subst c6
   have H1 : (some false) = some r := by rw [if_neg (show ¬ (false = true) by decide)] at H; exact H
   clear H
   have H := H1
   clear H1
   obtain rfl := Option.some.inj H
   go_enter Try.func36, Try.ntmps36
   go_wp2_with (first | ((with_reducible refine zat (N := 2) rfl ?_); (try (refine zaC (by rfl) ?_; dsimp only)); refine zar ?hg (N := 2) ?hd (cs := #[.string a0_0, .int .i64 a0_1, .slice A0_2 l0_2.length c0_2]) (t := 43) ?hr ?_; (case hd => rfl); (case hg => rfl); (case hr => first | (go_simp; done) | (go_simp; rfl)); intro gb220 hg w31 hbox hb; have n0_ := Aside0.mk (zah (by repeat (first | (with_reducible first | exact HB.out | apply zaa | apply zac | apply zae) | exact HB.out)) hb); have n1_ := Aside0.mk (hbox); have n2_ := Aside0.mk ((by rw [hg]; exact (zan (by repeat (first | (with_reducible first | exact HB.out | apply zaa | apply zac | apply zae) | exact HB.out))) : w.heap.size ≤ gb220)); have n3_ := Aside0.mk ((by rw [hg]; exact (zan (by repeat (first | (with_reducible first | exact HB.out | apply zaa | apply zac | apply zae) | exact HB.out))) : w.heap.size ≤ gb220)); clear HB; have HB := n0_; have BK220 := n1_; have GW220 := n2_; have GE220 := n3_; clear n0_ n1_ n2_ n3_; clear hb hbox hg) | ((with_reducible refine zat (N := 3) rfl ?_); (try (refine zaC (by rfl) ?_; dsimp only)); refine zar ?hg (N := 3) ?hd (cs := #[.string a1_0, .int .i64 a1_1, .slice A1_2 l1_2.length c1_2]) (t := 43) ?hr ?_; (case hd => rfl); (case hg => rfl); (case hr => first | (go_simp; done) | (go_simp; rfl)); intro gb221 hg w32 hbox hb; have n0_ := Aside0.mk (zak (g := gb220) (o := .cells #[.string a0_0, .int .i64 a0_1, .slice A0_2 l0_2.length c0_2] 43 (0, 0)) (by (with_reducible repeat (first | refine zai ?_ _ | refine zaj ?_ | refine zag ?_ _)); exact BK220.out) hb); have n1_ := Aside0.mk (zah (by repeat (first | (with_reducible first | exact HB.out | apply zaa | apply zac | apply zae | refine zaf ?_ GE220.out) | exact HB.out)) hb); have n2_ := Aside0.mk (hbox); have n3_ := Aside0.mk ((by rw [hg]; exact (zan (by repeat (first | (with_reducible first | exact HB.out | apply zaa | apply zac | apply zae | refine zaf ?_ GE220.out) | exact HB.out))) : w.heap.size ≤ gb221)); have n4_ := Aside0.mk ((by rw [hg]; exact (zan (by repeat (first | (with_reducible first | exact HB.out | apply zaa | apply zac | apply zae | refine zaf ?_ GE220.out) | exact HB.out))) : w.heap.size ≤ gb221)); have n5_ := Aside0.mk ((by rw [hg]; exact Nat.ne_of_lt (zay (g := gb220) (o := .cells #[.string a0_0, .int .i64 a0_1, .slice A0_2 l0_2.length c0_2] 43 (0, 0)) (by (with_reducible repeat (first | refine zai ?_ _ | refine zaj ?_ | refine zag ?_ _)); exact BK220.out)) : gb220 ≠ gb221)); have n6_ := Aside0.mk ((by rw [hg]; exact Nat.ne_of_gt (zay (g := gb220) (o := .cells #[.string a0_0, .int .i64 a0_1, .slice A0_2 l0_2.length c0_2] 43 (0, 0)) (by (with_reducible repeat (first | refine zai ?_ _ | refine zaj ?_ | refine zag ?_ _)); exact BK220.out)) : gb221 ≠ gb220)); clear BK220; clear HB; have BK220 := n0_; have HB := n1_; have BK221 := n2_; have GW221 := n3_; have GE221 := n4_; have NB220_221 := n5_; have NB221_220 := n6_; clear n0_ n1_ n2_ n3_ n4_ n5_ n6_; clear hb hbox hg; have hnb33 := NB220_221.out; have hnc33 := NB221_220.out; have hcz34_0 : w32.cell? ⟨gb220, 0, none⟩ = some (.string a0_0) := (zad BK220.out 0).trans rfl; have hcz34_1 : w32.cell? ⟨gb220, 1, none⟩ = some (.int .i64 a0_1) := (zad BK220.out 1).trans rfl; have hcz34_2 : w32.cell? ⟨gb220, 2, none⟩ = some (.slice A0_2 l0_2.length c0_2) := (zad BK220.out 2).trans rfl; have hfz34_0 := zab BK220.out 0; have hfz34_1 := zab BK220.out 1; have hfz34_2 := zab BK220.out 2) | ((with_reducible refine zaq (f := 33) rfl ?_); refine zav (some 6) rfl rfl Try.func33 (by kernel_rfl) rfl #[.agg #[.string a0_0, .int .i64 a0_1, .slice A0_2 l0_2.length c0_2]] rfl (by (try simp only [List.map_toArray, List.map_cons, List.map_nil]); first | done | rfl | (simp only [List.length_drop, List.length_take]; rfl)) ?_; (with_reducible refine (schema_May.calls a0_0 a0_1 _ _ l0_2 true _ ?side1 ?side2 A3.out).mono ?_); (case side1 => repeat (first | exact (Kd.C_below HR0_2.out HB.out) | (with_reducible refine Kd.C_alloc ?_ _) | (with_reducible refine Kd.C_drewN ?_ _) | (with_reducible refine Kd.C_drew ?_))); (case side2 => exact HC0_2.out); rintro e w35 ⟨rfl, hb⟩; refine ⟨_, rfl, ?_⟩; have n0_ := Aside0.mk (zak (g := gb220) (o := .cells #[.string a0_0, .int .i64 a0_1, .slice A0_2 l0_2.length c0_2] 43 (0, 0)) (by (with_reducible repeat (first | refine zai ?_ _ | refine zaj ?_ | refine zag ?_ _)); exact BK220.out) hb); have n1_ := Aside0.mk (zak (g := gb221) (o := .cells #[.string a1_0, .int .i64 a1_1, .slice A1_2 l1_2.length c1_2] 43 (0, 0)) (by (with_reducible repeat (first | refine zai ?_ _ | refine zaj ?_ | refine zag ?_ _)); exact BK221.out) hb); have n2_ := Aside0.mk (zah (by repeat (first | (with_reducible first | exact HB.out | apply zaa | apply zac | apply zae | refine zaf ?_ GE220.out | refine zaf ?_ GE221.out) | exact HB.out)) hb); clear BK220; clear BK221; clear HB; have BK220 := n0_; have BK221 := n1_; have HB := n2_; clear n0_ n1_ n2_; (try clear hb); (try clear hb2); (try clear hk); (try clear hi); have hcz36_0 : w35.cell? ⟨gb221, 0, none⟩ = some (.string a1_0) := (zad BK221.out 0).trans rfl; have hcz36_1 : w35.cell? ⟨gb221, 1, none⟩ = some (.int .i64 a1_1) := (zad BK221.out 1).trans rfl; have hcz36_2 : w35.cell? ⟨gb221, 2, none⟩ = some (.slice A1_2 l1_2.length c1_2) := (zad BK221.out 2).trans rfl; have hfz36_0 := zab BK221.out 0; have hfz36_1 := zab BK221.out 1; have hfz36_2 := zab BK221.out 2) | (go_at_call 33; (with_reducible refine (schema_May.calls a1_0 a1_1 _ _ l1_2 false _ ?side1 ?side2 A5.out).mono ?_); (case side1 => repeat (first | exact (Kd.C_below HR1_2.out HB.out) | (with_reducible refine Kd.C_alloc ?_ _) | (with_reducible refine Kd.C_drewN ?_ _) | (with_reducible refine Kd.C_drew ?_))); (case side2 => exact HC1_2.out); rintro e w37 ⟨rfl, hb⟩; have n0_ := Aside0.mk (zak (g := gb220) (o := .cells #[.string a0_0, .int .i64 a0_1, .slice A0_2 l0_2.length c0_2] 43 (0, 0)) (by (with_reducible repeat (first | refine zai ?_ _ | refine zaj ?_ | refine zag ?_ _)); exact BK220.out) hb); have n1_ := Aside0.mk (zak (g := gb221) (o := .cells #[.string a1_0, .int .i64 a1_1, .slice A1_2 l1_2.length c1_2] 43 (0, 0)) (by (with_reducible repeat (first | refine zai ?_ _ | refine zaj ?_ | refine zag ?_ _)); exact BK221.out) hb); have n2_ := Aside0.mk (zah (by repeat (first | (with_reducible first | exact HB.out | apply zaa | apply zac | apply zae | refine zaf ?_ GE220.out | refine zaf ?_ GE221.out) | exact HB.out)) hb); clear BK220; clear BK221; clear HB; have BK220 := n0_; have BK221 := n1_; have HB := n2_; clear n0_ n1_ n2_; (try clear hb); (try clear hb2); (try clear hk); (try clear hi)))
   go_ret
   exact ⟨by first | rfl | (simp [zap, zao] <;> rfl) | (simp [*, zap, zao] <;> rfl), by repeat (first | (with_reducible first | exact HB.out | apply zaa | apply zac | apply zae | refine zaf ?_ GE220.out | refine zaf ?_ GE221.out) | exact HB.out)⟩
 ·replace c4 := Bool.eq_false_iff.mpr c4
  subst c4
  have H1 : (some false) = some r := by rw [if_neg (show ¬ (false = true) by decide)] at H; exact H
  clear H
  have H := H1
  clear H1
  obtain rfl := Option.some.inj H
  go_enter Try.func36, Try.ntmps36
  go_wp2_with (first | ((with_reducible refine zat (N := 2) rfl ?_); (try (refine zaC (by rfl) ?_; dsimp only)); refine zar ?hg (N := 2) ?hd (cs := #[.string a0_0, .int .i64 a0_1, .slice A0_2 l0_2.length c0_2]) (t := 43) ?hr ?_; (case hd => rfl); (case hg => rfl); (case hr => first | (go_simp; done) | (go_simp; rfl)); intro gb220 hg w38 hbox hb; have n0_ := Aside0.mk (zah (by repeat (first | (with_reducible first | exact HB.out | apply zaa | apply zac | apply zae) | exact HB.out)) hb); have n1_ := Aside0.mk (hbox); have n2_ := Aside0.mk ((by rw [hg]; exact (zan (by repeat (first | (with_reducible first | exact HB.out | apply zaa | apply zac | apply zae) | exact HB.out))) : w.heap.size ≤ gb220)); have n3_ := Aside0.mk ((by rw [hg]; exact (zan (by repeat (first | (with_reducible first | exact HB.out | apply zaa | apply zac | apply zae) | exact HB.out))) : w.heap.size ≤ gb220)); clear HB; have HB := n0_; have BK220 := n1_; have GW220 := n2_; have GE220 := n3_; clear n0_ n1_ n2_ n3_; clear hb hbox hg) | ((with_reducible refine zat (N := 3) rfl ?_); (try (refine zaC (by rfl) ?_; dsimp only)); refine zar ?hg (N := 3) ?hd (cs := #[.string a1_0, .int .i64 a1_1, .slice A1_2 l1_2.length c1_2]) (t := 43) ?hr ?_; (case hd => rfl); (case hg => rfl); (case hr => first | (go_simp; done) | (go_simp; rfl)); intro gb221 hg w39 hbox hb; have n0_ := Aside0.mk (zak (g := gb220) (o := .cells #[.string a0_0, .int .i64 a0_1, .slice A0_2 l0_2.length c0_2] 43 (0, 0)) (by (with_reducible repeat (first | refine zai ?_ _ | refine zaj ?_ | refine zag ?_ _)); exact BK220.out) hb); have n1_ := Aside0.mk (zah (by repeat (first | (with_reducible first | exact HB.out | apply zaa | apply zac | apply zae | refine zaf ?_ GE220.out) | exact HB.out)) hb); have n2_ := Aside0.mk (hbox); have n3_ := Aside0.mk ((by rw [hg]; exact (zan (by repeat (first | (with_reducible first | exact HB.out | apply zaa | apply zac | apply zae | refine zaf ?_ GE220.out) | exact HB.out))) : w.heap.size ≤ gb221)); have n4_ := Aside0.mk ((by rw [hg]; exact (zan (by repeat (first | (with_reducible first | exact HB.out | apply zaa | apply zac | apply zae | refine zaf ?_ GE220.out) | exact HB.out))) : w.heap.size ≤ gb221)); have n5_ := Aside0.mk ((by rw [hg]; exact Nat.ne_of_lt (zay (g := gb220) (o := .cells #[.string a0_0, .int .i64 a0_1, .slice A0_2 l0_2.length c0_2] 43 (0, 0)) (by (with_reducible repeat (first | refine zai ?_ _ | refine zaj ?_ | refine zag ?_ _)); exact BK220.out)) : gb220 ≠ gb221)); have n6_ := Aside0.mk ((by rw [hg]; exact Nat.ne_of_gt (zay (g := gb220) (o := .cells #[.string a0_0, .int .i64 a0_1, .slice A0_2 l0_2.length c0_2] 43 (0, 0)) (by (with_reducible repeat (first | refine zai ?_ _ | refine zaj ?_ | refine zag ?_ _)); exact BK220.out)) : gb221 ≠ gb220)); clear BK220; clear HB; have BK220 := n0_; have HB := n1_; have BK221 := n2_; have GW221 := n3_; have GE221 := n4_; have NB220_221 := n5_; have NB221_220 := n6_; clear n0_ n1_ n2_ n3_ n4_ n5_ n6_; clear hb hbox hg; have hnb40 := NB220_221.out; have hnc40 := NB221_220.out; have hcz41_0 : w39.cell? ⟨gb220, 0, none⟩ = some (.string a0_0) := (zad BK220.out 0).trans rfl; have hcz41_1 : w39.cell? ⟨gb220, 1, none⟩ = some (.int .i64 a0_1) := (zad BK220.out 1).trans rfl; have hcz41_2 : w39.cell? ⟨gb220, 2, none⟩ = some (.slice A0_2 l0_2.length c0_2) := (zad BK220.out 2).trans rfl; have hfz41_0 := zab BK220.out 0; have hfz41_1 := zab BK220.out 1; have hfz41_2 := zab BK220.out 2) | ((with_reducible refine zaq (f := 33) rfl ?_); refine zav (some 6) rfl rfl Try.func33 (by kernel_rfl) rfl #[.agg #[.string a0_0, .int .i64 a0_1, .slice A0_2 l0_2.length c0_2]] rfl (by (try simp only [List.map_toArray, List.map_cons, List.map_nil]); first | done | rfl | (simp only [List.length_drop, List.length_take]; rfl)) ?_; (with_reducible refine (schema_May.calls a0_0 a0_1 _ _ l0_2 false _ ?side1 ?side2 A3.out).mono ?_); (case side1 => repeat (first | exact (Kd.C_below HR0_2.out HB.out) | (with_reducible refine Kd.C_alloc ?_ _) | (with_reducible refine Kd.C_drewN ?_ _) | (with_reducible refine Kd.C_drew ?_))); (case side2 => exact HC0_2.out); rintro e w42 ⟨rfl, hb⟩; refine ⟨_, rfl, ?_⟩; have n0_ := Aside0.mk (zak (g := gb220) (o := .cells #[.string a0_0, .int .i64 a0_1, .slice A0_2 l0_2.length c0_2] 43 (0, 0)) (by (with_reducible repeat (first | refine zai ?_ _ | refine zaj ?_ | refine zag ?_ _)); exact BK220.out) hb); have n1_ := Aside0.mk (zak (g := gb221) (o := .cells #[.string a1_0, .int .i64 a1_1, .slice A1_2 l1_2.length c1_2] 43 (0, 0)) (by (with_reducible repeat (first | refine zai ?_ _ | refine zaj ?_ | refine zag ?_ _)); exact BK221.out) hb); have n2_ := Aside0.mk (zah (by repeat (first | (with_reducible first | exact HB.out | apply zaa | apply zac | apply zae | refine zaf ?_ GE220.out | refine zaf ?_ GE221.out) | exact HB.out)) hb); clear BK220; clear BK221; clear HB; have BK220 := n0_; have BK221 := n1_; have HB := n2_; clear n0_ n1_ n2_; (try clear hb); (try clear hb2); (try clear hk); (try clear hi)))
  go_ret
  exact ⟨by first | rfl | (simp [zap, zao] <;> rfl) | (simp [*, zap, zao] <;> rfl), by repeat (first | (with_reducible first | exact HB.out | apply zaa | apply zac | apply zae | refine zaf ?_ GE220.out | refine zaf ?_ GE221.out) | exact HB.out)⟩
end Go.Proofs.Ytooemobolfoefaa.P


namespace Go.Proofs.Ytooemobolfoefaa.P
open Go.RowKit Go.Proofs.YtooemobolfoefaaW.PrintWords Go.Proofs.YtooemobolfoefaaW.PrintLast Go.Proofs.YtooemobolfoefaaW.PrintMore
set_option linter.unusedVariables false
theorem getD_mem {α : Type} {P : α → Prop} {l : List α} (h : ∀ y ∈ l, P y) (z : α) {i : Nat} (hi : i < l.length) : P (l.getD i z) := h _ (by simp [List.getD, hi])
theorem fields_few {x : SSchema} (h : zaR x) : x.f2.length < 5864062014805 := by obtain ⟨_, _, h, _⟩ := h; omega
def fitsB (x y : SSchema) : Bool := mayS x && (mayS y && (decide (x.f2.length ≤ y.f2.length) && eqSchema x ⟨y.f0, wrap64 (y.f1 - 1), y.f2.take x.f2.length⟩))
theorem fits_is (x y : SSchema) (hx : x.f2.length < 4611686018427387904) (hy : y.f2.length < 4611686018427387904) {k : Nat} (hk : x.f2.length < k) : schema_Fits.f k x.f0 x.f1 x.f2 y.f0 y.f1 y.f2 = some (fitsB x y) := by
 unfold schema_Fits.f schema_May.f fitsB mayS
 simp only [Option.bind_some]
 cases mayB x.f0 x.f1 x.f2
 ·simp
 ·rw [if_pos rfl]
  cases mayB y.f0 y.f1 y.f2
  ·simp
  ·rw [if_pos rfl]
   by_cases h : x.f2.length ≤ y.f2.length
   ·rw [if_neg (by omega), if_pos (by omega), if_pos (by omega), decide_eq_true h, Int.toNat_natCast]
    have := schema_Same_is x ⟨y.f0, wrap64 (y.f1 - 1), y.f2.take x.f2.length⟩ (by omega) hk
    rw [this]
    rfl
   ·rw [if_pos (by omega), decide_eq_false h]
    rfl
theorem eqf_iff {α : Type} {p : α → α → Bool} {z : α} {a b : List α} : eqf p z a b = true ↔ a.length = b.length ∧ ∀ i, i < a.length → p (a.getD i z) (b.getD i z) = true := by
 unfold eqf
 simp only [Bool.and_eq_true, decide_eq_true_eq, List.all_eq_true, List.mem_range]
theorem eqField_iff {x y : SField} : eqField x y = true ↔ x.f0.toList = y.f0.toList ∧ x.f1 = y.f1 := by
 unfold eqField
 simp only [Bool.and_eq_true, beq_iff_eq]
theorem eqSchema_iff {x y : SSchema} : eqSchema x y = true ↔ x.f0.toList = y.f0.toList ∧ x.f1 = y.f1 ∧ x.f2.length = y.f2.length ∧ ∀ i, i < x.f2.length → eqField (x.f2.getD i zaO) (y.f2.getD i zaO) = true := by
 unfold eqSchema
 simp only [Bool.and_eq_true, decide_eq_true_eq, eqf_iff]
theorem mayS_iff {x : SSchema} : mayS x = true ↔ nameB x.f0 = true ∧ 1 ≤ x.f1 ∧ x.f1 ≤ 1000 ∧ x.f2.length ≤ 6 ∧ ∀ i, i < x.f2.length → fieldOK x.f2 i = true := by
 unfold mayS mayB
 simp only [Bool.and_eq_true, decide_eq_true_eq, List.all_eq_true, List.mem_range]
theorem getD_take {α : Type} (l : List α) (z : α) (n i : Nat) (h : i < n) : (l.take n).getD i z = l.getD i z := by
 simp only [List.getD_eq_getElem?_getD, List.getElem?_take, if_pos h]
theorem fitsB_iff {x y : SSchema} : fitsB x y = true ↔ mayS x = true ∧ mayS y = true ∧ x.f2.length ≤ y.f2.length ∧ x.f0.toList = y.f0.toList ∧ x.f1 + 1 = y.f1 ∧ ∀ i, i < x.f2.length → eqField (x.f2.getD i zaO) (y.f2.getD i zaO) = true := by
 unfold fitsB
 simp only [Bool.and_eq_true, decide_eq_true_eq, eqSchema_iff]
 constructor
 ·rintro ⟨h1, h2, h3, h4, h5, _, h7⟩
  obtain ⟨_, hy1, hy2, _⟩ := mayS_iff.1 h2
  refine ⟨h1, h2, h3, h4, ?_, fun i hi => ?_⟩
  ·have h5 : x.f1 = wrap64 (y.f1 - 1) := h5
   unfold wrap64 at h5; omega
  ·have := h7 i hi
   rwa [getD_take _ _ _ _ hi] at this
 ·rintro ⟨h1, h2, h3, h4, h5, h7⟩
  obtain ⟨_, hy1, hy2, _⟩ := mayS_iff.1 h2
  refine ⟨h1, h2, h3, h4, ?_, ?_, fun i hi => ?_⟩
  ·show x.f1 = wrap64 (y.f1 - 1)
   unfold wrap64; omega
  ·show x.f2.length = (y.f2.take x.f2.length).length
   rw [List.length_take]; omega
  ·show eqField (x.f2.getD i zaO) ((y.f2.take x.f2.length).getD i zaO) = true
   rw [getD_take _ _ _ _ hi]
   exact h7 i hi
theorem few5_loop (x1 : ByteArray) (x2 : Int) (l : List SField) (hl : l.length < 4611686018427387904) : ∀ (d i k : Nat), i + d = l.length → d < k → ∃ b, towncrierlaw05_Few.l0 k (i : Int) x1 x2 l = some b := by
 intro d
 induction d with
 | zero =>
  intro i k hi hk
  obtain ⟨k, rfl⟩ := zaP hk
  simp only [towncrierlaw05_Few.l0]
  rw [if_neg (by omega)]
  exact ⟨_, rfl⟩
 | succ d ih =>
  intro i k hi hk
  obtain ⟨k, rfl⟩ := zaP hk
  simp only [towncrierlaw05_Few.l0]
  rw [if_pos (by omega), if_pos (by omega), zbs (by omega)]
  split
  ·exact ⟨_, rfl⟩
  ·exact ih (i + 1) k (by omega) (by omega)
theorem few5_some (x1 : ByteArray) (x2 : Int) (l : List SField) {k : Nat} (hk : 20 ≤ k) : ∃ b, towncrierlaw05_Few.f k x1 x2 l = some b ∧ (b = true → l.length ≤ 10) := by
 obtain ⟨k, rfl⟩ := zaP (show 0 < k from by omega)
 unfold towncrierlaw05_Few.f
 simp only [towncrierlaw05_Few.j0]
 split
 ·exact ⟨_, rfl, by simp⟩
 ·by_cases h : (l.length : Int) > 10
  ·rw [decide_eq_true h]; exact ⟨_, rfl, by simp⟩
  ·rw [decide_eq_false h]
   simp only [Bool.false_eq_true, if_false]
   obtain ⟨b, hb⟩ := few5_loop x1 x2 l (by omega) l.length 0 k (by omega) (by omega)
   exact ⟨b, hb, fun _ => by omega⟩
end Go.Proofs.Ytooemobolfoefaa.P

