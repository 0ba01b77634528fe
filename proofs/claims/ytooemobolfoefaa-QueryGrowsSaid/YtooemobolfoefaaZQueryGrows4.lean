/- What QueryGrows's row stands on: words, contracts of the functions that it reaches, plain facts, its walk (part 4): no condition but those that each theorem names. -/
import Derived.Test.YtooemobolfoefaaZQueryGrows3
set_option linter.unusedVariables false
set_option linter.unusedSimpArgs false
namespace Go.Proofs.Ytooemobolfoefaa.P
open Go.RowKit Go.Proofs.YtooemobolfoefaaW.PrintWords Go.Proofs.YtooemobolfoefaaW.PrintLast Go.Proofs.YtooemobolfoefaaW.PrintMore
set_option linter.unusedVariables false
theorem i64V_of {v : SValue} (h : wfValue v) : i64V v := lit_i64 h.2.1
theorem getV_put {x : SValue} (rest : List Int) (hb : i64V x) (h : mayV x = true) : getV (bytesV x ++ rest) = some (x, (bytesV x).length) := by
 have hn := numV_lt hb h
 have hg : getN ((zaK (numV x) ++ bytesOf x.f2) ++ rest) = some (numV x, (zaK (numV x)).length) := by rw [List.append_assoc]; exact getN_put _ _ hn
 have hl : (bytesV x).length = (zaK (numV x)).length + 1 + x.f2.size := by unfold bytesV; simp [za6]; omega
 unfold getV
 rw [show bytesV x ++ rest = x.f0 :: ((zaK (numV x) ++ bytesOf x.f2) ++ rest) from rfl]
 simp only [hg]
 have hm := mayV_iff.1 h
 obtain ⟨k, n, s⟩ := x
 rcases hm with ⟨h0, hs⟩ | ⟨h0, hs, h1, h2⟩ | ⟨h0, h1, h2⟩ | ⟨h0, hs, h1, h2⟩
 ·replace h0 : k = 0 := h0
  obtain rfl : s = ⟨#[]⟩ := za4 hs
  subst h0
  rw [if_pos rfl, hl, show numV ⟨0, n, ⟨#[]⟩⟩ = zigN n from rfl, zag_zig]
  rfl
 ·replace h0 : k = 1 := h0
  obtain rfl : s = ⟨#[]⟩ := za4 hs
  subst h0
  replace h1 : 0 ≤ n := h1
  replace h2 : n < 2 := h2
  rw [if_neg (show ¬ (1 : Int) = 0 by decide), if_neg (show ¬ (1 : Int) = 2 by decide), hl, show numV ⟨1, n, ⟨#[]⟩⟩ = n.toNat from rfl, if_pos (.inl ⟨rfl, by omega⟩), Int.toNat_of_nonneg h1]
  rfl
 ·replace h0 : k = 2 := h0
  replace h1 : n = 0 := h1
  replace h2 : s.size ≤ 40 := h2
  subst h0
  subst h1
  rw [show numV ⟨2, 0, s⟩ = s.size from rfl] at hl ⊢
  rw [if_neg (show ¬ (2 : Int) = 0 by decide), if_pos rfl, if_pos ⟨h2, by simp only [List.length_append, za6]; omega⟩, hl]
  have e : ((zaK s.size ++ bytesOf s ++ rest).drop (zaK s.size).length).take s.size = bytesOf s := by
   rw [List.append_assoc, List.drop_left, ← za6 s, List.take_left]
  show some ((⟨2, 0, strOfNums (((zaK s.size ++ bytesOf s ++ rest).drop (zaK s.size).length).take s.size)⟩ : SValue), _) = _
  rw [e, str_bytesOf]
 ·replace h0 : k = 3 := h0
  obtain rfl : s = ⟨#[]⟩ := za4 hs
  subst h0
  replace h1 : 0 ≤ n := h1
  replace h2 : n ≤ 1125899906842624 := h2
  rw [if_neg (show ¬ (3 : Int) = 0 by decide), if_neg (show ¬ (3 : Int) = 2 by decide), hl, show numV ⟨3, n, ⟨#[]⟩⟩ = n.toNat from rfl, if_pos (.inr ⟨rfl, by omega⟩), Int.toNat_of_nonneg h1]
  rfl
theorem getV_take {l : List Int} {x : SValue} {n : Nat} (hb : za5 l) (h : getV l = some (x, n)) : l.take n = bytesV x := by
 unfold getV at h
 cases l with
 | nil => simp at h
 | cons k r =>
  have hbr : za5 r := fun c hc => hb c (by simp [hc])
  cases hg : getN r with
  | none => simp only [hg] at h; simp at h
  | some p =>
   obtain ⟨m, u⟩ := p
   obtain ⟨hm, hu, ht⟩ := getN_some hbr hg
   simp only [hg] at h
   by_cases h0 : k = 0
   ·rw [if_pos h0] at h
    simp only [Option.some.injEq, Prod.mk.injEq] at h
    obtain ⟨rfl, rfl⟩ := h
    subst h0
    rw [List.take_succ_cons, ht]
    show 0 :: zaK m = 0 :: (zaK (zigN (zagN m)) ++ bytesOf ⟨#[]⟩)
    rw [zig_zag, bytesOf_nil, List.append_nil]
   ·rw [if_neg h0] at h
    by_cases h2 : k = 2
    ·rw [if_pos h2] at h
     by_cases h3 : m ≤ 40 ∧ m ≤ r.length - u
     ·rw [if_pos h3] at h
      simp only [Option.some.injEq, Prod.mk.injEq] at h
      obtain ⟨rfl, rfl⟩ := h
      subst h2
      have hby := byteL_take (zbv hbr u) m
      have hs : (strOfNums ((r.drop u).take m)).size = m := by rw [strOfNums_size, List.length_take, List.length_drop]; omega
      rw [show u + 1 + m = (u + m) + 1 from by omega, List.take_succ_cons, List.take_add, ht]
      unfold bytesV
      rw [show numV ⟨2, 0, strOfNums ((r.drop u).take m)⟩ = (strOfNums ((r.drop u).take m)).size from rfl, hs, bytesOf_str hby]
     ·rw [if_neg h3] at h; simp at h
    ·rw [if_neg h2] at h
     by_cases h3 : (k = 1 ∧ m < 2) ∨ (k = 3 ∧ m ≤ 1125899906842624)
     ·rw [if_pos h3] at h
      simp only [Option.some.injEq, Prod.mk.injEq] at h
      obtain ⟨rfl, rfl⟩ := h
      rw [List.take_succ_cons, ht]
      have e : numV ⟨k, (m : Int), ⟨#[]⟩⟩ = m := by
       unfold numV
       rw [if_neg h0, if_neg h2]
       exact Int.toNat_natCast m
      unfold bytesV
      rw [e, bytesOf_nil, List.append_nil]
     ·rw [if_neg h3] at h; simp at h
theorem getV_i64 {l : List Int} {x : SValue} {n : Nat} (hb : za5 l) (h : getV l = some (x, n)) : i64V x ∧ n ≤ l.length ∧ mayV x = true := by
 unfold getV at h
 cases l with
 | nil => simp at h
 | cons k r =>
  cases hg : getN r with
  | none => simp only [hg] at h; simp at h
  | some p =>
   obtain ⟨m, u⟩ := p
   have hm := (getN_some (fun c hc => hb c (by simp [hc])) hg).1
   have hu := (getN_used hg).2.1
   simp only [hg] at h
   have he : (⟨#[]⟩ : ByteArray).toList = [] := by decide +kernel
   by_cases h0 : k = 0
   ·rw [if_pos h0] at h
    simp only [Option.some.injEq, Prod.mk.injEq] at h
    obtain ⟨rfl, rfl⟩ := h
    exact ⟨zag_in hm, by simp; omega, mayV_iff.2 (.inl ⟨rfl, he⟩)⟩
   ·rw [if_neg h0] at h
    by_cases h2 : k = 2
    ·rw [if_pos h2] at h
     by_cases h3 : m ≤ 40 ∧ m ≤ r.length - u
     ·rw [if_pos h3] at h
      simp only [Option.some.injEq, Prod.mk.injEq] at h
      obtain ⟨rfl, rfl⟩ := h
      refine ⟨zero_i64, by simp only [List.length_cons]; omega, mayV_iff.2 (.inr (.inr (.inl ⟨rfl, rfl, ?_⟩)))⟩
      show (strOfNums _).size ≤ 40
      rw [strOfNums_size, List.length_take]
      omega
     ·rw [if_neg h3] at h; simp at h
    ·rw [if_neg h2] at h
     by_cases h3 : (k = 1 ∧ m < 2) ∨ (k = 3 ∧ m ≤ 1125899906842624)
     ·rw [if_pos h3] at h
      simp only [Option.some.injEq, Prod.mk.injEq] at h
      obtain ⟨rfl, rfl⟩ := h
      refine ⟨?_, by simp; omega, mayV_iff.2 ?_⟩
      ·show -9223372036854775808 ≤ (m : Int) ∧ (m : Int) ≤ 9223372036854775807
       omega
      ·rcases h3 with ⟨rfl, h4⟩ | ⟨rfl, h4⟩
       ·exact .inr (.inl ⟨rfl, he, by show 0 ≤ (m : Int); omega, by show (m : Int) < 2; omega⟩)
       ·exact .inr (.inr (.inr ⟨rfl, he, by show 0 ≤ (m : Int); omega, by show (m : Int) ≤ _; omega⟩))
     ·rw [if_neg h3] at h; simp at h
def zeroV : SValue := ⟨0, 0, ⟨#[]⟩⟩
def truV (b : Bool) : SValue := ⟨1, if b then 1 else 0, ⟨#[]⟩⟩
def mayP (x : SOp) : Bool := decide (0 ≤ x.f0) && (decide (x.f0 < 10) && (decide (0 ≤ x.f1) && (decide (x.f1 < 6) && ((x.f0 == 1 || x.f1 == 0) && ((x.f0 == 0 || eqV x.f2 zeroV) && mayV x.f2)))))
def mayO (l : List SOp) : Bool := decide (l.length ≤ 12) && l.all mayP
theorem mayP_iff {x : SOp} : mayP x = true ↔ 0 ≤ x.f0 ∧ x.f0 < 10 ∧ 0 ≤ x.f1 ∧ x.f1 < 6 ∧ (x.f0 = 1 ∨ x.f1 = 0) ∧ (x.f0 = 0 ∨ x.f2 = zeroV) ∧ mayV x.f2 = true := by
 unfold mayP
 simp only [Bool.and_eq_true, Bool.or_eq_true, decide_eq_true_eq, beq_iff_eq, eqV_iff]
theorem mayO_iff {l : List SOp} : mayO l = true ↔ l.length ≤ 12 ∧ ∀ x ∈ l, mayP x = true := by
 unfold mayO
 simp only [Bool.and_eq_true, decide_eq_true_eq, List.all_eq_true]
def lessV (a b : SValue) : Bool := if a.f0 = 2 then Go.Op.bytesLess a.f2.toList b.f2.toList else decide (a.f1 < b.f1)
def arith (code a b : Int) : Int := if code = 2 then a + b else if code = 3 then a - b else a * b
def sumV (code a b : Int) : Option Int := if -9223372036854775808 ≤ arith code a b ∧ arith code a b ≤ 9223372036854775807 then some (arith code a b) else none
def twoV (code : Int) (a b : SValue) : Except Int SValue :=
 if a.f0 ≠ b.f0 then .error 5
 else if code = 6 then .ok (truV (eqV a b))
 else if code = 5 then (if a.f0 = 1 then .error 5 else .ok (truV (lessV a b)))
 else if code = 7 ∨ code = 8 then (if a.f0 = 1 then .ok (truV (if code = 7 then a.f1 == 1 && b.f1 == 1 else a.f1 == 1 || b.f1 == 1)) else .error 5)
 else if a.f0 = 0 then (match sumV code a.f1 b.f1 with | some n => .ok ⟨0, n, ⟨#[]⟩⟩ | none => .error 6)
 else .error 5
def stepV (v : List SValue) (kinds : Bool) (x : SOp) (p : List SValue) : Except Int (List SValue) :=
 if x.f0 = 0 then .ok (p ++ [x.f2])
 else if x.f0 = 1 then (if x.f1.toNat < v.length then .ok (p ++ [v.getD x.f1.toNat zaN]) else .error 3)
 else if x.f0 = 9 then (if p.length < 1 then .error 2 else if (p.getD (p.length - 1) zaN).f0 = 1 then .ok (p.take (p.length - 1) ++ [truV (!((p.getD (p.length - 1) zaN).f1 == 1))]) else .error 5)
 else if p.length < 2 then .error 2
 else match twoV x.f0 (p.getD (p.length - 2) zaN) (p.getD (p.length - 1) zaN) with
  | .ok y => .ok (p.take (p.length - 2) ++ [y])
  | .error e => if kinds = true ∧ e = 6 then .ok (p.take (p.length - 2) ++ [zeroV]) else .error e
def runV (v : List SValue) (kinds : Bool) : List SOp → List SValue → Except Int (List SValue)
 | [], p => .ok p
 | x :: l, p => match stepV v kinds x p with
  | .ok q => runV v kinds l q
  | .error e => .error e
def endV : Except Int (List SValue) → SValue × Int
 | .ok [x] => (x, 0)
 | .ok _ => (zeroV, 2)
 | .error e => (zeroV, e)
def okV (x : SValue) : Prop := mayV x = true ∧ i64V x
def okVs (l : List SValue) : Prop := ∀ x ∈ l, okV x
theorem okVs_nil : okVs [] := fun _ h => by cases h
theorem okVs_snoc {l : List SValue} {x : SValue} (h : okVs l) (hx : okV x) : okVs (l ++ [x]) := fun y hy => by
 rcases List.mem_append.1 hy with h2 | h2
 ·exact h y h2
 ·rw [List.mem_singleton.1 h2]; exact hx
theorem okVs_take {l : List SValue} (h : okVs l) (n : Nat) : okVs (l.take n) := fun y hy => h y (List.mem_of_mem_take hy)
theorem okVs_at {l : List SValue} (h : okVs l) {i : Nat} (hi : i < l.length) : okV (l.getD i zaN) := h _ (by simp [List.getD, hi])
theorem okV_zero : okV zeroV := ⟨by decide +kernel, by unfold i64V zeroV; decide⟩
theorem okV_tru (b : Bool) : okV (truV b) := by
 cases b
 ·exact ⟨by decide +kernel, by unfold i64V truV; decide⟩
 ·exact ⟨by decide +kernel, by unfold i64V truV; decide⟩
theorem okV_num {n : Int} (h : -9223372036854775808 ≤ n ∧ n ≤ 9223372036854775807) : okV ⟨0, n, ⟨#[]⟩⟩ := by
 refine ⟨mayV_iff.2 (.inl ⟨rfl, ?_⟩), h⟩
 show (⟨#[]⟩ : ByteArray).toList = []
 decide +kernel
theorem mayV_text {x : SValue} (h : mayV x = true) (h2 : x.f0 ≠ 2) : x.f2.toList = [] := by
 rcases mayV_iff.1 h with ⟨_, h3⟩ | ⟨_, h3, _⟩ | ⟨h3, _⟩ | ⟨_, h3, _⟩
 ·exact h3
 ·exact h3
 ·exact absurd h3 h2
 ·exact h3
theorem mayV_bytes {x : SValue} (h : mayV x = true) (h2 : x.f0 = 2) : x.f1 = 0 ∧ x.f2.size ≤ 40 := by
 rcases mayV_iff.1 h with ⟨h3, _⟩ | ⟨h3, _⟩ | ⟨_, h3⟩ | ⟨h3, _⟩
 ·rw [h2] at h3; cases h3
 ·rw [h2] at h3; exact absurd h3 (by decide)
 ·exact h3
 ·rw [h2] at h3; exact absurd h3 (by decide)
theorem sumV_some {code a b n : Int} (h : sumV code a b = some n) : n = arith code a b ∧ -9223372036854775808 ≤ n ∧ n ≤ 9223372036854775807 := by
 unfold sumV at h
 split at h
 ·rename_i h2
  obtain rfl := Option.some.inj h
  exact ⟨rfl, h2⟩
 ·cases h
theorem twoV_ok {code : Int} {a b y : SValue} (h : twoV code a b = .ok y) : okV y := by
 unfold twoV at h
 repeat' split at h
 all_goals first
  | (obtain rfl := Except.ok.inj h; first | exact okV_tru _ | (rename_i h2; exact okV_num (sumV_some h2).2))
  | cases h
theorem stepV_ok {v : List SValue} {kinds : Bool} {x : SOp} {p q : List SValue} (hv : okVs v) (hx : okV x.f2) (hp : okVs p) (h : stepV v kinds x p = .ok q) : okVs q := by
 unfold stepV at h
 split at h
 ·obtain rfl := Except.ok.inj h; exact okVs_snoc hp hx
 split at h
 ·split at h
  ·rename_i h2
   obtain rfl := Except.ok.inj h; exact okVs_snoc hp (okVs_at hv h2)
  ·cases h
 split at h
 ·split at h
  ·cases h
  split at h
  ·obtain rfl := Except.ok.inj h; exact okVs_snoc (okVs_take hp _) (okV_tru _)
  ·cases h
 split at h
 ·cases h
 split at h
 ·rename_i h2
  obtain rfl := Except.ok.inj h; exact okVs_snoc (okVs_take hp _) (twoV_ok h2)
 ·split at h
  ·obtain rfl := Except.ok.inj h; exact okVs_snoc (okVs_take hp _) okV_zero
  ·cases h
theorem stepV_len {v : List SValue} {kinds : Bool} {x : SOp} {p q : List SValue} (h : stepV v kinds x p = .ok q) : q.length ≤ p.length + 1 := by
 unfold stepV at h
 repeat' split at h
 all_goals first
  | (cases h; done)
  | (obtain rfl := Except.ok.inj h; simp only [List.length_append, List.length_take, List.length_singleton]; omega)
theorem runV_cons {v : List SValue} {kinds : Bool} {x : SOp} {l : List SOp} {p q : List SValue} (h : stepV v kinds x p = .ok q) : runV v kinds (x :: l) p = runV v kinds l q := by
 simp only [runV, h]
theorem runV_stop {v : List SValue} {kinds : Bool} {x : SOp} {l : List SOp} {p : List SValue} {e : Int} (h : stepV v kinds x p = .error e) : runV v kinds (x :: l) p = .error e := by
 simp only [runV, h]
theorem drop_cons {α : Type} (z : α) (l : List α) {i : Nat} (h : i < l.length) : l.drop i = l.getD i z :: l.drop (i + 1) := by
 rw [List.drop_eq_getElem_cons h]
 simp [List.getD, h]
theorem mayS_iff8 {x : SSchema} : mayS x = true ↔ nameB x.f0 = true ∧ 1 ≤ x.f1 ∧ x.f1 ≤ 1000 ∧ x.f2.length ≤ 6 ∧ ∀ i, i < x.f2.length → fieldOK x.f2 i = true := by
 unfold mayS mayB
 simp only [Bool.and_eq_true, decide_eq_true_eq, List.all_eq_true, List.mem_range]
def kindsOf (s : SSchema) : List SValue := s.f2.map fun f => ⟨f.f1, 0, ⟨#[]⟩⟩
def kindV (s : SSchema) (l : List SOp) : Int × Int := if mayS s = true ∧ mayO l = true then ((endV (runV (kindsOf s) true l [])).1.f0, (endV (runV (kindsOf s) true l [])).2) else (0, 1)
def thV (x : SValue) : Value := if x.f0 = 0 then .iface 131 (.int .i64 x.f1) else if x.f0 = 1 then .iface 133 (.bool (x.f1 == 1)) else .iface 134 (.agg #[.int .i64 x.f0, .int .i64 x.f1, .string x.f2])
theorem thV_one (x : SValue) : (thV x).oneCell' = true := by
 unfold thV
 split
 ·rfl
 split
 ·rfl
 ·rfl
theorem thV_iface (x : SValue) : ∃ t v, thV x = .iface t v := by
 unfold thV
 split
 ·exact ⟨_, _, rfl⟩
 split
 ·exact ⟨_, _, rfl⟩
 ·exact ⟨_, _, rfl⟩
def kThing : Kd SValue := Kd.scalar thV thV_one
theorem tmod_small (w b : Int) (hb : b ≠ 0) (h : b.natAbs ≤ 9223372036854775808) : (w.tmod b).natAbs < 9223372036854775808 := by
 rw [Int.natAbs_tmod]
 have : w.natAbs % b.natAbs < b.natAbs := Nat.mod_lt _ (by omega)
 omega
theorem zbw {n : Int} (h : -9223372036854775808 ≤ n ∧ n ≤ 9223372036854775807) : wrap64 n = n := by unfold wrap64; omega
theorem wrap64_range (n : Int) : -9223372036854775808 ≤ wrap64 n ∧ wrap64 n ≤ 9223372036854775807 := by unfold wrap64; omega
theorem wrap64_mod (n : Int) : ∃ k : Int, wrap64 n = n + 18446744073709551616 * k := ⟨-((n + 9223372036854775808) / 18446744073709551616), by unfold wrap64; omega⟩
theorem prod_back {a b : Int} (ha : -9223372036854775808 ≤ a ∧ a ≤ 9223372036854775807) (hb0 : b ≠ 0) (h : -9223372036854775808 ≤ a * b ∧ a * b ≤ 9223372036854775807) : wrap64 (Int.tdiv (wrap64 (a * b)) b) = a := by
 rw [zbw h, Int.mul_tdiv_cancel a hb0, zbw ha]
theorem prod_is {a b : Int} (hb : -9223372036854775808 ≤ b ∧ b ≤ 9223372036854775807) (hb0 : b ≠ 0) (hq : Int.tdiv (wrap64 (a * b)) b = a) : -9223372036854775808 ≤ a * b ∧ a * b ≤ 9223372036854775807 := by
 have h1 := Int.mul_tdiv_add_tmod (wrap64 (a * b)) b
 rw [hq, Int.mul_comm b a] at h1
 have h2 := tmod_small (wrap64 (a * b)) b hb0 (by omega)
 obtain ⟨k, hk⟩ := wrap64_mod (a * b)
 have h3 := wrap64_range (a * b)
 generalize a * b = p at *
 generalize (wrap64 p).tmod b = r at *
 omega
theorem quot_wide {w b : Int} (hw : -9223372036854775808 ≤ w ∧ w ≤ 9223372036854775807) (h : ¬ (w = -9223372036854775808 ∧ b = -1)) : -9223372036854775808 ≤ Int.tdiv w b ∧ Int.tdiv w b ≤ 9223372036854775807 := by
 have h1 : (Int.tdiv w b).natAbs = w.natAbs / b.natAbs := Int.natAbs_tdiv w b
 by_cases hb : b.natAbs = 1
 ·by_cases h2 : b = 1
  ·subst h2; rw [Int.tdiv_one]; exact hw
  ·obtain rfl : b = -1 := by omega
   have : Int.tdiv w (-1) = -w := by rw [Int.tdiv_neg, Int.tdiv_one]
   rw [this]
   omega
 ·by_cases h0 : b.natAbs = 0
  ·rw [h0, Nat.div_zero] at h1; omega
  ·have : w.natAbs / b.natAbs ≤ w.natAbs / 2 := Nat.div_le_div_left (by omega) (by omega)
   omega
theorem prod_test {a b : Int} (ha : -9223372036854775808 ≤ a ∧ a ≤ 9223372036854775807) (hb : -9223372036854775808 ≤ b ∧ b ≤ 9223372036854775807) (hb0 : b ≠ 0) (h1 : ¬ (b = -1 ∧ a = -9223372036854775808)) (hq : wrap64 (Int.tdiv (wrap64 (a * b)) b) = a) : -9223372036854775808 ≤ a * b ∧ a * b ≤ 9223372036854775807 := by
 by_cases hb1 : b = -1
 ·subst hb1; omega
 ·rw [zbw (quot_wide (wrap64_range _) (fun h => hb1 h.2))] at hq
  exact prod_is hb hb0 hq
theorem sum_wrap {a b : Int} (ha : -9223372036854775808 ≤ a ∧ a ≤ 9223372036854775807) (hb : -9223372036854775808 ≤ b ∧ b ≤ 9223372036854775807) : (decide (wrap64 (a + b) > a) == decide (b > 0)) = decide (-9223372036854775808 ≤ a + b ∧ a + b ≤ 9223372036854775807) := by
 rw [Bool.eq_iff_iff, beq_iff_eq, decide_eq_decide, decide_eq_true_eq]
 unfold wrap64
 omega
theorem diff_wrap {a b : Int} (ha : -9223372036854775808 ≤ a ∧ a ≤ 9223372036854775807) (hb : -9223372036854775808 ≤ b ∧ b ≤ 9223372036854775807) : (decide (wrap64 (a - b) < a) == decide (b > 0)) = decide (-9223372036854775808 ≤ a - b ∧ a - b ≤ 9223372036854775807) := by
 rw [Bool.eq_iff_iff, beq_iff_eq, decide_eq_decide, decide_eq_true_eq]
 unfold wrap64
 omega
theorem arith2 (a b : Int) : arith 2 a b = a + b := rfl
theorem arith3 (a b : Int) : arith 3 a b = a - b := rfl
theorem arithT {c : Int} (h2 : c ≠ 2) (h3 : c ≠ 3) (a b : Int) : arith c a b = a * b := by unfold arith; rw [if_neg h2, if_neg h3]
theorem sumV_none {code a b : Int} (h : sumV code a b = none) : ¬ (-9223372036854775808 ≤ arith code a b ∧ arith code a b ≤ 9223372036854775807) := by
 intro h2
 unfold sumV at h
 rw [if_pos h2] at h
 cases h
def i64B (l : List SOp) : Bool := l.all fun x => decide (-9223372036854775808 ≤ x.f2.f1) && decide (x.f2.f1 ≤ 9223372036854775807)
theorem i64B_iff {l : List SOp} : i64B l = true ↔ ∀ x ∈ l, i64V x.f2 := by
 unfold i64B i64V
 simp only [List.all_eq_true, Bool.and_eq_true, decide_eq_true_eq]
def bytesP (x : SOp) : List Int := x.f0 :: (if x.f0 = 0 then bytesV x.f2 else if x.f0 = 1 then [x.f1] else [])
def opsL (l : List SOp) : List Int := (l.map bytesP).flatten
def zbo (l : List SOp) : List Int := zaK l.length ++ opsL l
def getP : List Int → Option (SOp × Nat)
 | [] => none
 | c :: r => if c = 0 then (match getV r with | some (v, n) => some (⟨0, 0, v⟩, n + 1) | none => none)
  else if c = 1 then (match r with | [] => none | a :: _ => some (⟨1, a, zeroV⟩, 2))
  else some (⟨c, 0, zeroV⟩, 1)
def getOs : Nat → List Int → Option (List SOp × Nat)
 | 0, _ => some ([], 0)
 | m + 1, l => match getP l with
  | none => none
  | some (x, n) => match getOs m (l.drop n) with
   | none => none
   | some (xs, k) => some (x :: xs, n + k)
def contO (l : List Int) (m a : Nat) (fs : List SOp) : Option (List SOp × Nat) := match getOs m (l.drop a) with
 | none => none
 | some (gs, v) => if mayO (fs ++ gs) then some (fs ++ gs, a + v) else none
def getO (l : List Int) : Option (List SOp × Nat) := match getM l 12 with
 | none => none
 | some (n, u) => contO l n u []
def gotO (r : Option (List SOp × Nat)) : List SOp × Nat × Bool := match r with
 | some (x, n) => (x, n, true)
 | none => ([], 0, false)
theorem contO_step (l : List Int) (m a : Nat) (fs : List SOp) : contO l (m + 1) a fs = match getP (l.drop a) with
  | none => none
  | some (x, n) => contO l m (a + n) (fs ++ [x]) := by
 unfold contO
 simp only [getOs]
 cases h : getP (l.drop a) with
 | none => rfl
 | some p =>
  obtain ⟨x, n⟩ := p
  simp only [List.drop_drop]
  cases h2 : getOs m (l.drop (a + n)) with
  | none => rfl
  | some q =>
   obtain ⟨gs, v⟩ := q
   simp only [List.append_assoc, List.singleton_append, Nat.add_assoc]
theorem contO_end (l : List Int) (a : Nat) (fs : List SOp) : contO l 0 a fs = if mayO fs then some (fs, a) else none := by
 unfold contO
 simp only [getOs, List.append_nil, Nat.add_zero]
theorem getO_none {l : List Int} (h : getM l 12 = none) : getO l = none := by unfold getO; rw [h]
theorem getO_some {l : List Int} {n u : Nat} (h : getM l 12 = some (n, u)) : getO l = contO l n u [] := by unfold getO; rw [h]
theorem opsL_snoc (l : List SOp) (k : Nat) (h : k < l.length) : opsL (l.take (k + 1)) = opsL (l.take k) ++ bytesP (l.getD k zOp) := by
 unfold opsL
 rw [take_snoc zOp l k h, List.map_append, List.flatten_append]
 simp
theorem gotV_len {l : List Int} {x : SValue} {m : Nat} {b : Bool} (h : gotV (getV l) = (x, m, b)) : m ≤ 100 := by
 cases hg : getV l with
 | none => rw [hg] at h; simp only [gotV, Prod.mk.injEq] at h; omega
 | some p =>
  obtain ⟨y, k⟩ := p
  rw [hg] at h
  simp only [gotV, Prod.mk.injEq] at h
  obtain ⟨rfl, rfl, _⟩ := h
  cases l with
  | nil => simp [getV] at hg
  | cons c r =>
   simp only [getV] at hg
   cases hn : getN r with
   | none => rw [hn] at hg; simp at hg
   | some q =>
    obtain ⟨n, u⟩ := q
    rw [hn] at hg
    simp only at hg
    have hu := (getN_used hn).2.2
    repeat' split at hg
    all_goals first
     | (cases hg; done)
     | (simp only [Option.some.injEq, Prod.mk.injEq] at hg; omega)
theorem getP_used {l : List Int} {x : SOp} {n : Nat} (hb : za5 l) (h : getP l = some (x, n)) : i64V x.f2 ∧ n ≤ l.length ∧ 1 ≤ n := by
 cases l with
 | nil => simp [getP] at h
 | cons c r =>
  simp only [getP] at h
  have hz : i64V zeroV := okV_zero.2
  by_cases h0 : c = 0
  ·rw [if_pos h0] at h
   cases hg : getV r with
   | none => rw [hg] at h; simp at h
   | some p =>
    obtain ⟨v, m⟩ := p
    rw [hg] at h
    simp only [Option.some.injEq, Prod.mk.injEq] at h
    obtain ⟨rfl, rfl⟩ := h
    obtain ⟨h1, h2, _⟩ := getV_i64 (fun c hc => hb c (by simp [hc])) hg
    exact ⟨h1, by simp only [List.length_cons]; omega, by omega⟩
  ·rw [if_neg h0] at h
   by_cases h1 : c = 1
   ·rw [if_pos h1] at h
    cases r with
    | nil => simp at h
    | cons a r =>
     simp only [Option.some.injEq, Prod.mk.injEq] at h
     obtain ⟨rfl, rfl⟩ := h
     exact ⟨hz, by simp, by decide⟩
   ·rw [if_neg h1] at h
    simp only [Option.some.injEq, Prod.mk.injEq] at h
    obtain ⟨rfl, rfl⟩ := h
    exact ⟨hz, by simp, by decide⟩
end Go.Proofs.Ytooemobolfoefaa.P


namespace Go.Proofs.Ytooemobolfoefaa.P
open Go.RowKit Go.Proofs.YtooemobolfoefaaW.PrintWords Go.Proofs.YtooemobolfoefaaW.PrintLast Go.Proofs.YtooemobolfoefaaW.PrintMore
attribute [local go_sem] za1 zaZ zbb zba zaU zaT za0 zaY   -- for this text's walks alone
set_option linter.unusedVariables false
set_option linter.unusedSimpArgs false
theorem eqAValue (d : Nat) (w : World) (x0 y0 : Int) (x1 y1 : Int) (x2 y2 : ByteArray) :
  (Op.equalIn (d + 2) 73 (.agg #[.int .i64 x0, .int .i64 x1, .string x2]) (.agg #[.int .i64 y0, .int .i64 y1, .string y2])).run Try.prog w = .ok (x0 == y0 && (x1 == y1 && (x2.toList == y2.toList))) w := by
 refine eqA_of Try.underlying73 (by kernel_rfl) ?_
 refine eqf_cons (by rfl) (by go_simp; rfl) (by go_simp; rfl) (by go_simp) ?_
 refine eqf_cons (by rfl) (by go_simp; rfl) (by go_simp; rfl) (by go_simp) ?_
 exact eqf_last (by rfl) (by go_simp; rfl) (by go_simp; rfl) (by go_simp)
set_option maxHeartbeats 400000 in
theorem slices_IndexFunc_api_Op.toldw (g : Nat) (caps : Array Value) (p : SOp → Bool) (wf : SOp → Prop) (A0 : Option Addr) (cp : Nat) (l0 : List SOp) (w : World) (eg : ∀ args w, (callFunc g args).run Try.prog w = .ok (.enter g args) w) (hp : TellsW Try.prog kOp g caps p wf w) (hwf : ∀ x ∈ l0, wf x) (hr0 : Kd.C kOp w A0 l0.length l0) (hc0 : l0.length ≤ cp) :
  Calls Try.prog 72 #[.slice A0 l0.length cp, .func (.func g) #[] caps] w (idxPost p l0 w) := by
 have HR0 := Aside0.mk hr0
 have HC0 := Aside0.mk hc0
 have HP := Aside0.mk hp
 have HWF := Aside0.mk hwf
 have hm := hr0.2.1
 clear hr0 hc0 hp hwf
 go_enter Try.func72, Try.ntmps72
 go_wp2
 go_loopw [4, 5, 8] (fun v4 v5 v8 w' => ∃ k : Nat, v8 = .int .i64 k ∧ idxRel p l0 zOp w k w') (fun _ _ i _ => l0.length - (intOf i).toNat)
 case atStart => exact ⟨0, rfl, Nat.zero_le _, fun i hi => by omega, Below.refl _ _⟩
 case round =>
  obtain ⟨k, rfl, HK⟩ := hrel
  have HK := Aside0.mk HK
  by_cases hlt : k < l0.length
  ·obtain ⟨ad, cs, e, hl, hK, hcell⟩ := Kd.C_get (Kd.C_below HR0.out HK.out.2.2) zOp (k : Int) (by omega) (by omega)
   cases e
   simp only [Int.toNat_natCast] at hK hcell
   obtain ⟨c0, c1, c2, c3, c4, rfl⟩ := cells5 cs hl
   have hx0 : wr.cell? (ad.add (k * 5)) = some c0 := hcell 0 _ rfl
   have hx1 : wr.cell? ⟨(ad.add (k * 5)).block, (ad.add (k * 5)).off + 1, none⟩ = some c1 := by rw [← zaA _ _ 1 (by omega)]; exact hcell 1 _ rfl
   have hx2 : wr.cell? ⟨(ad.add (k * 5)).block, (ad.add (k * 5)).off + 2, none⟩ = some c2 := by rw [← zaA _ _ 2 (by omega)]; exact hcell 2 _ rfl
   have hx3 : wr.cell? ⟨(ad.add (k * 5)).block, (ad.add (k * 5)).off + 3, none⟩ = some c3 := by rw [← zaA _ _ 3 (by omega)]; exact hcell 3 _ rfl
   have hx4 : wr.cell? ⟨(ad.add (k * 5)).block, (ad.add (k * 5)).off + 4, none⟩ = some c4 := by rw [← zaA _ _ 4 (by omega)]; exact hcell 4 _ rfl
   have hcall := HP.out (l0.getD k zOp) _ wr (HWF.out _ (getD_in _ hlt)) HK.out.2.2 hK
   clear hcell hK hl
   cases hp : p (l0.getD k zOp) with
   | true =>
    rw [hp] at hcall
    have HQ := Aside0.mk hp; clear hp
    go_wp2_with (go_at_fn g; refine hcall.mono ?_; rintro e w1 ⟨rfl, hb1⟩)
    go_ret
    exact ⟨by rw [idx_skip p zOp l0 k HK.out.2.1 hlt HQ.out]; rfl, zah HK.out.2.2 hb1⟩
   | false =>
    rw [hp] at hcall
    have HQ := Aside0.mk hp; clear hp
    go_wp2_with (go_at_fn g; refine hcall.mono ?_; rintro e w1 ⟨rfl, hb1⟩)
    go_roundw
    case rel => exact ⟨k + 1, by go_num, by omega, fun i hi => by rcases Nat.lt_succ_iff_lt_or_eq.1 hi with h | rfl; exact HK.out.2.1 i h; exact HQ.out, zah HK.out.2.2 hb1⟩
    case measure => simp [intOf]; omega
  ·go_wp2
   go_ret
   exact ⟨by rw [idx_none p zOp l0 (fun i hi => HK.out.2.1 i (by omega))]; rfl, HK.out.2.2⟩
set_option maxHeartbeats 400000 in
theorem slices_ContainsFunc_api_Op.toldw (g : Nat) (caps : Array Value) (p : SOp → Bool) (wf : SOp → Prop) (A0 : Option Addr) (cp : Nat) (l0 : List SOp) (w : World) (eg : ∀ args w, (callFunc g args).run Try.prog w = .ok (.enter g args) w) (hp : TellsW Try.prog kOp g caps p wf w) (hwf : ∀ x ∈ l0, wf x) (hr0 : Kd.C kOp w A0 l0.length l0) (hc0 : l0.length ≤ cp) :
  Calls Try.prog 67 #[.slice A0 l0.length cp, .func (.func g) #[] caps] w (za2 (l0.any p) w) := by
 obtain ⟨ha, hn⟩ := idx_any p l0
 have HA := Aside0.mk ha
 have HC := Aside0.mk (slices_IndexFunc_api_Op.toldw g caps p wf A0 cp l0 w eg hp hwf hr0 hc0)
 clear ha hn eg hp hwf hr0
 go_enter Try.func67, Try.ntmps67
 go_wp2_with (go_at_call 72; refine HC.out.mono ?_; rintro e w1 ⟨rfl, hb1⟩)
 go_ret
 exact ⟨by rw [← HA.out]; rfl, hb1⟩
def value_May.f (a0_0 : Int) (a0_1 : Int) (a0_2 : ByteArray) : Option Bool := if -9223372036854775808 ≤ a0_1 ∧ a0_1 ≤ 9223372036854775807 then some (mayV ⟨a0_0, a0_1, a0_2⟩) else none
theorem heldV_iface {x : SValue} (h : mayV x = true) : ∃ t v, heldV x = .iface t v := by
 rw [heldV_of h]
 repeat' split
 all_goals exact ⟨_, _, rfl⟩
set_option maxHeartbeats 1000000 in
theorem zbz (x : SValue) (w : World) (hb : -9223372036854775808 ≤ x.f1 ∧ x.f1 ≤ 9223372036854775807) {r : Bool} (hr : mayV x = r) : Calls Try.prog 66 #[.agg #[.int .i64 x.f0, .int .i64 x.f1, .string x.f2]] w (za2 r w) := by
 have HB := Aside0.mk hb
 clear hb
 cases r with
 | false =>
  have HV := Aside0.mk (heldV_no hr)
  clear hr
  go_enter Try.func66, Try.ntmps66
  go_wp2_with (go_at_call 68; refine (held_told x _ HB.out).mono ?_; rw [HV.out]; rintro e w1 ⟨rfl, hb1⟩)
  go_ret
  exact ⟨rfl, zah (zaa (Below.refl _ _) _) hb1⟩
 | true =>
  obtain ⟨t, v, hv⟩ := heldV_iface hr
  have HV := Aside0.mk hv
  clear hr hv
  go_enter Try.func66, Try.ntmps66
  go_wp2_with (go_at_call 68; refine (held_told x _ HB.out).mono ?_; rw [HV.out]; rintro e w1 ⟨rfl, hb1⟩)
  go_ret
  exact ⟨rfl, zah (zaa (Below.refl _ _) _) hb1⟩
theorem value_May.calls (a0_0 : Int) (a0_1 : Int) (a0_2 : ByteArray) (r : Bool) (w : World) (h : value_May.f a0_0 a0_1 a0_2 = some r) :
  Calls Try.prog 66 #[.agg #[.int .i64 a0_0, .int .i64 a0_1, .string a0_2]] w fun e w' => e = .returned (.bool r) ∧ Below w.heap.size w w' := by
 unfold value_May.f at h
 by_cases hb : -9223372036854775808 ≤ a0_1 ∧ a0_1 ≤ 9223372036854775807
 ·rw [if_pos hb] at h
  exact zbz ⟨a0_0, a0_1, a0_2⟩ w hb (Option.some.inj h)
 ·rw [if_neg hb] at h; simp at h
end Go.Proofs.Ytooemobolfoefaa.P


namespace Go.Proofs.Ytooemobolfoefaa.P
open Go.RowKit Go.Proofs.YtooemobolfoefaaW.PrintWords Go.Proofs.YtooemobolfoefaaW.PrintLast Go.Proofs.YtooemobolfoefaaW.PrintMore
attribute [local go_sem] za1 zaZ zbb zba zaU zaT za0 zaY   -- for this text's walks alone
set_option linter.unusedVariables false
set_option linter.unusedSimpArgs false
attribute [local go_sem high] eqAValue
attribute [local go_sem high] eqAValue
set_option maxHeartbeats 8000000 in
set_option maxRecDepth 100000 in
theorem may1O_told (w : World) : TellsW Try.prog kOp 65 #[] (fun x => !mayP x) (fun x => i64V x.f2) w := by
 intro x cs W hwf hW hK
 obtain rfl := kOp_open hK
 have HWF := Aside0.mk hwf
 obtain ⟨b, hb⟩ : ∃ b, mayV x.f2 = b := ⟨_, rfl⟩
 have HM := Aside0.mk hb
 have hne := @neV x.f2 zeroV
 have heq : (x.f2.f0 == 0 && (x.f2.f1 == 0 && x.f2.f2.toList.isEmpty)) = eqV x.f2 zeroV := by unfold eqV zeroV; rw [show (⟨#[]⟩ : ByteArray).toList = [] from by decide +kernel]; cases x.f2.f2.toList <;> rfl
 obtain ⟨q, hq⟩ : ∃ q, eqV x.f2 zeroV = q := ⟨_, rfl⟩
 rw [hq] at heq
 have HQ := Aside0.mk hq
 clear hne hq
 show Calls _ _ #[.agg #[.int .i64 x.f0, .int .i64 x.f1, .int .i64 x.f2.f0, .int .i64 x.f2.f1, .string x.f2.f2]] W (za2 (!(mayP x)) W)
 have HP := Aside0.mk (show mayP x = (decide (0 ≤ x.f0) && (decide (x.f0 < 10) && (decide (0 ≤ x.f1) && (decide (x.f1 < 6) && ((x.f0 == 1 || x.f1 == 0) && ((x.f0 == 0 || q) && b)))))) from by rw [← hb, ← HQ.out]; rfl)
 rw [HP.out]
 clear hW hK hwf hb
 by_cases e1 : x.f0 = 1
 ·have e10 : (x.f0 == 1) = true := beq_iff_eq.2 e1
  have e3 : (x.f0 == 0) = false := beq_eq_false_iff_ne.2 (by omega)
  have g0 : decide (x.f0 < 0) = false := decide_eq_false (by omega)
  have g1 : decide (10 ≤ x.f0) = false := decide_eq_false (by omega)
  cases q
  ·by_cases hsb2 : x.f1 < 0
   ·have hsb20 : decide (x.f1 < 0) = true := decide_eq_true hsb2
    have hres : (!(decide (0 ≤ x.f0) && (decide (x.f0 < 10) && (decide (0 ≤ x.f1) && (decide (x.f1 < 6) && ((x.f0 == 1 || x.f1 == 0) && ((x.f0 == 0 || false) && b))))))) = true := by clear HP HQ heq HM HWF; cases b <;> simp [*] <;> omega
    rw [hres]
    clear hres
    go_enter Try.func65, Try.ntmps65
    go_wp2
    go_ret
    exact ⟨rfl, zaa (Below.refl _ _) _⟩
   ·have hsb20 : decide (x.f1 < 0) = false := decide_eq_false (by omega)
    by_cases hsb3 : 6 ≤ x.f1
    ·have hsb30 : decide (6 ≤ x.f1) = true := decide_eq_true hsb3
     have hres : (!(decide (0 ≤ x.f0) && (decide (x.f0 < 10) && (decide (0 ≤ x.f1) && (decide (x.f1 < 6) && ((x.f0 == 1 || x.f1 == 0) && ((x.f0 == 0 || false) && b))))))) = true := by clear HP HQ heq HM HWF; cases b <;> simp [*] <;> omega
     rw [hres]
     clear hres
     go_enter Try.func65, Try.ntmps65
     go_wp2
     go_ret
     exact ⟨rfl, zaa (Below.refl _ _) _⟩
    ·have hsb30 : decide (6 ≤ x.f1) = false := decide_eq_false (by omega)
     have hres : (!(decide (0 ≤ x.f0) && (decide (x.f0 < 10) && (decide (0 ≤ x.f1) && (decide (x.f1 < 6) && ((x.f0 == 1 || x.f1 == 0) && ((x.f0 == 0 || false) && b))))))) = true := by clear HP HQ heq HM HWF; cases b <;> simp [*] <;> omega
     rw [hres]
     clear hres
     go_enter Try.func65, Try.ntmps65
     go_wp2
     go_ret
     exact ⟨rfl, zaa (Below.refl _ _) _⟩
  ·by_cases hsb2 : x.f1 < 0
   ·have hsb20 : decide (x.f1 < 0) = true := decide_eq_true hsb2
    have hres : (!(decide (0 ≤ x.f0) && (decide (x.f0 < 10) && (decide (0 ≤ x.f1) && (decide (x.f1 < 6) && ((x.f0 == 1 || x.f1 == 0) && ((x.f0 == 0 || true) && b))))))) = true := by clear HP HQ heq HM HWF; cases b <;> simp [*] <;> omega
    rw [hres]
    clear hres
    go_enter Try.func65, Try.ntmps65
    go_wp2
    go_ret
    exact ⟨rfl, zaa (Below.refl _ _) _⟩
   ·have hsb20 : decide (x.f1 < 0) = false := decide_eq_false (by omega)
    by_cases hsb3 : 6 ≤ x.f1
    ·have hsb30 : decide (6 ≤ x.f1) = true := decide_eq_true hsb3
     have hres : (!(decide (0 ≤ x.f0) && (decide (x.f0 < 10) && (decide (0 ≤ x.f1) && (decide (x.f1 < 6) && ((x.f0 == 1 || x.f1 == 0) && ((x.f0 == 0 || true) && b))))))) = true := by clear HP HQ heq HM HWF; cases b <;> simp [*] <;> omega
     rw [hres]
     clear hres
     go_enter Try.func65, Try.ntmps65
     go_wp2
     go_ret
     exact ⟨rfl, zaa (Below.refl _ _) _⟩
    ·have hsb30 : decide (6 ≤ x.f1) = false := decide_eq_false (by omega)
     have hres : (!(decide (0 ≤ x.f0) && (decide (x.f0 < 10) && (decide (0 ≤ x.f1) && (decide (x.f1 < 6) && ((x.f0 == 1 || x.f1 == 0) && ((x.f0 == 0 || true) && b))))))) = !b := by clear HP HQ heq HM HWF; cases b <;> simp [*] <;> omega
     rw [hres]
     clear hres
     go_enter Try.func65, Try.ntmps65
     go_wp2_with (go_at_call 66; refine (zbz x.f2 _ HWF.out HM.out).mono ?_; rintro e w1 ⟨rfl, hb1⟩)
     go_ret
     exact ⟨rfl, zah (zaa (Below.refl _ _) _) hb1⟩
 ·have e10 : (x.f0 == 1) = false := beq_eq_false_iff_ne.2 e1
  by_cases e2 : x.f1 = 0
  ·have e20 : (x.f1 == 0) = true := beq_iff_eq.2 e2
   by_cases e3 : x.f0 = 0
   ·have e30 : (x.f0 == 0) = true := beq_iff_eq.2 e3
    have g0 : decide (x.f0 < 0) = false := decide_eq_false (by omega)
    have g1 : decide (10 ≤ x.f0) = false := decide_eq_false (by omega)
    have g2 : decide (x.f1 < 0) = false := decide_eq_false (by omega)
    have g3 : decide (6 ≤ x.f1) = false := decide_eq_false (by omega)
    have hres : (!(decide (0 ≤ x.f0) && (decide (x.f0 < 10) && (decide (0 ≤ x.f1) && (decide (x.f1 < 6) && ((x.f0 == 1 || x.f1 == 0) && ((x.f0 == 0 || q) && b))))))) = !b := by clear HP HQ heq HM HWF; cases b <;> simp [*] <;> omega
    rw [hres]
    clear hres
    go_enter Try.func65, Try.ntmps65
    go_wp2_with (go_at_call 66; refine (zbz x.f2 _ HWF.out HM.out).mono ?_; rintro e w1 ⟨rfl, hb1⟩)
    go_ret
    exact ⟨rfl, zah (zaa (Below.refl _ _) _) hb1⟩
   ·have e30 : (x.f0 == 0) = false := beq_eq_false_iff_ne.2 e3
    have g2 : decide (x.f1 < 0) = false := decide_eq_false (by omega)
    have g3 : decide (6 ≤ x.f1) = false := decide_eq_false (by omega)
    cases q
    ·by_cases hsb0 : x.f0 < 0
     ·have hsb00 : decide (x.f0 < 0) = true := decide_eq_true hsb0
      have hres : (!(decide (0 ≤ x.f0) && (decide (x.f0 < 10) && (decide (0 ≤ x.f1) && (decide (x.f1 < 6) && ((x.f0 == 1 || x.f1 == 0) && ((x.f0 == 0 || false) && b))))))) = true := by clear HP HQ heq HM HWF; cases b <;> simp [*] <;> omega
      rw [hres]
      clear hres
      go_enter Try.func65, Try.ntmps65
      go_wp2
      go_ret
      exact ⟨rfl, zaa (Below.refl _ _) _⟩
     ·have hsb00 : decide (x.f0 < 0) = false := decide_eq_false (by omega)
      by_cases hsb1 : 10 ≤ x.f0
      ·have hsb10 : decide (10 ≤ x.f0) = true := decide_eq_true hsb1
       have hres : (!(decide (0 ≤ x.f0) && (decide (x.f0 < 10) && (decide (0 ≤ x.f1) && (decide (x.f1 < 6) && ((x.f0 == 1 || x.f1 == 0) && ((x.f0 == 0 || false) && b))))))) = true := by clear HP HQ heq HM HWF; cases b <;> simp [*] <;> omega
       rw [hres]
       clear hres
       go_enter Try.func65, Try.ntmps65
       go_wp2
       go_ret
       exact ⟨rfl, zaa (Below.refl _ _) _⟩
      ·have hsb10 : decide (10 ≤ x.f0) = false := decide_eq_false (by omega)
       have hres : (!(decide (0 ≤ x.f0) && (decide (x.f0 < 10) && (decide (0 ≤ x.f1) && (decide (x.f1 < 6) && ((x.f0 == 1 || x.f1 == 0) && ((x.f0 == 0 || false) && b))))))) = true := by clear HP HQ heq HM HWF; cases b <;> simp [*] <;> omega
       rw [hres]
       clear hres
       go_enter Try.func65, Try.ntmps65
       go_wp2
       go_ret
       exact ⟨rfl, zaa (Below.refl _ _) _⟩
    ·by_cases hsb0 : x.f0 < 0
     ·have hsb00 : decide (x.f0 < 0) = true := decide_eq_true hsb0
      have hres : (!(decide (0 ≤ x.f0) && (decide (x.f0 < 10) && (decide (0 ≤ x.f1) && (decide (x.f1 < 6) && ((x.f0 == 1 || x.f1 == 0) && ((x.f0 == 0 || true) && b))))))) = true := by clear HP HQ heq HM HWF; cases b <;> simp [*] <;> omega
      rw [hres]
      clear hres
      go_enter Try.func65, Try.ntmps65
      go_wp2
      go_ret
      exact ⟨rfl, zaa (Below.refl _ _) _⟩
     ·have hsb00 : decide (x.f0 < 0) = false := decide_eq_false (by omega)
      by_cases hsb1 : 10 ≤ x.f0
      ·have hsb10 : decide (10 ≤ x.f0) = true := decide_eq_true hsb1
       have hres : (!(decide (0 ≤ x.f0) && (decide (x.f0 < 10) && (decide (0 ≤ x.f1) && (decide (x.f1 < 6) && ((x.f0 == 1 || x.f1 == 0) && ((x.f0 == 0 || true) && b))))))) = true := by clear HP HQ heq HM HWF; cases b <;> simp [*] <;> omega
       rw [hres]
       clear hres
       go_enter Try.func65, Try.ntmps65
       go_wp2
       go_ret
       exact ⟨rfl, zaa (Below.refl _ _) _⟩
      ·have hsb10 : decide (10 ≤ x.f0) = false := decide_eq_false (by omega)
       have hres : (!(decide (0 ≤ x.f0) && (decide (x.f0 < 10) && (decide (0 ≤ x.f1) && (decide (x.f1 < 6) && ((x.f0 == 1 || x.f1 == 0) && ((x.f0 == 0 || true) && b))))))) = !b := by clear HP HQ heq HM HWF; cases b <;> simp [*] <;> omega
       rw [hres]
       clear hres
       go_enter Try.func65, Try.ntmps65
       go_wp2_with (go_at_call 66; refine (zbz x.f2 _ HWF.out HM.out).mono ?_; rintro e w1 ⟨rfl, hb1⟩)
       go_ret
       exact ⟨rfl, zah (zaa (Below.refl _ _) _) hb1⟩
  ·have e20 : (x.f1 == 0) = false := beq_eq_false_iff_ne.2 e2
   by_cases e3 : x.f0 = 0
   ·have e30 : (x.f0 == 0) = true := beq_iff_eq.2 e3
    have g0 : decide (x.f0 < 0) = false := decide_eq_false (by omega)
    have g1 : decide (10 ≤ x.f0) = false := decide_eq_false (by omega)
    by_cases hsb2 : x.f1 < 0
    ·have hsb20 : decide (x.f1 < 0) = true := decide_eq_true hsb2
     have hres : (!(decide (0 ≤ x.f0) && (decide (x.f0 < 10) && (decide (0 ≤ x.f1) && (decide (x.f1 < 6) && ((x.f0 == 1 || x.f1 == 0) && ((x.f0 == 0 || q) && b))))))) = true := by clear HP HQ heq HM HWF; cases b <;> simp [*] <;> omega
     rw [hres]
     clear hres
     go_enter Try.func65, Try.ntmps65
     go_wp2
     go_ret
     exact ⟨rfl, zaa (Below.refl _ _) _⟩
    ·have hsb20 : decide (x.f1 < 0) = false := decide_eq_false (by omega)
     by_cases hsb3 : 6 ≤ x.f1
     ·have hsb30 : decide (6 ≤ x.f1) = true := decide_eq_true hsb3
      have hres : (!(decide (0 ≤ x.f0) && (decide (x.f0 < 10) && (decide (0 ≤ x.f1) && (decide (x.f1 < 6) && ((x.f0 == 1 || x.f1 == 0) && ((x.f0 == 0 || q) && b))))))) = true := by clear HP HQ heq HM HWF; cases b <;> simp [*] <;> omega
      rw [hres]
      clear hres
      go_enter Try.func65, Try.ntmps65
      go_wp2
      go_ret
      exact ⟨rfl, zaa (Below.refl _ _) _⟩
     ·have hsb30 : decide (6 ≤ x.f1) = false := decide_eq_false (by omega)
      have hres : (!(decide (0 ≤ x.f0) && (decide (x.f0 < 10) && (decide (0 ≤ x.f1) && (decide (x.f1 < 6) && ((x.f0 == 1 || x.f1 == 0) && ((x.f0 == 0 || q) && b))))))) = true := by clear HP HQ heq HM HWF; cases b <;> simp [*] <;> omega
      rw [hres]
      clear hres
      go_enter Try.func65, Try.ntmps65
      go_wp2
      go_ret
      exact ⟨rfl, zaa (Below.refl _ _) _⟩
   ·have e30 : (x.f0 == 0) = false := beq_eq_false_iff_ne.2 e3
    cases q
    ·by_cases hsb0 : x.f0 < 0
     ·have hsb00 : decide (x.f0 < 0) = true := decide_eq_true hsb0
      have hres : (!(decide (0 ≤ x.f0) && (decide (x.f0 < 10) && (decide (0 ≤ x.f1) && (decide (x.f1 < 6) && ((x.f0 == 1 || x.f1 == 0) && ((x.f0 == 0 || false) && b))))))) = true := by clear HP HQ heq HM HWF; cases b <;> simp [*] <;> omega
      rw [hres]
      clear hres
      go_enter Try.func65, Try.ntmps65
      go_wp2
      go_ret
      exact ⟨rfl, zaa (Below.refl _ _) _⟩
     ·have hsb00 : decide (x.f0 < 0) = false := decide_eq_false (by omega)
      by_cases hsb1 : 10 ≤ x.f0
      ·have hsb10 : decide (10 ≤ x.f0) = true := decide_eq_true hsb1
       have hres : (!(decide (0 ≤ x.f0) && (decide (x.f0 < 10) && (decide (0 ≤ x.f1) && (decide (x.f1 < 6) && ((x.f0 == 1 || x.f1 == 0) && ((x.f0 == 0 || false) && b))))))) = true := by clear HP HQ heq HM HWF; cases b <;> simp [*] <;> omega
       rw [hres]
       clear hres
       go_enter Try.func65, Try.ntmps65
       go_wp2
       go_ret
       exact ⟨rfl, zaa (Below.refl _ _) _⟩
      ·have hsb10 : decide (10 ≤ x.f0) = false := decide_eq_false (by omega)
       by_cases hsb2 : x.f1 < 0
       ·have hsb20 : decide (x.f1 < 0) = true := decide_eq_true hsb2
        have hres : (!(decide (0 ≤ x.f0) && (decide (x.f0 < 10) && (decide (0 ≤ x.f1) && (decide (x.f1 < 6) && ((x.f0 == 1 || x.f1 == 0) && ((x.f0 == 0 || false) && b))))))) = true := by clear HP HQ heq HM HWF; cases b <;> simp [*] <;> omega
        rw [hres]
        clear hres
        go_enter Try.func65, Try.ntmps65
        go_wp2
        go_ret
        exact ⟨rfl, zaa (Below.refl _ _) _⟩
       ·have hsb20 : decide (x.f1 < 0) = false := decide_eq_false (by omega)
        by_cases hsb3 : 6 ≤ x.f1
        ·have hsb30 : decide (6 ≤ x.f1) = true := decide_eq_true hsb3
         have hres : (!(decide (0 ≤ x.f0) && (decide (x.f0 < 10) && (decide (0 ≤ x.f1) && (decide (x.f1 < 6) && ((x.f0 == 1 || x.f1 == 0) && ((x.f0 == 0 || false) && b))))))) = true := by clear HP HQ heq HM HWF; cases b <;> simp [*] <;> omega
         rw [hres]
         clear hres
         go_enter Try.func65, Try.ntmps65
         go_wp2
         go_ret
         exact ⟨rfl, zaa (Below.refl _ _) _⟩
        ·have hsb30 : decide (6 ≤ x.f1) = false := decide_eq_false (by omega)
         have hres : (!(decide (0 ≤ x.f0) && (decide (x.f0 < 10) && (decide (0 ≤ x.f1) && (decide (x.f1 < 6) && ((x.f0 == 1 || x.f1 == 0) && ((x.f0 == 0 || false) && b))))))) = true := by clear HP HQ heq HM HWF; cases b <;> simp [*] <;> omega
         rw [hres]
         clear hres
         go_enter Try.func65, Try.ntmps65
         go_wp2
         go_ret
         exact ⟨rfl, zaa (Below.refl _ _) _⟩
    ·by_cases hsb0 : x.f0 < 0
     ·have hsb00 : decide (x.f0 < 0) = true := decide_eq_true hsb0
      have hres : (!(decide (0 ≤ x.f0) && (decide (x.f0 < 10) && (decide (0 ≤ x.f1) && (decide (x.f1 < 6) && ((x.f0 == 1 || x.f1 == 0) && ((x.f0 == 0 || true) && b))))))) = true := by clear HP HQ heq HM HWF; cases b <;> simp [*] <;> omega
      rw [hres]
      clear hres
      go_enter Try.func65, Try.ntmps65
      go_wp2
      go_ret
      exact ⟨rfl, zaa (Below.refl _ _) _⟩
     ·have hsb00 : decide (x.f0 < 0) = false := decide_eq_false (by omega)
      by_cases hsb1 : 10 ≤ x.f0
      ·have hsb10 : decide (10 ≤ x.f0) = true := decide_eq_true hsb1
       have hres : (!(decide (0 ≤ x.f0) && (decide (x.f0 < 10) && (decide (0 ≤ x.f1) && (decide (x.f1 < 6) && ((x.f0 == 1 || x.f1 == 0) && ((x.f0 == 0 || true) && b))))))) = true := by clear HP HQ heq HM HWF; cases b <;> simp [*] <;> omega
       rw [hres]
       clear hres
       go_enter Try.func65, Try.ntmps65
       go_wp2
       go_ret
       exact ⟨rfl, zaa (Below.refl _ _) _⟩
      ·have hsb10 : decide (10 ≤ x.f0) = false := decide_eq_false (by omega)
       by_cases hsb2 : x.f1 < 0
       ·have hsb20 : decide (x.f1 < 0) = true := decide_eq_true hsb2
        have hres : (!(decide (0 ≤ x.f0) && (decide (x.f0 < 10) && (decide (0 ≤ x.f1) && (decide (x.f1 < 6) && ((x.f0 == 1 || x.f1 == 0) && ((x.f0 == 0 || true) && b))))))) = true := by clear HP HQ heq HM HWF; cases b <;> simp [*] <;> omega
        rw [hres]
        clear hres
        go_enter Try.func65, Try.ntmps65
        go_wp2
        go_ret
        exact ⟨rfl, zaa (Below.refl _ _) _⟩
       ·have hsb20 : decide (x.f1 < 0) = false := decide_eq_false (by omega)
        by_cases hsb3 : 6 ≤ x.f1
        ·have hsb30 : decide (6 ≤ x.f1) = true := decide_eq_true hsb3
         have hres : (!(decide (0 ≤ x.f0) && (decide (x.f0 < 10) && (decide (0 ≤ x.f1) && (decide (x.f1 < 6) && ((x.f0 == 1 || x.f1 == 0) && ((x.f0 == 0 || true) && b))))))) = true := by clear HP HQ heq HM HWF; cases b <;> simp [*] <;> omega
         rw [hres]
         clear hres
         go_enter Try.func65, Try.ntmps65
         go_wp2
         go_ret
         exact ⟨rfl, zaa (Below.refl _ _) _⟩
        ·have hsb30 : decide (6 ≤ x.f1) = false := decide_eq_false (by omega)
         have hres : (!(decide (0 ≤ x.f0) && (decide (x.f0 < 10) && (decide (0 ≤ x.f1) && (decide (x.f1 < 6) && ((x.f0 == 1 || x.f1 == 0) && ((x.f0 == 0 || true) && b))))))) = true := by clear HP HQ heq HM HWF; cases b <;> simp [*] <;> omega
         rw [hres]
         clear hres
         go_enter Try.func65, Try.ntmps65
         go_wp2
         go_ret
         exact ⟨rfl, zaa (Below.refl _ _) _⟩
set_option maxHeartbeats 1000000 in
set_option maxRecDepth 100000 in
theorem mayO_told (l : List SOp) (A : Option Addr) (c : Nat) (w : World) (hr : Kd.C kOp w A l.length l) (hc : l.length ≤ c) (hwf : ∀ x ∈ l, i64V x.f2) {b : Bool} (hm : mayO l = b) :
  Calls Try.prog 58 #[.slice A l.length c] w (za2 b w) := by
 have HR := Aside0.mk hr
 have HC := Aside0.mk hc
 have HWF := Aside0.mk hwf
 have hl := hr.2.1
 clear hr hc hwf
 unfold mayO at hm
 by_cases h2 : l.length ≤ 12
 ·rw [decide_eq_true h2, Bool.true_and] at hm
  have HCF := Aside0.mk (fun (W : World) (h : Below w.heap.size w W) => slices_ContainsFunc_api_Op.toldw 65 #[] (fun x => !mayP x) (fun x => i64V x.f2) A c l W (enters_of Try.func65 (by kernel_rfl) rfl) (may1O_told W) HWF.out (Kd.C_below HR.out h) HC.out)
  have e : l.any (fun x => !mayP x) = !b := by rw [← hm, List.not_all_eq_any_not]
  rw [e] at HCF
  clear e hm
  have h2i : (l.length : Int) ≤ 12 := by omega
  go_enter Try.func58, Try.ntmps58
  go_wp2_with (go_at_call 67; refine (HCF.out _ (Below.refl _ _)).mono ?_; rintro e w2 ⟨rfl, hb2⟩)
  go_ret
  exact ⟨rfl, hb2⟩
 ·rw [decide_eq_false h2, Bool.false_and] at hm
  subst hm
  have h2i : ¬ (l.length : Int) ≤ 12 := by omega
  go_enter Try.func58, Try.ntmps58
  go_wp2
  go_ret
  exact ⟨rfl, Below.refl _ _⟩
end Go.Proofs.Ytooemobolfoefaa.P


namespace Go.Proofs.Ytooemobolfoefaa.P
open Go.RowKit Go.Proofs.YtooemobolfoefaaW.PrintWords Go.Proofs.YtooemobolfoefaaW.PrintLast Go.Proofs.YtooemobolfoefaaW.PrintMore
attribute [local go_sem] za1 zaZ zbb zba zaU zaT za0 zaY   -- for this text's walks alone
set_option linter.unusedVariables false
set_option linter.unusedSimpArgs false
def putORel (P0 : List Int) (l : List SOp) (w : World) (k : Nat) (v : Value) (w' : World) : Prop := k ≤ l.length ∧ Own8 5 w.heap.size w' v (P0 ++ opsL (l.take k)) ∧ Below w.heap.size w w' ∧ (P0 ++ opsL (l.take k)).length ≤ 10 + 60 * k
theorem bytesV_few {x : SValue} (h : okV x) : (bytesV x).length ≤ 51 := by
 have h1 := lePut_len (numV_lt h.2 h.1)
 have h2 : x.f2.size ≤ 40 := by
  rcases mayV_iff.1 h.1 with ⟨_, hs⟩ | ⟨_, hs, _⟩ | ⟨_, _, hs⟩ | ⟨_, hs, _⟩
  ·rw [za4 hs]; decide
  ·rw [za4 hs]; decide
  ·exact hs
  ·rw [za4 hs]; decide
 unfold bytesV
 simp only [List.length_cons, List.length_append, za6]
 omega
set_option maxHeartbeats 1000000 in
set_option maxRecDepth 100000 in
theorem putO_no (l : List SOp) (A : Option Addr) (c : Nat) (w : World) (hr : Kd.C kOp w A l.length l) (hc : l.length ≤ c) (hwf : ∀ x ∈ l, i64V x.f2) (h1 : mayO l = false) : Calls Try.prog 40 #[.slice A l.length c] w (bytesPost 5 [] false w) := by
 go_enter Try.func40, Try.ntmps40
 go_wp2_with fail
 go_at_call 58
 refine (mayO_told l A c _ hr hc hwf h1).mono ?_
 rintro e w1 ⟨rfl, hb1⟩
 go_wp2_with fail
 go_ret2
 exact ⟨_, rfl, Kd.R_nil _ _ _ _ _, hb1⟩
set_option maxHeartbeats 8000000 in
set_option maxRecDepth 100000 in
theorem putO_go (l : List SOp) (A : Option Addr) (c : Nat) (w : World) (hr : Kd.C kOp w A l.length l) (hc : l.length ≤ c) (hwf : ∀ x ∈ l, i64V x.f2) (h1 : mayO l = true) : Calls Try.prog 40 #[.slice A l.length c] w (bytesPost 5 (zbo l) true w) := by
 have HR := Aside0.mk hr
 have HC := Aside0.mk hc
 have HWF := Aside0.mk hwf
 have HM := Aside0.mk h1
 have HMP := Aside0.mk (mayO_iff.1 h1).2
 have hl := (mayO_iff.1 h1).1
 have hlp := lePut_len (n := l.length) (by omega)
 have hu : IntKind.u64.wrap (l.length : Int) = (l.length : Int) := u64_small' (by omega)
 obtain ⟨P0, hP0⟩ : ∃ P0, zaK l.length = P0 := ⟨_, rfl⟩
 have HP0 := Aside0.mk hP0
 have HBO : Aside0 (P0 ++ opsL l = zbo l) := ⟨by rw [← hP0]; rfl⟩
 rw [hP0] at hlp
 clear hr hc hwf h1 hP0
 go_enter Try.func40, Try.ntmps40
 go_wp2_with fail
 go_at_call 58
 refine (mayO_told l A c _ HR.out HC.out HWF.out HM.out).mono ?_
 rintro e w1 ⟨rfl, hb1⟩
 have HB1 := Aside0.mk hb1
 clear hb1
 go_wp2_with fail
 go_at_call 41
 refine (le_Put.told l.length _ (by omega)).mono ?_
 rintro e w2 ⟨v2, rfl, ho2, hb2⟩
 rw [HP0.out] at ho2
 have HO2 := Aside0.mk (Own8.lower (show Own8 _ _ _ _ _ from ho2) (zan HB1.out))
 have HB2 := Aside0.mk (zah HB1.out hb2)
 clear ho2 hb2
 go_wp2_with fail
 go_loopw [4, 6, 7, 8, 18] (fun v4 _ _ _ v18 w' => ∃ k : Nat, v18 = .int .i64 k ∧ putORel P0 l w k v4 w') (fun _ _ _ _ i _ => l.length - (intOf i).toNat)
 case atStart => exact ⟨0, rfl, Nat.zero_le _, by rw [show P0 ++ opsL (l.take 0) = P0 from by simp [opsL]]; exact HO2.out, HB2.out, by rw [show P0 ++ opsL (l.take 0) = P0 from by simp [opsL]]; omega⟩
 case round =>
  obtain ⟨k, rfl, hk, ho, hb, hlen⟩ := hrel
  have HO := Aside0.mk ho
  have HB := Aside0.mk hb
  clear ho hb HO2 HB2
  by_cases hlt : k < l.length
  ·obtain ⟨ad, e, z0, z1, z2, z3, z4⟩ := at_TOp (Kd.C_below HR.out HB.out) (k : Int) (by omega) (by omega)
   cases e
   simp only [Int.toNat_natCast] at z0 z1 z2 z3 z4
   rw [show zaJ l (k : Int) = l.getD k zOp from rfl] at z0 z1 z2 z3 z4
   have hin := getD_in zOp hlt
   have hmp := HMP.out _ hin
   have hix := HWF.out _ hin
   have HSN := Aside0.mk (opsL_snoc l k hlt)
   generalize l.getD k zOp = x at *
   have hmq := mayP_iff.1 hmp
   obtain ⟨q0, q1, q2, q3, _, _, q6⟩ := hmq
   have HKX : Aside0 (okV x.f2) := ⟨⟨q6, hix⟩⟩
   have hbf := bytesV_few HKX.out
   have hw0 : IntKind.u8.wrap x.f0 = x.f0 := by rw [show IntKind.u8.wrap x.f0 = x.f0 % 256 from rfl]; omega
   have hw1 : IntKind.u8.wrap x.f1 = x.f1 := by rw [show IntKind.u8.wrap x.f1 = x.f1 % 256 from rfl]; omega
   obtain ⟨pre, hpre⟩ : ∃ pre, P0 ++ opsL (l.take k) = pre := ⟨_, rfl⟩
   rw [hpre] at HO hlen
   have HPRE := Aside0.mk hpre
   have HBX := Aside0.mk (zaa HB.out (.cells #[.int .i64 x.f0, .int .i64 x.f1, .int .i64 x.f2.f0, .int .i64 x.f2.f1, .string x.f2.f2] 75))
   have HOX := Aside0.mk (Kd.R_alloc HO.out (.cells #[.int .i64 x.f0, .int .i64 x.f1, .int .i64 x.f2.f0, .int .i64 x.f2.f1, .string x.f2.f2] 75))
   have HKB := Aside0.mk (zaw wr (.cells #[.int .i64 x.f0, .int .i64 x.f1, .int .i64 x.f2.f0, .int .i64 x.f2.f1, .string x.f2.f2] 75))
   clear hpre hmp hix q6 q2 hin
   have HNE := Aside0.mk (Kd.R_ne HOX.out HKB.out (by decide))
   have hpl : (pre ++ [x.f0]).length = pre.length + 1 := by simp
   have hk1 : k + 1 ≤ l.length := by omega
   obtain ⟨pr2, hpr2⟩ : ∃ pr2, pre ++ [x.f0] = pr2 := ⟨_, rfl⟩
   rw [hpr2] at hpl
   have HPR2 := Aside0.mk hpr2
   clear hpr2
   by_cases c0 : x.f0 = 0
   ·have c0b : (x.f0 == 0) = true := beq_iff_eq.2 c0
    have HPN : Aside0 (P0 ++ opsL (l.take (k + 1)) = pr2 ++ bytesV x.f2) := ⟨by rw [HSN.out, ← List.append_assoc, HPRE.out, ← HPR2.out, show bytesP x = x.f0 :: bytesV x.f2 from by unfold bytesP; rw [if_pos c0], List.append_assoc]; rfl⟩
    clear c0
    go_wp2_with ((with_reducible refine zaD (b := .append) (xs := #[.tmp 22, .tmp 26]) rfl ?_); at_builtin; refine Kd.R_append (Kd.int .u8) (w0 := w) w.heap.size rfl (.tmp 22) (.tmp 26) 25 5 (.int .u8 0) 1 rfl Try.underlying25 info5 rfl ?h1 ?h2 u4 (pre) (x.f0) [.int .u8 (x.f0)] (fun _ => True) (fun _ => False) ?hs ?hx ?aP (fun _ hk => hk.elim) (fun _ _ => trivial) ?aO ?aB ?aS ?aL ?_; (case h1 => decide); (case h2 => decide); (case hs => rfl); (case hx => first | rfl | (show Value.slice (some ⟨wr.heap.size + 1, 0, none⟩) 1 1 = _; rw [World.size_alloc])); (case aP => exact rfl); (case aO => exact HOX.out); (case aB => exact HBX.out); (case aS => exact zan (HBX.out)); (case aL => omega); intro v3 w3 ho3 hb3 hg3 hat3; have HO3 := Aside0.mk ho3; have HB3 := Aside0.mk hb3; have HK3 := Aside0.mk (za3 HKB.out hg3 HNE.out); obtain ⟨j1, j2, j3, j4⟩ := know HK3.out; rw [HPR2.out] at HO3; clear ho3 hb3 hg3 hat3)
    go_at_call 59
    refine (value_Put.told x.f2 _ HKX.out.2 HKX.out.1 (if_pos rfl)).mono ?_
    rintro e w7 ⟨v7, rfl, ho7, hb7⟩
    obtain ⟨A7, c7, rfl, hc7, hr7⟩ := Own8.reads ho7
    have HR7 := Aside0.mk hr7
    have HO7 := Aside0.mk (Own8.below (show Own8 _ _ _ _ _ from HO3.out) hb7)
    have HB7 := Aside0.mk (zah HB3.out hb7)
    clear ho7 hr7 hb7 j1 j2 j3 j4
    go_wp2_with ((with_reducible refine zaD (b := .append) (xs := #[.tmp 38, .tmp 39]) rfl ?_); at_builtin; refine app8 (w0 := w) w.heap.size rfl _ _ 25 5 rfl Try.underlying25 info5 _ pr2 (bytesV x.f2) A7 _ c7 rfl rfl HO7.out HR7.out HB7.out (zan HB7.out) (by omega) ?_; intro v8 w8 ho8 hb8 hg8; have HO8 := Aside0.mk ho8; have HB8 := Aside0.mk hb8; clear ho8 hb8 hg8)
    go_roundw
    case rel => exact ⟨k + 1, by go_num, hk1, by rw [HPN.out]; exact HO8.out, HB8.out, by rw [HPN.out, List.length_append]; omega⟩
    case measure => simp [intOf]; omega
   ·have c0b : (x.f0 == 0) = false := beq_eq_false_iff_ne.2 c0
    by_cases c1 : x.f0 = 1
    ·have c1b : (x.f0 == 1) = true := beq_iff_eq.2 c1
     have HPN : Aside0 (P0 ++ opsL (l.take (k + 1)) = pr2 ++ [x.f1]) := ⟨by rw [HSN.out, ← List.append_assoc, HPRE.out, ← HPR2.out, show bytesP x = x.f0 :: [x.f1] from by unfold bytesP; rw [if_neg c0, if_pos c1], List.append_assoc]; rfl⟩
     clear c0 c1
     go_wp2_with (first
      | ((with_reducible refine zaD (b := .append) (xs := #[.tmp 22, .tmp 26]) rfl ?_); at_builtin; refine Kd.R_append (Kd.int .u8) (w0 := w) w.heap.size rfl (.tmp 22) (.tmp 26) 25 5 (.int .u8 0) 1 rfl Try.underlying25 info5 rfl ?h1 ?h2 u4 (pre) (x.f0) [.int .u8 (x.f0)] (fun _ => True) (fun _ => False) ?hs ?hx ?aP (fun _ hk => hk.elim) (fun _ _ => trivial) ?aO ?aB ?aS ?aL ?_; (case h1 => decide); (case h2 => decide); (case hs => rfl); (case hx => first | rfl | (show Value.slice (some ⟨wr.heap.size + 1, 0, none⟩) 1 1 = _; rw [World.size_alloc])); (case aP => exact rfl); (case aO => exact HOX.out); (case aB => exact HBX.out); (case aS => exact zan (HBX.out)); (case aL => omega); intro v3 w3 ho3 hb3 hg3 hat3; have HO3 := Aside0.mk ho3; have HB3 := Aside0.mk hb3; have HK3 := Aside0.mk (za3 HKB.out hg3 HNE.out); obtain ⟨j1, j2, j3, j4⟩ := know HK3.out; rw [HPR2.out] at HO3; clear ho3 hb3 hg3 hat3)
      | ((with_reducible refine zaD (b := .append) (xs := #[.tmp 43, .tmp 47]) rfl ?_); at_builtin; refine Kd.R_append (Kd.int .u8) (w0 := w) w.heap.size rfl (.tmp 43) (.tmp 47) 25 5 (.int .u8 0) 1 rfl Try.underlying25 info5 rfl ?h1 ?h2 v3 (pr2) (x.f1) [.int .u8 (x.f1)] (fun _ => True) (fun _ => False) ?hs ?hx ?aP (fun _ hk => hk.elim) (fun _ _ => trivial) ?aO ?aB ?aS ?aL ?_; (case h1 => decide); (case h2 => decide); (case hs => rfl); (case hx => first | rfl | (show Value.slice (some ⟨wr.heap.size + 1, 0, none⟩) 1 1 = _; rw [World.size_alloc])); (case aP => exact rfl); (case aO => exact HO3.out); (case aB => exact HB3.out); (case aS => exact zan (HB3.out)); (case aL => omega); intro v4 w4 ho4 hb4 hg4 hat4; have HO4 := Aside0.mk ho4; have HB4 := Aside0.mk hb4; clear ho4 hb4 hg4 hat4))
     go_roundw
     case rel => exact ⟨k + 1, by go_num, hk1, by rw [HPN.out]; exact HO4.out, HB4.out, by rw [HPN.out, List.length_append, List.length_singleton]; omega⟩
     case measure => simp [intOf]; omega
    ·have c1b : (x.f0 == 1) = false := beq_eq_false_iff_ne.2 c1
     have HPN : Aside0 (P0 ++ opsL (l.take (k + 1)) = pr2) := ⟨by rw [HSN.out, ← List.append_assoc, HPRE.out, ← HPR2.out, show bytesP x = [x.f0] from by unfold bytesP; rw [if_neg c0, if_neg c1]]⟩
     clear c0 c1
     go_wp2_with ((with_reducible refine zaD (b := .append) (xs := #[.tmp 22, .tmp 26]) rfl ?_); at_builtin; refine Kd.R_append (Kd.int .u8) (w0 := w) w.heap.size rfl (.tmp 22) (.tmp 26) 25 5 (.int .u8 0) 1 rfl Try.underlying25 info5 rfl ?h1 ?h2 u4 (pre) (x.f0) [.int .u8 (x.f0)] (fun _ => True) (fun _ => False) ?hs ?hx ?aP (fun _ hk => hk.elim) (fun _ _ => trivial) ?aO ?aB ?aS ?aL ?_; (case h1 => decide); (case h2 => decide); (case hs => rfl); (case hx => first | rfl | (show Value.slice (some ⟨wr.heap.size + 1, 0, none⟩) 1 1 = _; rw [World.size_alloc])); (case aP => exact rfl); (case aO => exact HOX.out); (case aB => exact HBX.out); (case aS => exact zan (HBX.out)); (case aL => omega); intro v3 w3 ho3 hb3 hg3 hat3; have HO3 := Aside0.mk ho3; have HB3 := Aside0.mk hb3; have HK3 := Aside0.mk (za3 HKB.out hg3 HNE.out); obtain ⟨j1, j2, j3, j4⟩ := know HK3.out; rw [HPR2.out] at HO3; clear ho3 hb3 hg3 hat3)
     go_roundw
     case rel => exact ⟨k + 1, by go_num, hk1, by rw [HPN.out]; exact HO3.out, HB3.out, by rw [HPN.out]; omega⟩
     case measure => simp [intOf]; omega
  ·have hk3 : k = l.length := by omega
   have hfin := HO.out
   rw [hk3, List.take_length, HBO.out] at hfin
   have HFIN := Aside0.mk hfin
   clear hfin hk3
   go_wp2_with fail
   go_ret2
   exact ⟨_, rfl, HFIN.out, HB.out⟩
theorem putO_told (l : List SOp) (A : Option Addr) (c : Nat) (w : World) (hr : Kd.C kOp w A l.length l) (hc : l.length ≤ c) (hwf : ∀ x ∈ l, i64V x.f2) {b : Bool} (hm : mayO l = b) {P : List Int} (hP : (if b then zbo l else []) = P) : Calls Try.prog 40 #[.slice A l.length c] w (bytesPost 5 P b w) := by
 subst hP
 cases b with
 | false => exact putO_no l A c w hr hc hwf hm
 | true => exact putO_go l A c w hr hc hwf hm
theorem eqAOp (d : Nat) (w : World) (x0 y0 : Int) (x1 y1 : Int) (x2 y2 : Int) (x3 y3 : Int) (x4 y4 : ByteArray) :
  (Op.equalIn (d + 3) 75 (.agg #[.int .i64 x0, .int .i64 x1, .int .i64 x2, .int .i64 x3, .string x4]) (.agg #[.int .i64 y0, .int .i64 y1, .int .i64 y2, .int .i64 y3, .string y4])).run Try.prog w = .ok (x0 == y0 && (x1 == y1 && ((x2 == y2 && (x3 == y3 && (x4.toList == y4.toList)))))) w := by
 refine eqA_of Try.underlying75 (by kernel_rfl) ?_
 refine eqf_cons (by rfl) (by go_simp; rfl) (by go_simp; rfl) (by go_simp) ?_
 refine eqf_cons (by rfl) (by go_simp; rfl) (by go_simp; rfl) (by go_simp) ?_
 exact eqf_last (by rfl) (by go_simp) (by go_simp) (eqAValue (d + 0) w _ _ _ _ _ _)
end Go.Proofs.Ytooemobolfoefaa.P


namespace Go.Proofs.Ytooemobolfoefaa.P
open Go.RowKit Go.Proofs.YtooemobolfoefaaW.PrintWords Go.Proofs.YtooemobolfoefaaW.PrintLast Go.Proofs.YtooemobolfoefaaW.PrintMore
attribute [local go_sem] za1 zaZ zbb zba zaU zaT za0 zaY   -- for this text's walks alone
set_option linter.unusedVariables false
set_option linter.unusedSimpArgs false
attribute [local go_sem high] eqAOp
def slices_Equal_api_Op.l0 : Nat → List (SOp) → List (SOp) → Int → Int → Option (Bool)
 | 0, _, _, _, _ => none
 | k + 1, x0, x1, x12, x13 => if x13 < x12 then (if 0 ≤ x13 then (if x13 < (x0.length : Int) then (if x13 < (x1.length : Int) then (if (!(((zaJ x0 x13).f0) == ((zaJ x1 x13).f0)) || (!(((zaJ x0 x13).f1) == ((zaJ x1 x13).f1)) || ((!(((zaJ x0 x13).f2.f0) == ((zaJ x1 x13).f2.f0)) || (!(((zaJ x0 x13).f2.f1) == ((zaJ x1 x13).f2.f1)) || (!((((zaJ x0 x13).f2.f2).toList) == (((zaJ x1 x13).f2.f2).toList)))))))) = true then (some false) else (slices_Equal_api_Op.l0 k x0 x1 x12 (wrap64 (x13 + 1)))) else (none)) else (none)) else (none)) else (some true)
def slices_Equal_api_Op.f (k : Nat) (l0 : List (SOp)) (l1 : List (SOp)) : Option (Bool) := if (l0.length : Int) = (l1.length : Int) then (slices_Equal_api_Op.l0 k l0 l1 (l0.length : Int) 0) else (some false)
set_option maxHeartbeats 8000000 in
set_option maxRecDepth 100000 in
theorem slices_Equal_api_Op.calls (k : Nat) (A0 : Option Addr) (c0 : Nat) (l0 : List (SOp)) (A1 : Option Addr) (c1 : Nat) (l1 : List (SOp)) (r : Bool) (w : World) (hr0 : Kd.C kOp w A0 l0.length l0) (hc0 : l0.length ≤ c0) (hr1 : Kd.C kOp w A1 l1.length l1) (hc1 : l1.length ≤ c1) (h : slices_Equal_api_Op.f k l0 l1 = some r) :
  Calls Try.prog 61 #[.slice A0 l0.length c0, .slice A1 l1.length c1] w fun e w' => e = .returned (.bool r) ∧ Drawn0 w w' := by
 have hu75 := Try.underlying75
 have HR0 := Aside0.mk hr0
 have HC0 := Aside0.mk hc0
 clear hr0 hc0
 have HR1 := Aside0.mk hr1
 have HC1 := Aside0.mk hc1
 clear hr1 hc1
 have H : (if (l0.length : Int) = (l1.length : Int) then (slices_Equal_api_Op.l0 k l0 l1 (l0.length : Int) 0) else (some false)) = some r := h
 clear h
 by_cases c3 : (l0.length : Int) = (l1.length : Int)
 ·rw [if_pos c3] at H
  have c3b0 : ((l0.length : Int) == (l1.length : Int)) = true := beq_iff_eq.mpr c3
  have c3b1 : ((l0.length : Int) != (l1.length : Int)) = false := bne_eq_false_iff_eq.mpr c3
  have c3b2 : (l0.length == l1.length) = true := by first | simpa using c3 | (simp at c3 ⊢; omega)
  clear c3
  have H' := Aside0.mk H
  clear H
  go_enter Try.func61, Try.ntmps61
  go_wp2
  repeat (go_quiet (fail); try go_wp2)
  go_loopg [13] k (fun kq v13 w' => ∃ (x13_1 : Int), v13 = .int .i64 x13_1 ∧ Aside0 (slices_Equal_api_Op.l0 kq l0 l1 (l0.length : Int) x13_1 = some r) ∧ Aside0 (kq ≤ k) ∧ Drawn0 w w')
  case atStart => exact ⟨(0), (by first | rfl | (simp; done) | (simp [*]; done)), H', ⟨Nat.le_refl _⟩, by repeat (first | exact Drawn0.refl _ | apply Drawn0.step)⟩
  case round =>
   clear H'
   try clear c1
   try clear p2
   try clear c3
   try clear c3b0
   try clear c3b1
   try clear c3b2
   obtain ⟨x13_1, rfl, HA, HK1, ⟨m1, rfl⟩⟩ := hrel
   cases gk with
   | zero => exact absurd HA.out (by simp [slices_Equal_api_Op.l0])
   | succ k1 =>
    have H := HA.out
    clear HA
    simp only [slices_Equal_api_Op.l0] at H
    by_cases c4 : x13_1 < (l0.length : Int)
    ·rw [if_pos c4] at H
     have c4b0 : decide (x13_1 < (l0.length : Int)) = true := decide_eq_true c4
     clear c4
     by_cases c5 : 0 ≤ x13_1
     ·rw [if_pos c5] at H
      have c5b0 : decide (0 ≤ x13_1) = true := decide_eq_true c5
      clear c5
      by_cases c6 : x13_1 < (l0.length : Int)
      ·rw [if_pos c6] at H
       have c6b0 : decide (x13_1 < (l0.length : Int)) = true := decide_eq_true c6
       clear c6
       by_cases c7 : x13_1 < (l1.length : Int)
       ·rw [if_pos c7] at H
        have c7b0 : decide (x13_1 < (l1.length : Int)) = true := decide_eq_true c7
        clear c7
        by_cases c8 : (!(((zaJ l0 x13_1).f0) == ((zaJ l1 x13_1).f0)) || (!(((zaJ l0 x13_1).f1) == ((zaJ l1 x13_1).f1)) || ((!(((zaJ l0 x13_1).f2.f0) == ((zaJ l1 x13_1).f2.f0)) || (!(((zaJ l0 x13_1).f2.f1) == ((zaJ l1 x13_1).f2.f1)) || (!((((zaJ l0 x13_1).f2.f2).toList) == (((zaJ l1 x13_1).f2.f2).toList)))))))) = true
        ·rw [if_pos c8] at H
         have c8b0 : (!(((zaJ l0 x13_1).f0) == ((zaJ l1 x13_1).f0)) || (!(((zaJ l0 x13_1).f1) == ((zaJ l1 x13_1).f1)) || ((!(((zaJ l0 x13_1).f2.f0) == ((zaJ l1 x13_1).f2.f0)) || (!(((zaJ l0 x13_1).f2.f1) == ((zaJ l1 x13_1).f2.f1)) || (!((((zaJ l0 x13_1).f2.f2).toList) == (((zaJ l1 x13_1).f2.f2).toList)))))))) = true := c8
         clear c8
         obtain rfl := Option.some.inj H
         have p124 : 0 ≤ (x13_1 : Int) := of_decide_eq_true (by first | (with_reducible assumption) | assumption)
         have q124 : x13_1 < (l0.length : Int) := of_decide_eq_true (by first | (with_reducible assumption) | assumption)
         obtain ⟨ad124, e124, hx124_0, hx124_1, hx124_2, hx124_3, hx124_4⟩ := at_TOp HR0.out x13_1 p124 q124
         cases e124
         replace p124 := eq_true p124
         replace q124 := eq_true q124
         have p125 : 0 ≤ (x13_1 : Int) := of_decide_eq_true (by first | (with_reducible assumption) | assumption)
         have q125 : x13_1 < (l1.length : Int) := of_decide_eq_true (by first | (with_reducible assumption) | assumption)
         obtain ⟨ad125, e125, hx125_0, hx125_1, hx125_2, hx125_3, hx125_4⟩ := at_TOp HR1.out x13_1 p125 q125
         cases e125
         replace p125 := eq_true p125
         replace q125 := eq_true q125
         go_wp2
         repeat (go_quiet (fail); try go_wp2)
         go_ret
         exact ⟨by first | rfl | (simp; done) | (simp [*]; done), by repeat (first | exact Drawn0.refl _ | apply Drawn0.step)⟩
        ·rw [if_neg c8] at H
         have c8b0 : (!(((zaJ l0 x13_1).f0) == ((zaJ l1 x13_1).f0)) || (!(((zaJ l0 x13_1).f1) == ((zaJ l1 x13_1).f1)) || ((!(((zaJ l0 x13_1).f2.f0) == ((zaJ l1 x13_1).f2.f0)) || (!(((zaJ l0 x13_1).f2.f1) == ((zaJ l1 x13_1).f2.f1)) || (!((((zaJ l0 x13_1).f2.f2).toList) == (((zaJ l1 x13_1).f2.f2).toList)))))))) = false := by simpa using c8
         clear c8
         have H' := Aside0.mk H
         clear H
         have p124 : 0 ≤ (x13_1 : Int) := of_decide_eq_true (by first | (with_reducible assumption) | assumption)
         have q124 : x13_1 < (l0.length : Int) := of_decide_eq_true (by first | (with_reducible assumption) | assumption)
         obtain ⟨ad124, e124, hx124_0, hx124_1, hx124_2, hx124_3, hx124_4⟩ := at_TOp HR0.out x13_1 p124 q124
         cases e124
         replace p124 := eq_true p124
         replace q124 := eq_true q124
         have p125 : 0 ≤ (x13_1 : Int) := of_decide_eq_true (by first | (with_reducible assumption) | assumption)
         have q125 : x13_1 < (l1.length : Int) := of_decide_eq_true (by first | (with_reducible assumption) | assumption)
         obtain ⟨ad125, e125, hx125_0, hx125_1, hx125_2, hx125_3, hx125_4⟩ := at_TOp HR1.out x13_1 p125 q125
         cases e125
         replace p125 := eq_true p125
         replace q125 := eq_true q125
         go_wp2
         repeat (go_quiet (fail); try go_wp2)
         go_roundg k1
         case measure => have := HK1.out; omega
         case rel => exact ⟨(wrap64 (x13_1 + 1)), (by first | rfl | (simp; done) | (simp [*]; done)), H', ⟨by have := HK1.out; omega⟩, by repeat (first | exact Drawn0.refl _ | apply Drawn0.step)⟩
       ·rw [if_neg c7] at H
        exact absurd H (by simp)
      ·rw [if_neg c6] at H
       exact absurd H (by simp)
     ·rw [if_neg c5] at H
      exact absurd H (by simp)
    ·rw [if_neg c4] at H
     have c4b0 : decide (x13_1 < (l0.length : Int)) = false := decide_eq_false c4
     clear c4
     obtain rfl := Option.some.inj H
     go_wp2
     repeat (go_quiet (fail); try go_wp2)
     go_ret
     exact ⟨by first | rfl | (simp; done) | (simp [*]; done), by repeat (first | exact Drawn0.refl _ | apply Drawn0.step)⟩
 ·rw [if_neg c3] at H
  have c3b0 : ((l0.length : Int) == (l1.length : Int)) = false := beq_eq_false_iff_ne.mpr c3
  have c3b1 : ((l0.length : Int) != (l1.length : Int)) = true := bne_iff_ne.mpr c3
  have c3b2 : (l0.length == l1.length) = false := by first | simpa using c3 | (simp at c3 ⊢; omega)
  obtain rfl := Option.some.inj H
  go_enter Try.func61, Try.ntmps61
  go_wp2
  repeat (go_quiet (fail); try go_wp2)
  go_ret
  exact ⟨by first | rfl | (simp; done) | (simp [*]; done), by repeat (first | exact Drawn0.refl _ | apply Drawn0.step)⟩
end Go.Proofs.Ytooemobolfoefaa.P


namespace Go.Proofs.Ytooemobolfoefaa.P
open Go.RowKit Go.Proofs.YtooemobolfoefaaW.PrintWords Go.Proofs.YtooemobolfoefaaW.PrintLast Go.Proofs.YtooemobolfoefaaW.PrintMore
attribute [local go_sem] za1 zaZ zbb zba zaU zaT za0 zaY   -- for this text's walks alone
set_option linter.unusedVariables false
set_option linter.unusedSimpArgs false
def expr_Same.f (k : Nat) (l0 : List (SOp)) (l1 : List (SOp)) : Option (Bool) := (slices_Equal_api_Op.f k l0 l1).bind fun t126 => (some t126)
set_option maxHeartbeats 8000000 in
set_option maxRecDepth 100000 in
theorem expr_Same.calls (k : Nat) (A0 : Option Addr) (c0 : Nat) (l0 : List (SOp)) (A1 : Option Addr) (c1 : Nat) (l1 : List (SOp)) (r : Bool) (w : World) (hr0 : Kd.C kOp w A0 l0.length l0) (hc0 : l0.length ≤ c0) (hr1 : Kd.C kOp w A1 l1.length l1) (hc1 : l1.length ≤ c1) (h : expr_Same.f k l0 l1 = some r) :
  Calls Try.prog 46 #[.slice A0 l0.length c0, .slice A1 l1.length c1] w fun e w' => e = .returned (.bool r) ∧ Drawn0 w w' := by
 have HR0 := Aside0.mk hr0
 have HC0 := Aside0.mk hc0
 clear hr0 hc0
 have HR1 := Aside0.mk hr1
 have HC1 := Aside0.mk hc1
 clear hr1 hc1
 have H : ((slices_Equal_api_Op.f k l0 l1).bind fun t126 => (some t126)) = some r := h
 clear h
 replace H := Option.bind_eq_some_iff.mp H
 obtain ⟨t126, A30, H⟩ := H
 replace H : (some t126) = some r := H
 have A3 := Aside0.mk A30
 clear A30
 obtain rfl := Option.some.inj H
 go_enter Try.func46, Try.ntmps46
 go_wp2_with (first | ((with_reducible refine zaq (f := 61) rfl ?_); refine zav (some 7) rfl rfl Try.func61 (by kernel_rfl) rfl #[.slice A0 l0.length c0, .slice A1 l1.length c1] rfl (by (try simp only [List.map_toArray, List.map_cons, List.map_nil]); first | done | rfl | (simp only [List.length_drop, List.length_take]; rfl)) ?_; (with_reducible refine (slices_Equal_api_Op.calls k _ _ l0 _ _ l1 t126 _ ?side1 ?side2 ?side3 ?side4 A3.out).mono ?_); (case side1 => repeat (first | exact HR0.out | (with_reducible refine Kd.C_alloc ?_ _) | (with_reducible refine Kd.C_drewN ?_ _) | (with_reducible refine Kd.C_drew ?_))); (case side2 => exact HC0.out); (case side3 => repeat (first | exact HR1.out | (with_reducible refine Kd.C_alloc ?_ _) | (with_reducible refine Kd.C_drewN ?_ _) | (with_reducible refine Kd.C_drew ?_))); (case side4 => exact HC1.out); rintro e w' ⟨rfl, ⟨nd, rfl⟩⟩; refine ⟨_, rfl, ?_⟩))
 go_ret
 exact ⟨by first | rfl | (simp; done) | (simp [*]; done), by repeat (first | exact Drawn0.refl _ | apply Drawn0.step)⟩
def towncrierlaw08_Few.l0 : Nat → List (SOp) → Int → Option (Bool)
 | 0, _, _ => none
 | k + 1, x0, x3 => if x3 < (x0.length : Int) then (if 0 ≤ x3 then (if (((zaJ x0 x3).f2.f2).size : Int) > 100 then (some false) else (towncrierlaw08_Few.l0 k x0 (wrap64 (x3 + 1)))) else (none)) else (some true)
def towncrierlaw08_Few.f (k : Nat) (l0 : List (SOp)) : Option (Bool) := if (l0.length : Int) > 20 then (some false) else (towncrierlaw08_Few.l0 k l0 0)
set_option maxHeartbeats 8000000 in
set_option maxRecDepth 100000 in
theorem towncrierlaw08_Few.calls (k : Nat) (A0 : Option Addr) (c0 : Nat) (l0 : List (SOp)) (r : Bool) (w : World) (hr0 : Kd.C kOp w A0 l0.length l0) (hc0 : l0.length ≤ c0) (h : towncrierlaw08_Few.f k l0 = some r) :
  Calls Try.prog 20 #[.slice A0 l0.length c0] w fun e w' => e = .returned (.bool r) ∧ Drawn0 w w' := by
 have HR0 := Aside0.mk hr0
 have HC0 := Aside0.mk hc0
 clear hr0 hc0
 have H : (if (l0.length : Int) > 20 then (some false) else (towncrierlaw08_Few.l0 k l0 0)) = some r := h
 clear h
 by_cases c2 : (l0.length : Int) > 20
 ·rw [if_pos c2] at H
  have c2b0 : decide (20 < (l0.length : Int)) = true := decide_eq_true c2
  have c2b1 : decide (20 < l0.length) = true := decide_eq_true (by omega)
  clear c2
  obtain rfl := Option.some.inj H
  go_enter Try.func20, Try.ntmps20
  go_wp2
  go_ret
  exact ⟨by first | rfl | (simp; done) | (simp [*]; done), by repeat (first | exact Drawn0.refl _ | apply Drawn0.step)⟩
 ·rw [if_neg c2] at H
  have c2b0 : decide (20 < (l0.length : Int)) = false := decide_eq_false c2
  have c2b1 : decide (20 < l0.length) = false := decide_eq_false (by omega)
  clear c2
  have H' := Aside0.mk H
  clear H
  go_enter Try.func20, Try.ntmps20
  go_wp2
  go_loopg [3] k (fun kq v3 w' => ∃ (x3_1 : Int), v3 = .int .i64 x3_1 ∧ Aside0 (towncrierlaw08_Few.l0 kq l0 x3_1 = some r) ∧ Aside0 (kq ≤ k) ∧ Drawn0 w w')
  case atStart => exact ⟨(0), (by first | rfl | (simp; done) | (simp [*]; done)), H', ⟨Nat.le_refl _⟩, by repeat (first | exact Drawn0.refl _ | apply Drawn0.step)⟩
  case round =>
   clear H'
   try clear c2
   try clear c2b0
   try clear c2b1
   try clear p2
   obtain ⟨x3_1, rfl, HA, HK1, ⟨m1, rfl⟩⟩ := hrel
   cases gk with
   | zero => exact absurd HA.out (by simp [towncrierlaw08_Few.l0])
   | succ k1 =>
    have H := HA.out
    clear HA
    simp only [towncrierlaw08_Few.l0] at H
    by_cases c3 : x3_1 < (l0.length : Int)
    ·rw [if_pos c3] at H
     have c3b0 : decide (x3_1 < (l0.length : Int)) = true := decide_eq_true c3
     clear c3
     by_cases c4 : 0 ≤ x3_1
     ·rw [if_pos c4] at H
      have c4b0 : decide (0 ≤ x3_1) = true := decide_eq_true c4
      clear c4
      by_cases c5 : (((zaJ l0 x3_1).f2.f2).size : Int) > 100
      ·rw [if_pos c5] at H
       have c5b0 : decide (100 < (((zaJ l0 x3_1).f2.f2).size : Int)) = true := decide_eq_true c5
       have c5b1 : decide (100 < ((zaJ l0 x3_1).f2.f2).size) = true := decide_eq_true (by omega)
       clear c5
       obtain rfl := Option.some.inj H
       have p197 : 0 ≤ (x3_1 : Int) := of_decide_eq_true (by first | (with_reducible assumption) | assumption)
       have q197 : x3_1 < (l0.length : Int) := of_decide_eq_true (by first | (with_reducible assumption) | assumption)
       obtain ⟨ad197, e197, hx197_0, hx197_1, hx197_2, hx197_3, hx197_4⟩ := at_TOp HR0.out x3_1 p197 q197
       cases e197
       replace p197 := eq_true p197
       replace q197 := eq_true q197
       go_wp2
       go_ret
       exact ⟨by first | rfl | (simp; done) | (simp [*]; done), by repeat (first | exact Drawn0.refl _ | apply Drawn0.step)⟩
      ·rw [if_neg c5] at H
       have c5b0 : decide (100 < (((zaJ l0 x3_1).f2.f2).size : Int)) = false := decide_eq_false c5
       have c5b1 : decide (100 < ((zaJ l0 x3_1).f2.f2).size) = false := decide_eq_false (by omega)
       clear c5
       have H' := Aside0.mk H
       clear H
       have p197 : 0 ≤ (x3_1 : Int) := of_decide_eq_true (by first | (with_reducible assumption) | assumption)
       have q197 : x3_1 < (l0.length : Int) := of_decide_eq_true (by first | (with_reducible assumption) | assumption)
       obtain ⟨ad197, e197, hx197_0, hx197_1, hx197_2, hx197_3, hx197_4⟩ := at_TOp HR0.out x3_1 p197 q197
       cases e197
       replace p197 := eq_true p197
       replace q197 := eq_true q197
       go_wp2
       go_roundg k1
       case measure => have := HK1.out; omega
       case rel => exact ⟨(wrap64 (x3_1 + 1)), (by first | rfl | (simp; done) | (simp [*]; done)), H', ⟨by have := HK1.out; omega⟩, by repeat (first | exact Drawn0.refl _ | apply Drawn0.step)⟩
     ·rw [if_neg c4] at H
      exact absurd H (by simp)
    ·rw [if_neg c3] at H
     have c3b0 : decide (x3_1 < (l0.length : Int)) = false := decide_eq_false c3
     clear c3
     obtain rfl := Option.some.inj H
     go_wp2
     go_ret
     exact ⟨by first | rfl | (simp; done) | (simp [*]; done), by repeat (first | exact Drawn0.refl _ | apply Drawn0.step)⟩
end Go.Proofs.Ytooemobolfoefaa.P


namespace Go.Proofs.Ytooemobolfoefaa.P
open Go.RowKit Go.Proofs.YtooemobolfoefaaW.PrintWords Go.Proofs.YtooemobolfoefaaW.PrintLast Go.Proofs.YtooemobolfoefaaW.PrintMore
set_option linter.unusedVariables false
def eqP (x y : SOp) : Bool := (x.f0 == y.f0) && ((x.f1 == y.f1) && eqV x.f2 y.f2)
theorem neP {x y : SOp} : (!(x.f0 == y.f0) || (!(x.f1 == y.f1) || (!(x.f2.f0 == y.f2.f0) || (!(x.f2.f1 == y.f2.f1) || !(x.f2.f2.toList == y.f2.f2.toList))))) = !(eqP x y) := by
 unfold eqP
 rw [neV]
 cases (x.f0 == y.f0) <;> cases (x.f1 == y.f1) <;> cases (eqV x.f2 y.f2) <;> rfl
theorem eqP_iff {x y : SOp} : eqP x y = true ↔ x = y := by
 unfold eqP
 simp only [Bool.and_eq_true, beq_iff_eq, eqV_iff]
 constructor
 ·rintro ⟨h1, h2, h3⟩
  obtain ⟨a, b, c⟩ := x
  obtain ⟨d, e, f⟩ := y
  obtain rfl : a = d := h1
  obtain rfl : b = e := h2
  obtain rfl : c = f := h3
  rfl
 ·rintro rfl
  exact ⟨rfl, rfl, rfl⟩
def eqO (a b : List SOp) : Bool := eqf eqP zOp a b
theorem eqO_iff {a b : List SOp} : eqO a b = true ↔ a = b := by
 unfold eqO
 rw [eqf_iff]
 constructor
 ·rintro ⟨h1, h2⟩
  refine List.ext_getElem h1 (fun i hi hj => ?_)
  have := eqP_iff.1 (h2 i hi)
  simpa [List.getD, hi, hj] using this
 ·rintro rfl
  exact ⟨rfl, fun i _ => eqP_iff.2 rfl⟩
theorem equalO_loop (a b : List SOp) (hl : a.length ≤ 9223372036854775807) (he : a.length = b.length) : ∀ (d i k : Nat), i + d = a.length → d < k → (∀ j, j < i → eqP (a.getD j zOp) (b.getD j zOp) = true) → slices_Equal_api_Op.l0 k a b (a.length : Int) (i : Int) = some (eqf eqP zOp a b) := by
 intro d
 induction d with
 | zero =>
  intro i k hi hk hj
  obtain ⟨k, rfl⟩ := zaP hk
  simp only [slices_Equal_api_Op.l0]
  rw [if_neg (by omega), eqf_all he (fun j h => hj j (by omega))]
 | succ d ih =>
  intro i k hi hk hj
  obtain ⟨k, rfl⟩ := zaP hk
  simp only [slices_Equal_api_Op.l0]
  rw [if_pos (by omega), if_pos (by omega), if_pos (by omega), if_pos (by omega), show zaJ a (i : Int) = a.getD i zOp from rfl, show zaJ b (i : Int) = b.getD i zOp from rfl, neP]
  cases hq : eqP (a.getD i zOp) (b.getD i zOp) with
  | true =>
   rw [if_neg (by simp), zbs (by omega)]
   exact ih (i + 1) k (by omega) (by omega) (all_next hj hq)
  | false => rw [if_pos (by simp), eqf_hit i (by omega) hq]
theorem few8_loop (l : List SOp) (hl : l.length ≤ 20) : ∀ (d i k : Nat), i + d = l.length → d < k → ∃ b, towncrierlaw08_Few.l0 k l (i : Int) = some b := by
 intro d
 induction d with
 | zero =>
  intro i k hi hk
  obtain ⟨k, rfl⟩ := zaP hk
  simp only [towncrierlaw08_Few.l0]
  rw [if_neg (by omega)]
  exact ⟨_, rfl⟩
 | succ d ih =>
  intro i k hi hk
  obtain ⟨k, rfl⟩ := zaP hk
  simp only [towncrierlaw08_Few.l0]
  rw [if_pos (by omega), if_pos (by omega), zbs (by omega)]
  split
  ·exact ⟨_, rfl⟩
  ·exact ih (i + 1) k (by omega) (by omega)
theorem getP_put {x : SOp} (rest : List Int) (h : mayP x = true) (hi : i64V x.f2) : getP (bytesP x ++ rest) = some (x, (bytesP x).length) := by
 obtain ⟨h0, h1, h2, h3, h4, h5, h6⟩ := mayP_iff.1 h
 obtain ⟨c, a, v⟩ := x
 simp only at h0 h1 h2 h3 h4 h5 h6 hi
 unfold bytesP
 simp only [List.cons_append, getP]
 by_cases c0 : c = 0
 ·subst c0
  have ha : a = 0 := by omega
  subst ha
  rw [if_pos rfl, if_pos rfl, getV_put rest hi h6]
  simp
 ·rw [if_neg c0, if_neg c0]
  have hv : v = zeroV := by rcases h5 with h5 | h5; exact absurd h5 c0; exact h5
  subst hv
  by_cases c1 : c = 1
  ·subst c1
   rw [if_pos rfl, if_pos rfl]
   rfl
  ·rw [if_neg c1, if_neg c1]
   have ha : a = 0 := by rcases h4 with h4 | h4; exact absurd h4 c1; exact h4
   subst ha
   rfl
theorem opsL_cons (x : SOp) (l : List SOp) : opsL (x :: l) = bytesP x ++ opsL l := by unfold opsL; simp
theorem getOs_put : ∀ (F : List SOp) (rest : List Int), (∀ x ∈ F, mayP x = true) → (∀ x ∈ F, i64V x.f2) → getOs F.length (opsL F ++ rest) = some (F, (opsL F).length)
 | [], rest, _, _ => rfl
 | x :: F, rest, h, hi => by
  rw [opsL_cons, List.append_assoc]
  simp only [List.length_cons, getOs, getP_put _ (h x (by simp)) (hi x (by simp)), List.drop_left, getOs_put F rest (fun y hy => h y (by simp [hy])) (fun y hy => hi y (by simp [hy])), List.length_append]
theorem getO_put {l : List SOp} (rest : List Int) (h : mayO l = true) (hi : ∀ x ∈ l, i64V x.f2) : getO (zbo l ++ rest) = some (l, (zbo l).length) := by
 obtain ⟨h12, hp⟩ := mayO_iff.1 h
 have hg : getN (zbo l ++ rest) = some (l.length, (zaK l.length).length) := by
  unfold zbo
  rw [List.append_assoc]
  exact getN_put _ _ (by omega)
 rw [getO_some (show getM _ 12 = some (l.length, (zaK l.length).length) from by rw [getM_some hg, if_pos h12])]
 unfold contO
 rw [show (zbo l ++ rest).drop (zaK l.length).length = opsL l ++ rest from by unfold zbo; rw [List.append_assoc, List.drop_left], getOs_put l rest hp hi]
 simp only [List.nil_append, h, if_true]
 unfold zbo
 rw [List.length_append]
theorem getP_take {l : List Int} {x : SOp} {n : Nat} (hb : za5 l) (h : getP l = some (x, n)) : l.take n = bytesP x := by
 cases l with
 | nil => simp [getP] at h
 | cons c r =>
  simp only [getP] at h
  by_cases h0 : c = 0
  ·rw [if_pos h0] at h
   cases hg : getV r with
   | none => rw [hg] at h; simp at h
   | some p =>
    obtain ⟨v, m⟩ := p
    rw [hg] at h
    simp only [Option.some.injEq, Prod.mk.injEq] at h
    obtain ⟨rfl, rfl⟩ := h
    have := getV_take (fun c hc => hb c (by simp [hc])) hg
    unfold bytesP
    rw [if_pos rfl, List.take_succ_cons, this, h0]
  ·rw [if_neg h0] at h
   by_cases h1 : c = 1
   ·rw [if_pos h1] at h
    cases r with
    | nil => simp at h
    | cons a r =>
     simp only [Option.some.injEq, Prod.mk.injEq] at h
     obtain ⟨rfl, rfl⟩ := h
     subst h1
     rfl
   ·rw [if_neg h1] at h
    simp only [Option.some.injEq, Prod.mk.injEq] at h
    obtain ⟨rfl, rfl⟩ := h
    unfold bytesP
    rw [if_neg h0, if_neg h1]
    rfl
theorem getOs_take : ∀ (m : Nat) (l : List Int) (F : List SOp) (v : Nat), za5 l → getOs m l = some (F, v) → l.take v = opsL F ∧ v ≤ l.length ∧ F.length = m ∧ ∀ x ∈ F, i64V x.f2
 | 0, l, F, v, _, h => by
  simp only [getOs, Option.some.injEq, Prod.mk.injEq] at h
  obtain ⟨rfl, rfl⟩ := h
  simp [opsL]
 | m + 1, l, F, v, hb, h => by
  rw [getOs] at h
  cases hg : getP l with
  | none => rw [hg] at h; simp at h
  | some p =>
   obtain ⟨x, n⟩ := p
   rw [hg] at h
   simp only at h
   cases hv : getOs m (l.drop n) with
   | none => rw [hv] at h; simp at h
   | some q =>
    obtain ⟨xs, k⟩ := q
    rw [hv] at h
    simp only [Option.some.injEq, Prod.mk.injEq] at h
    obtain ⟨rfl, rfl⟩ := h
    obtain ⟨h1, h2, h3, h4⟩ := getOs_take m _ xs k (zbv hb n) hv
    obtain ⟨h5, h6, _⟩ := getP_used hb hg
    have h7 := getP_take hb hg
    rw [List.length_drop] at h2
    refine ⟨?_, by omega, by simp [h3], fun y hy => ?_⟩
    ·rw [opsL_cons, ← h7, ← h1, List.take_add]
    ·rcases List.mem_cons.1 hy with rfl | hy
     ·exact h5
     ·exact h4 y hy
theorem getO_take {l : List Int} {x : List SOp} {n : Nat} (hb : za5 l) (h : getO l = some (x, n)) : mayO x = true ∧ n ≤ l.length ∧ l.take n = zbo x ∧ ∀ y ∈ x, i64V y.f2 := by
 unfold getO at h
 cases hm : getM l 12 with
 | none => rw [hm] at h; simp at h
 | some p =>
  obtain ⟨m, u⟩ := p
  rw [hm] at h
  simp only [contO] at h
  obtain ⟨hg, h12, hu⟩ := getM_used hm
  cases hv : getOs m (l.drop u) with
  | none => rw [hv] at h; simp at h
  | some q =>
   obtain ⟨gs, v⟩ := q
   rw [hv] at h
   simp only [List.nil_append] at h
   by_cases hmay : mayO gs = true
   ·rw [if_pos hmay] at h
    simp only [Option.some.injEq, Prod.mk.injEq] at h
    obtain ⟨rfl, rfl⟩ := h
    obtain ⟨h1, h2, h3, h4⟩ := getOs_take m _ gs v (zbv hb u) hv
    obtain ⟨h5, h6, h7⟩ := getN_some hb hg
    rw [List.length_drop] at h2
    refine ⟨hmay, by omega, ?_, h4⟩
    unfold zbo
    rw [List.take_add, h7, h1, h3]
   ·rw [if_neg hmay] at h; simp at h
theorem opsL_len : ∀ {l : List SOp}, (∀ x ∈ l, mayP x = true) → (∀ x ∈ l, i64V x.f2) → (opsL l).length ≤ 52 * l.length
 | [], _, _ => by simp [opsL]
 | x :: l, h, hi => by
  have ih := opsL_len (l := l) (fun y hy => h y (by simp [hy])) (fun y hy => hi y (by simp [hy]))
  have hv := bytesV_few ⟨(mayP_iff.1 (h x (by simp))).2.2.2.2.2.2, hi x (by simp)⟩
  have hx : (bytesP x).length ≤ 52 := by
   unfold bytesP
   simp only [List.length_cons]
   split
   ·omega
   ·split <;> simp
  rw [opsL_cons, List.length_append, List.length_cons]
  omega
theorem bytesO_len {l : List SOp} (h : mayO l = true) (hi : ∀ x ∈ l, i64V x.f2) : (zbo l).length ≤ 640 := by
 obtain ⟨h12, hp⟩ := mayO_iff.1 h
 have h1 := opsL_len hp hi
 have h2 := lePut_len (n := l.length) (by omega)
 unfold zbo
 rw [List.length_append]
 omega
def askedB (nm : ByteArray) (l : List SOp) : Bool := mayO l && nameB nm
def rN (m : Nat) (l : List Int) : Option (Nat × List Int) := match getM l m with
 | some (n, u) => some (n, l.drop u)
 | none => none
def rT (l : List Int) : Option (ByteArray × List Int) := match rN 12 l with
 | some (n, r) => if n ≤ r.length then some (strOfNums (r.take n), r.drop n) else none
 | none => none
def rO (l : List Int) : Option (List SOp × List Int) := match getO l with
 | some (x, n) => some (x, l.drop n)
 | none => none
def skipR (n : Nat) (is : Bool) (l : List Int) : Option (List Int) := if is = true ∧ n ≤ l.length then some (l.drop n) else none
def zaB {α : Type} (s : Option (List Int)) (f : List Int → Option (α × List Int)) : Option (List Int) := (s.bind f).map (·.2)
def wasO {α : Type} (z : α) (s : Option (List Int)) (f : List Int → Option (α × List Int)) : α := ((s.bind f).map (·.1)).getD z
theorem rN_some {m n u : Nat} {l : List Int} (h : getN l = some (n, u)) : rN m l = if n ≤ m then some (n, l.drop u) else none := by
 unfold rN
 rw [getM_some h]
 by_cases h2 : n ≤ m
 ·rw [if_pos h2, if_pos h2]
 ·rw [if_neg h2, if_neg h2]
theorem rN_none {m : Nat} {l : List Int} (h : getN l = none) : rN m l = none := by
 unfold rN
 rw [getM_none h]
theorem restO_none {α : Type} (f : List Int → Option (α × List Int)) : zaB none f = none := rfl
theorem zaQ {α : Type} (l : List Int) (f : List Int → Option (α × List Int)) : zaB (some l) f = (f l).map (·.2) := rfl
theorem zbi {α : Type} (z : α) (l : List Int) (f : List Int → Option (α × List Int)) : wasO z (some l) f = ((f l).map (·.1)).getD z := rfl
theorem restO_rT (s : Option (List Int)) : zaB s rT = (zaB s (rN 12)).bind (skipR (wasO 0 s (rN 12)) true) := by
 cases s with
 | none => rfl
 | some l =>
  simp only [zaQ, zbi]
  unfold rT
  cases h : rN 12 l with
  | none => rfl
  | some p =>
   obtain ⟨n, r⟩ := p
   simp only [Option.map_some, Option.bind_some, Option.getD_some]
   unfold skipR
   by_cases hn : n ≤ r.length
   ·rw [if_pos hn, if_pos ⟨rfl, hn⟩]; rfl
   ·rw [if_neg hn, if_neg (fun h => hn h.2)]; rfl
theorem wasO_rT_none {s : Option (List Int)} (hs : zaB s (rN 12) = none) : wasO (⟨#[]⟩ : ByteArray) s rT = ⟨#[]⟩ := by
 cases s with
 | none => rfl
 | some l =>
  rw [zaQ] at hs
  rw [zbi]
  have h : rN 12 l = none := Option.map_eq_none_iff.1 hs
  unfold rT
  rw [h]
  rfl
theorem wasO_rT_some {s : Option (List Int)} {r : List Int} (hs : zaB s (rN 12) = some r) : wasO (⟨#[]⟩ : ByteArray) s rT = if wasO 0 s (rN 12) ≤ r.length then strOfNums (r.take (wasO 0 s (rN 12))) else ⟨#[]⟩ := by
 cases s with
 | none => cases hs
 | some l =>
  rw [zaQ] at hs
  rw [zbi, zbi]
  obtain ⟨p, h, rfl⟩ := Option.map_eq_some_iff.1 hs
  obtain ⟨n, r⟩ := p
  unfold rT
  rw [h]
  simp only [Option.map_some, Option.getD_some]
  by_cases hn : n ≤ r.length
  ·rw [if_pos hn, if_pos hn]; rfl
  ·rw [if_neg hn, if_neg hn]; rfl
theorem wasO_rN_le (s : Option (List Int)) (m : Nat) : wasO 0 s (rN m) ≤ m := by
 cases s with
 | none => exact Nat.zero_le _
 | some l =>
  rw [zbi]
  cases h : rN m l with
  | none => exact Nat.zero_le _
  | some p =>
   obtain ⟨n, r⟩ := p
   show n ≤ m
   unfold rN at h
   cases hg : getM l m with
   | none => rw [hg] at h; cases h
   | some q =>
    obtain ⟨k, u⟩ := q
    rw [hg] at h
    simp only [Option.some.injEq, Prod.mk.injEq] at h
    rw [← h.1]
    exact (getM_used hg).2.1
theorem restO_rO (s : Option (List Int)) {x : List SOp} {m : Nat} {b : Bool} {l : List Int} (h : gotO (getO l) = (x, m, b)) (hs : s = none ∨ s = some l) (hu : b = true → m ≤ l.length) : zaB s rO = s.bind (skipR m b) := by
 rcases hs with rfl | rfl
 ·rfl
 ·rw [zaQ, Option.bind_some]
  unfold rO skipR
  cases hg : getO l with
  | none =>
   rw [hg] at h
   simp only [gotO, Prod.mk.injEq] at h
   obtain ⟨_, _, rfl⟩ := h
   rw [if_neg (fun h => by cases h.1)]
   rfl
  | some p =>
   obtain ⟨y, k⟩ := p
   rw [hg] at h
   simp only [gotO, Prod.mk.injEq] at h
   obtain ⟨_, rfl, rfl⟩ := h
   rw [if_pos ⟨rfl, hu rfl⟩]
   rfl
def rS (l : List Int) : Option (SStep × List Int) := match rT l with
 | none => none
 | some (nm, l1) => match rO l1 with
  | none => none
  | some (o, l2) => match rN 4 l2 with
   | none => none
   | some (mn, l3) => match rN 4 l3 with
    | none => none
    | some (mx, l4) => match rN 1 l4 with
     | none => none
     | some (g, l5) => if g = 1 then (match rT l5 with
       | none => none
       | some (nm2, l6) => match rO l6 with
        | none => none
        | some (o2, l7) => some (⟨nm, o, mn, mx, true, nm2, o2⟩, l7)) else some (⟨nm, o, mn, mx, false, ⟨#[]⟩, []⟩, l5)
def rSs : Nat → List Int → Option (List SStep × List Int)
 | 0, l => some ([], l)
 | k + 1, l => match rS l with
  | none => none
  | some (x, r) => match rSs k r with
   | none => none
   | some (xs, q) => some (x :: xs, q)
theorem zbp {α : Type} {l : List Int} {f : List Int → Option (α × List Int)} (h : f l = none) : zaB (some l) f = none := by rw [zaQ, h]; rfl
theorem za9 {α : Type} {l r : List Int} {x : α} {f : List Int → Option (α × List Int)} (h : f l = some (x, r)) : zaB (some l) f = some r := by rw [zaQ, h]; rfl
theorem wasO_yes {α : Type} {z : α} {l r : List Int} {x : α} {f : List Int → Option (α × List Int)} (h : f l = some (x, r)) : wasO z (some l) f = x := by rw [zbi, h]; rfl
theorem restO_rS (s : Option (List Int)) : zaB s rS = (if wasO 0 (zaB (zaB (zaB (zaB s rT) rO) (rN 4)) (rN 4)) (rN 1) = 1 then zaB (zaB (zaB (zaB (zaB (zaB (zaB s rT) rO) (rN 4)) (rN 4)) (rN 1)) rT) rO else zaB (zaB (zaB (zaB (zaB s rT) rO) (rN 4)) (rN 4)) (rN 1)) := by
 have hz : (if wasO 0 (none : Option (List Int)) (rN 1) = 1 then (none : Option (List Int)) else none) = none := by split <;> rfl
 cases s with
 | none => rfl
 | some l =>
  cases h1 : rT l with
  | none => rw [zbp h1]; simp only [restO_none, hz]; rw [zaQ]; unfold rS; rw [h1]; rfl
  | some p1 =>
   obtain ⟨nm, l1⟩ := p1
   rw [za9 h1]
   cases h2 : rO l1 with
   | none => rw [zbp h2]; simp only [restO_none, hz]; rw [zaQ]; unfold rS; simp only [h1, h2]; rfl
   | some p2 =>
    obtain ⟨o, l2⟩ := p2
    rw [za9 h2]
    cases h3 : rN 4 l2 with
    | none => rw [zbp h3]; simp only [restO_none, hz]; rw [zaQ]; unfold rS; simp only [h1, h2, h3]; rfl
    | some p3 =>
     obtain ⟨mn, l3⟩ := p3
     rw [za9 h3]
     cases h4 : rN 4 l3 with
     | none => rw [zbp h4]; simp only [restO_none, hz]; rw [zaQ]; unfold rS; simp only [h1, h2, h3, h4]; rfl
     | some p4 =>
      obtain ⟨mx, l4⟩ := p4
      rw [za9 h4]
      cases h5 : rN 1 l4 with
      | none =>
       rw [zbp h5]
       simp only [restO_none]
       rw [show wasO 0 (some l4) (rN 1) = 0 from by rw [zbi, h5]; rfl, if_neg (by decide), zaQ]
       unfold rS; simp only [h1, h2, h3, h4, h5]; rfl
      | some p5 =>
       obtain ⟨g, l5⟩ := p5
       rw [za9 h5, wasO_yes h5, zaQ]
       unfold rS
       simp only [h1, h2, h3, h4, h5]
       by_cases hg : g = 1
       ·rw [if_pos hg, if_pos hg]
        cases h6 : rT l5 with
        | none => rw [zbp h6]; rfl
        | some p6 =>
         obtain ⟨nm2, l6⟩ := p6
         rw [za9 h6]
         cases h7 : rO l6 with
         | none => rw [zbp h7]; simp only [h7]; rfl
         | some p7 => obtain ⟨o2, l7⟩ := p7; rw [za9 h7]; simp only [h7]; rfl
       ·rw [if_neg hg, if_neg hg]
        rfl
theorem rS_parts {s : Option (List Int)} {y : SStep} {r : List Int} (h : s.bind rS = some (y, r)) : ∃ o1 l2, (zaB s rT).bind rO = some (o1, l2) ∧ y.f0 = wasO ⟨#[]⟩ s rT ∧ y.f1 = o1 ∧ y.f2 = (wasO 0 (zaB (zaB s rT) rO) (rN 4) : Nat) ∧ y.f3 = (wasO 0 (zaB (zaB (zaB s rT) rO) (rN 4)) (rN 4) : Nat) ∧ y.f4 = decide (wasO 0 (zaB (zaB (zaB (zaB s rT) rO) (rN 4)) (rN 4)) (rN 1) = 1) ∧
  (wasO 0 (zaB (zaB (zaB (zaB s rT) rO) (rN 4)) (rN 4)) (rN 1) = 1 → y.f5 = wasO ⟨#[]⟩ (zaB (zaB (zaB (zaB (zaB s rT) rO) (rN 4)) (rN 4)) (rN 1)) rT ∧ ∃ l7, (zaB (zaB (zaB (zaB (zaB (zaB s rT) rO) (rN 4)) (rN 4)) (rN 1)) rT).bind rO = some (y.f6, l7)) ∧
  (wasO 0 (zaB (zaB (zaB (zaB s rT) rO) (rN 4)) (rN 4)) (rN 1) ≠ 1 → y.f5 = ⟨#[]⟩ ∧ y.f6 = []) := by
 cases s with
 | none => cases h
 | some l =>
  rw [Option.bind_some] at h
  unfold rS at h
  cases h1 : rT l with
  | none => rw [h1] at h; cases h
  | some p1 =>
   obtain ⟨nm, l1⟩ := p1
   rw [h1] at h
   simp only at h
   cases h2 : rO l1 with
   | none => rw [h2] at h; cases h
   | some p2 =>
    obtain ⟨o, l2⟩ := p2
    rw [h2] at h
    simp only at h
    cases h3 : rN 4 l2 with
    | none => rw [h3] at h; cases h
    | some p3 =>
     obtain ⟨mn, l3⟩ := p3
     rw [h3] at h
     simp only at h
     cases h4 : rN 4 l3 with
     | none => rw [h4] at h; cases h
     | some p4 =>
      obtain ⟨mx, l4⟩ := p4
      rw [h4] at h
      simp only at h
      cases h5 : rN 1 l4 with
      | none => rw [h5] at h; cases h
      | some p5 =>
       obtain ⟨g, l5⟩ := p5
       rw [h5] at h
       simp only at h
       have e1 : zaB (some l) rT = some l1 := by rw [zaQ, h1]; rfl
       have e2 : zaB (some l1) rO = some l2 := by rw [zaQ, h2]; rfl
       have e3 : zaB (some l2) (rN 4) = some l3 := by rw [zaQ, h3]; rfl
       have e4 : zaB (some l3) (rN 4) = some l4 := by rw [zaQ, h4]; rfl
       have e5 : zaB (some l4) (rN 1) = some l5 := by rw [zaQ, h5]; rfl
       have w1 : wasO ⟨#[]⟩ (some l) rT = nm := by rw [zbi, h1]; rfl
       have w3 : wasO 0 (some l2) (rN 4) = mn := by rw [zbi, h3]; rfl
       have w4 : wasO 0 (some l3) (rN 4) = mx := by rw [zbi, h4]; rfl
       have w5 : wasO 0 (some l4) (rN 1) = g := by rw [zbi, h5]; rfl
       rw [e1, e2, e3, e4, e5, w1, w3, w4, w5, Option.bind_some, h2]
       by_cases hg : g = 1
       ·rw [if_pos hg] at h
        cases h6 : rT l5 with
        | none => rw [h6] at h; cases h
        | some p6 =>
         obtain ⟨nm2, l6⟩ := p6
         rw [h6] at h
         simp only at h
         cases h7 : rO l6 with
         | none => rw [h7] at h; cases h
         | some p7 =>
          obtain ⟨o2, l7⟩ := p7
          rw [h7] at h
          simp only [Option.some.injEq, Prod.mk.injEq] at h
          obtain ⟨rfl, rfl⟩ := h
          have e6 : zaB (some l5) rT = some l6 := by rw [zaQ, h6]; rfl
          have w6 : wasO ⟨#[]⟩ (some l5) rT = nm2 := by rw [zbi, h6]; rfl
          refine ⟨o, l2, rfl, rfl, rfl, rfl, rfl, (decide_eq_true hg).symm, fun _ => ⟨w6.symm, l7, ?_⟩, fun h => absurd hg h⟩
          rw [e6, Option.bind_some, h7]
       ·rw [if_neg hg] at h
        simp only [Option.some.injEq, Prod.mk.injEq] at h
        obtain ⟨rfl, rfl⟩ := h
        exact ⟨o, l2, rfl, rfl, rfl, rfl, rfl, (decide_eq_false hg).symm, fun h => absurd h hg, fun _ => ⟨rfl, rfl⟩⟩
theorem rN_put {n m : Nat} (r : List Int) (h : n ≤ m) (hm : m < 18446744073709551616) : rN m (zaK n ++ r) = some (n, r) := by
 unfold rN
 rw [getM_put r h hm]
 simp only [List.drop_left]
theorem rN_take {l r : List Int} {m n : Nat} (hb : za5 l) (h : rN m l = some (n, r)) : l = zaK n ++ r ∧ n ≤ m ∧ za5 r := by
 unfold rN at h
 cases hg : getM l m with
 | none => rw [hg] at h; cases h
 | some p =>
  obtain ⟨k, u⟩ := p
  rw [hg] at h
  simp only [Option.some.injEq, Prod.mk.injEq] at h
  obtain ⟨rfl, rfl⟩ := h
  have h1 := getM_take hb hg
  have h2 := getM_used hg
  exact ⟨by rw [← h1.1, List.take_append_drop], h2.2.1, zbv hb _⟩
theorem rT_put {s : ByteArray} (r : List Int) (h : s.size ≤ 12) : rT (textL s ++ r) = some (s, r) := by
 have hl := za6 s
 unfold rT textL
 rw [List.append_assoc, rN_put _ h (by decide)]
 simp only [List.length_append, hl]
 rw [if_pos (by omega), ← hl, List.take_left, List.drop_left, str_bytesOf]
theorem rT_take {l r : List Int} {s : ByteArray} (hb : za5 l) (h : rT l = some (s, r)) : l = textL s ++ r ∧ s.size ≤ 12 ∧ za5 r := by
 unfold rT at h
 cases hg : rN 12 l with
 | none => rw [hg] at h; cases h
 | some p =>
  obtain ⟨n, q⟩ := p
  rw [hg] at h
  simp only at h
  obtain ⟨h1, h2, h3⟩ := rN_take hb hg
  split at h
  ·rename_i hn
   simp only [Option.some.injEq, Prod.mk.injEq] at h
   obtain ⟨rfl, rfl⟩ := h
   have hsz : (strOfNums (q.take n)).size = n := by rw [strOfNums_size, List.length_take]; omega
   refine ⟨?_, by omega, zbv h3 _⟩
   unfold textL
   rw [hsz, bytesOf_str (byteL_take h3 n), List.append_assoc, List.take_append_drop]
   exact h1
  ·cases h
def inB (n lo hi : Int) : Bool := decide (lo ≤ n) && decide (n ≤ hi)
def stepB (x : SStep) (first last : Bool) : Bool := (if x.f4 = true then (!first && askedB x.f5 x.f6) else (decide (x.f5.toList = []) && decide (x.f6.length = 0))) && (askedB x.f0 x.f1 && (inB x.f2 1 x.f3 && (decide (x.f3 ≤ 4) && (!last || x.f2 == x.f3))))
def tailB (n : Int) (q : SQuery) : Bool := inB q.f2 0 3 && (inB q.f3 0 (n - 1) && (inB q.f4 0 5 && ((q.f2 != 0 || q.f4 == 0) && (inB n 1 4 && inB q.f1 0 1125899906842624))))
def mayQ (q : SQuery) : Bool := ((List.range q.f0.length).all fun i => stepB (q.f0.getD i zbm) (i == 0) (i + 1 == q.f0.length)) && tailB q.f0.length q
theorem inB_iff {n lo hi : Int} : inB n lo hi = true ↔ lo ≤ n ∧ n ≤ hi := by
 unfold inB
 simp only [Bool.and_eq_true, decide_eq_true_eq]
theorem askedB_iff {nm : ByteArray} {l : List SOp} : askedB nm l = true ↔ mayO l = true ∧ nameB nm = true := by
 unfold askedB
 simp only [Bool.and_eq_true]
theorem stepB_iff {x : SStep} {first last : Bool} : stepB x first last = true ↔ ((x.f4 = true ∧ first = false ∧ askedB x.f5 x.f6 = true) ∨ (x.f4 = false ∧ x.f5.toList = [] ∧ x.f6 = [])) ∧ askedB x.f0 x.f1 = true ∧ 1 ≤ x.f2 ∧ x.f2 ≤ x.f3 ∧ x.f3 ≤ 4 ∧ (last = true → x.f2 = x.f3) := by
 unfold stepB
 simp only [Bool.and_eq_true, inB_iff, decide_eq_true_eq, and_assoc]
 refine and_congr ?_ (and_congr Iff.rfl (and_congr Iff.rfl (and_congr Iff.rfl (and_congr Iff.rfl ?_))))
 ·cases x.f4 with
  | true => simp
  | false => simp [List.length_eq_zero_iff]
 ·cases last <;> simp
theorem mayQ_iff {q : SQuery} : mayQ q = true ↔ (∀ i, i < q.f0.length → stepB (q.f0.getD i zbm) (i == 0) (i + 1 == q.f0.length) = true) ∧ 0 ≤ q.f2 ∧ q.f2 ≤ 3 ∧ 0 ≤ q.f3 ∧ q.f3 ≤ (q.f0.length : Int) - 1 ∧ 0 ≤ q.f4 ∧ q.f4 ≤ 5 ∧ (q.f2 ≠ 0 ∨ q.f4 = 0) ∧ 1 ≤ q.f0.length ∧ q.f0.length ≤ 4 ∧ 0 ≤ q.f1 ∧ q.f1 ≤ 1125899906842624 := by
 unfold mayQ tailB
 simp only [Bool.and_eq_true, List.all_eq_true, List.mem_range, inB_iff, Bool.or_eq_true, bne_iff_ne, beq_iff_eq, and_assoc]
 refine and_congr Iff.rfl (and_congr Iff.rfl (and_congr Iff.rfl (and_congr Iff.rfl (and_congr Iff.rfl (and_congr Iff.rfl (and_congr Iff.rfl (and_congr Iff.rfl ?_)))))))
 constructor
 ·rintro ⟨h1, h2, h3, h4⟩; exact ⟨by omega, by omega, h3, h4⟩
 ·rintro ⟨h1, h2, h3, h4⟩; exact ⟨by omega, by omega, h3, h4⟩
def okSt (x : SStep) : Prop := i64B x.f1 = true ∧ i64B x.f6 = true
def okQ (q : SQuery) : Prop := ∀ x ∈ q.f0, okSt x
def bytesSt (x : SStep) : List Int := textL x.f0 ++ (zbo x.f1 ++ (zaK x.f2.toNat ++ (zaK x.f3.toNat ++ (if x.f4 = true then zaK 1 ++ (textL x.f5 ++ zbo x.f6) else zaK 0))))
def zbx (l : List SStep) : List Int := (l.map bytesSt).flatten
def bytesQ (q : SQuery) : List Int := zaK q.f0.length ++ (zbx q.f0 ++ (zaK q.f1.toNat ++ (zaK q.f2.toNat ++ (zaK q.f3.toNat ++ zaK q.f4.toNat))))
def rQ (l : List Int) : Option (SQuery × List Int) := match rN 4 l with
 | none => none
 | some (m, l1) => match rSs m l1 with
  | none => none
  | some (xs, l2) => match rN 1125899906842624 l2 with
   | none => none
   | some (wi, l3) => match rN 4 l3 with
    | none => none
    | some (ag, l4) => match rN 4 l4 with
     | none => none
     | some (st, l5) => match rN 6 l5 with
      | none => none
      | some (f, l6) => some (⟨xs, wi, ag, st, f⟩, l6)
def getQ (l : List Int) : Option (SQuery × Nat) := match rQ l with
 | some (q, r) => if mayQ q = true then some (q, l.length - r.length) else none
 | none => none
def gotQ (r : Option (SQuery × Nat)) : SQuery × Nat × Bool := match r with
 | some (q, n) => (q, n, true)
 | none => (zQuery, 0, false)
end Go.Proofs.Ytooemobolfoefaa.P

