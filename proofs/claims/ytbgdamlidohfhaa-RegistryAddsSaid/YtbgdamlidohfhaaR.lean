/- How data that came in are read: of each kind of value, one lemma; no condition but that what is reached is as the row says. -/
import Derived.Test.YtbgdamlidohfhaaB
import Derived.ChangeArms
import Derived.Deep.Slices
import Derived.SizedLaws
import Derived.ProofKit
namespace Go.Proofs.Ytbgdamlidohfhaa.P
open Go.RowKit Go.Proofs.YtbgdamlidohfhaaW.PrintWords Go.Proofs.YtbgdamlidohfhaaW.PrintLast Go.Proofs.YtbgdamlidohfhaaW.PrintMore

/-- Whatever can be read as data of type t is, in memory, what d says of a value that is well formed. -/
def Opens {α : Type} (P : Program) (t : TypeId) (d : Kd α) (wf : α → Prop) : Prop :=
  ∀ {H : Type} (enc : TypeId × Value → H) (W : World) (base : Nat) (spare : Nat → Bool) (held : Bool) (fuel : Nat) (cs : List Value) (x : DataW H × List MemPlace),
    DataW.trod enc P W base spare held fuel t cs = some x → (∀ n ∈ x.1.weights P t, n ≤ reachBytes) → ∃ a, d.K W a cs ∧ wf a

theorem opens_int {P : Program} {t : TypeId} {k : IntKind} (hu : P.underlying t = some (.int k)) : Opens P t (Kd.int k) (fun n => (Lit.int k n).wf = true) := by
  intro H enc W base spare held fuel cs x h _
  obtain ⟨n, rfl, _, hw⟩ := DataW.trod_int hu h
  exact ⟨n, rfl, hw⟩
theorem opens_bool {P : Program} {t : TypeId} (hu : P.underlying t = some .bool) : Opens P t Kd.bool (fun _ => True) := by
  intro H enc W base spare held fuel cs x h _
  obtain ⟨b, rfl, _⟩ := DataW.trod_bool hu h
  exact ⟨b, rfl, trivial⟩
theorem opens_string {P : Program} {t : TypeId} (hu : P.underlying t = some .string) : Opens P t Kd.string (fun s => s.size ≤ 140737488351232) := by
  intro H enc W base spare held fuel cs x h hw
  obtain ⟨s, rfl, rfl, _⟩ := DataW.trod_string hu h
  refine ⟨s, rfl, ?_⟩
  have := hw s.data.toList.length (by simp [DataW.weights])
  simpa [reachBytes] using this
theorem weightsAll_mem {H : Type} {P : Program} {e : TypeId} : ∀ (l : List (DataW H)) (d : DataW H), d ∈ l → ∀ n ∈ d.weights P e, n ∈ DataW.weightsAll P e l
  | [], d, h, _, _ => by simp at h
  | a :: l, d, h, n, hn => by
    simp only [DataW.weightsAll, List.mem_append]
    rcases List.mem_cons.1 h with rfl | h
    · exact .inl hn
    · exact .inr (weightsAll_mem l d h n hn)
theorem fin_list {α : Type} (n : Nat) (p : Nat → α → Prop) (h : ∀ i, i < n → ∃ a, p i a) : ∃ l : List α, l.length = n ∧ ∀ i a, l[i]? = some a → p i a := by
  induction n with
  | zero => exact ⟨[], rfl, fun i a ha => by simp at ha⟩
  | succ n ih =>
    obtain ⟨l, hl, hp⟩ := ih (fun i hi => h i (by omega))
    obtain ⟨a, ha⟩ := h n (by omega)
    refine ⟨l ++ [a], by simp [hl], fun i b hb => ?_⟩
    by_cases hi : i < n
    · rw [List.getElem?_append_left (by omega)] at hb
      exact hp i b hb
    · rw [List.getElem?_append_right (by omega)] at hb
      have : i = n := by
        have := (List.getElem?_eq_some_iff.1 hb).1
        simp at this
        omega
      subst this
      simp [hl] at hb
      exact hb ▸ ha
theorem opens_slice {α : Type} {P : Program} {t e : TypeId} {d : Kd α} {wf : α → Prop} {B : Nat} (ht : P.underlying t = some (.slice e)) (he : Opens P e d wf) (hc : P.cellsOf e = d.sz) (hB : P.bytesOf e = B) :
    Opens P t (Kd.slice e d) (fun l => l.length * B ≤ 140737488351232 ∧ ∀ x ∈ l, wf x) := by
  intro H enc W base spare held fuel cs x h hw
  rcases Go.Deep.open_slice ht h with ⟨rfl, rfl⟩ | ⟨a, len, cap, m, n, D, Pl, rfl, hb, hl, hm, hmm, rfl, hx⟩
  · exact ⟨[], ⟨none, 0, rfl, Nat.le_refl _, Kd.C_nil _ _⟩, by simp, by simp⟩
  · simp only [DataW.weights, ht] at hw
    have hle : len ≤ m := by rw [hmm]; split <;> omega
    have hlen : len * B ≤ 140737488351232 := by
      have := hw _ (List.mem_cons_self ..)
      rw [hB] at this
      simp only [List.length_map, List.length_range] at this
      exact Nat.le_trans (Nat.mul_le_mul_right _ (by omega)) this
    obtain ⟨l, hl1, hl2⟩ := fin_list len (fun i a' => ∃ c, c.length = d.sz ∧ (d.K W a' c ∧ wf a') ∧ ∀ j u, c[j]? = some u → W.cell? (a.add (i * d.sz + j)) = some u) (fun i hi => by
      obtain ⟨cs', h1, h2⟩ := hx i (by omega)
      obtain ⟨_, h4, h5⟩ := World.cells?_some h1
      obtain ⟨y, hy⟩ := he enc W base spare held n cs' _ h2 (fun q hq => hw q (List.mem_cons_of_mem _ (List.mem_append_left _ (weightsAll_mem _ _ (List.mem_map.2 ⟨i, List.mem_range.2 hi, rfl⟩) q hq))))
      rw [hc] at h4 h5
      refine ⟨y, cs', h4, hy, fun j u hu => ?_⟩
      have hj : j < d.sz := by rw [← h4]; exact (List.getElem?_eq_some_iff.1 hu).1
      rw [← addr_add, h5 j hj]
      exact hu)
    refine ⟨l, ⟨some a, cap, by rw [hl1], by omega, ?_⟩, by rw [hl1]; exact hlen, fun x hx => ?_⟩
    · rw [hl1]
      refine ⟨hl1, by unfold maxLen at hm; omega, fun _ => ⟨a, rfl, fun j p hp => ?_⟩⟩
      obtain ⟨c, h1, h2, h3⟩ := hl2 j p hp
      exact ⟨c, h1, h2.1, h3⟩
    · obtain ⟨i, hi⟩ := List.mem_iff_getElem?.1 hx
      obtain ⟨c, _, h2, _⟩ := hl2 i x hi
      exact h2.2
/-- The fields of a struct, from one on. -/
def OpensF {α : Type} (P : Program) (fs : List Field) (o : Nat) (d : Kd α) (wf : α → Prop) : Prop :=
  ∀ {H : Type} (enc : TypeId × Value → H) (W : World) (base : Nat) (spare : Nat → Bool) (held : Bool) (fuel : Nat) (cs : List Value) (xs : List (DataW H × List MemPlace)),
    xs.length = fs.length → (∀ (i : Nat) (f : Field), fs[i]? = some f → ∃ y, xs[i]? = some y ∧ DataW.trod enc P W base spare held fuel f.type ((cs.drop f.offset).take (P.cellsOf f.type)) = some y) →
    (∀ n ∈ DataW.weightsEach P (fs.map fun f : Field => f.type) (xs.map (·.1)), n ≤ reachBytes) → ∃ a, d.K W a ((cs.drop o).take d.sz) ∧ wf a
theorem opens_one {α : Type} {P : Program} {f : Field} {d : Kd α} {wf : α → Prop} {o : Nat} (h : Opens P f.type d wf) (ho : f.offset = o) (hs : P.cellsOf f.type = d.sz) : OpensF P [f] o d wf := by
  intro H enc W base spare held fuel cs xs hl hx hw
  obtain ⟨y, h1, h2⟩ := hx 0 f rfl
  rw [ho, hs] at h2
  match xs, hl with
  | [z], _ =>
    simp at h1
    subst h1
    exact h enc W base spare held fuel _ _ h2 (fun n hn => hw n (by simp [DataW.weightsEach, hn]))
theorem opens_more {α β : Type} {P : Program} {f : Field} {fs : List Field} {d : Kd α} {d' : Kd β} {wf : α → Prop} {wf' : β → Prop} {o : Nat} (h : Opens P f.type d wf) (h' : OpensF P fs (o + d.sz) d' wf') (ho : f.offset = o) (hs : P.cellsOf f.type = d.sz) :
    OpensF P (f :: fs) o (Kd.pair d d') (fun x => wf x.1 ∧ wf' x.2) := by
  intro H enc W base spare held fuel cs xs hl hx hw
  match xs, hl with
  | z :: zs, hl =>
    obtain ⟨y, h1, h2⟩ := hx 0 f rfl
    rw [ho, hs] at h2
    simp at h1
    subst h1
    simp only [List.map_cons, DataW.weightsEach, List.mem_append] at hw
    obtain ⟨a, ha, wa⟩ := h enc W base spare held fuel _ _ h2 (fun n hn => hw n (.inl hn))
    obtain ⟨b, hb, wb⟩ := h' enc W base spare held fuel cs zs (by simpa using hl) (fun i g hg => by simpa using hx (i + 1) g (by simpa using hg)) (fun n hn => hw n (.inr hn))
    refine ⟨(a, b), ⟨_, _, ?_, ha, hb⟩, wa, wb⟩
    show (cs.drop o).take (d.sz + d'.sz) = _
    rw [List.take_add, List.drop_drop]
theorem opens_struct {α β : Type} {P : Program} {t : TypeId} {fs : Array Field} {d : Kd β} {wf : β → Prop} {wf' : α → Prop} (f : α → β) (g : β → α) (ht : P.underlying t = some (.struct fs)) (h : OpensF P fs.toList 0 d wf) (hs : P.cellsOf t = d.sz) (hg : ∀ b, f (g b) = b) (hw : ∀ b, wf b → wf' (g b)) :
    Opens P t (Kd.iso d f) wf' := by
  intro H enc W base spare held fuel cs x hx hwt
  obtain ⟨xs, n, rfl, rfl, h1, h2, h3⟩ := DataW.trod_struct ht hx
  obtain ⟨b, hb, wb⟩ := h enc W base spare held n cs xs (by simpa using h2) (fun i f hf => by
    have hf' : fs[i]? = some f := by simpa using hf
    have hi : i < xs.length := by rw [h2]; exact (Array.getElem?_eq_some_iff.1 hf').1
    exact ⟨xs[i], List.getElem?_eq_getElem hi, (h3 i f hf').trans (List.getElem?_eq_getElem hi)⟩) (fun n hn => hwt n (by simpa [DataW.weights, ht] using hn))
  refine ⟨g b, ?_, hw b wb⟩
  show d.K W (f (g b)) cs
  rw [hg]
  have : (cs.drop 0).take d.sz = cs := by rw [List.drop_zero, List.take_of_length_le (by rw [h1, hs]; exact Nat.le_refl _)]
  rw [← this]
  exact hb
end Go.Proofs.Ytbgdamlidohfhaa.P
