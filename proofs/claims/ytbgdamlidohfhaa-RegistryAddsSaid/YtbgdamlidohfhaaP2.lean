/- The functions that the laws of this seat reach, as plain Lean functions, and for each the contract of its call: no condition but those that each theorem names. -/
import Derived.Test.YtbgdamlidohfhaaP0
namespace Go.Proofs.Ytbgdamlidohfhaa.P
open Go.RowKit Go.Proofs.YtbgdamlidohfhaaW.PrintWords Go.Proofs.YtbgdamlidohfhaaW.PrintLast Go.Proofs.YtbgdamlidohfhaaW.PrintMore
attribute [local go_sem] max2_int min2_int max_two min_two max_three min_three max_four min_four   -- for this text's walks alone
set_option linter.unusedVariables false
set_option linter.unusedSimpArgs false

/-! ### schema_Name: function 30 -/
/-- May a sign stand at place i of a name? -/
def nameCh (i : Nat) (c : Int) : Bool := (decide (97 ≤ c) && decide (c ≤ 122)) || (decide (0 < i) && (c == 95 || (decide (48 ≤ c) && decide (c ≤ 57))))
def nameB (s : ByteArray) : Bool := ((List.range s.size).all fun i => nameCh i (bt s (i : Int))) && (decide (s.size ≠ 0) && decide (s.size ≤ 12))
def schema_Name.f (a0 : ByteArray) : Option Bool := some (nameB a0)
def nameRel (s : ByteArray) (w : World) (pos : Nat) (w' : World) : Prop := pos ≤ s.size ∧ (∀ i, i < pos → nameCh i (bt s (i : Int)) = true) ∧ w' = w.iter s pos
theorem name_hit (s : ByteArray) (k : Nat) (hk : k < s.size) (h : nameCh k (bt s (k : Int)) = false) : nameB s = false := by
  unfold nameB
  rw [Bool.and_eq_false_iff]
  left
  rw [List.all_eq_false]
  exact ⟨k, List.mem_range.2 hk, by rw [h]; simp⟩
theorem nameCh_ok {i : Nat} {c : Int} (h : (97 ≤ c ∧ c ≤ 122) ∨ (0 < i ∧ (c = 95 ∨ (48 ≤ c ∧ c ≤ 57)))) : nameCh i c = true := by
  unfold nameCh
  rcases h with ⟨h1, h2⟩ | ⟨h1, h2 | ⟨h2, h3⟩⟩
  · simp [h1, h2]
  · simp [h1, h2]
  · simp [h1, h2, h3]
theorem nameCh_no {i : Nat} {c : Int} (h : ¬ ((97 ≤ c ∧ c ≤ 122) ∨ (0 < i ∧ (c = 95 ∨ (48 ≤ c ∧ c ≤ 57))))) : nameCh i c = false := by
  rw [← Bool.not_eq_true]
  intro hc
  apply h
  unfold nameCh at hc
  simp only [Bool.or_eq_true, Bool.and_eq_true, decide_eq_true_eq, beq_iff_eq] at hc
  exact hc
theorem name_next {s : ByteArray} {pos : Nat} {c : Nat} (hs : Aside0 (∀ i : Nat, i < pos → nameCh i (bt s (i : Int)) = true)) (hc : Aside0 (bt s (pos : Int) = (c : Int))) (h : (97 ≤ (c : Int) ∧ (c : Int) ≤ 122) ∨ (0 < pos ∧ ((c : Int) = 95 ∨ (48 ≤ (c : Int) ∧ (c : Int) ≤ 57)))) : ∀ i : Nat, i < pos + 1 → nameCh i (bt s (i : Int)) = true := by
  intro i hi
  by_cases h2 : i < pos
  · exact hs.out i h2
  · obtain rfl : i = pos := by omega
    rw [hc.out]
    exact nameCh_ok h
theorem name_fall {s : ByteArray} {pos : Nat} {c : Nat} (hp : pos < s.size) (hc : Aside0 (bt s (pos : Int) = (c : Int))) (h : ¬ ((97 ≤ (c : Int) ∧ (c : Int) ≤ 122) ∨ (0 < pos ∧ ((c : Int) = 95 ∨ (48 ≤ (c : Int) ∧ (c : Int) ≤ 57))))) : nameB s = false := name_hit s pos hp (by rw [hc.out]; exact nameCh_no h)
theorem name_all (s : ByteArray) (h : ∀ i, i < s.size → nameCh i (bt s (i : Int)) = true) : nameB s = (decide (s.size ≠ 0) && decide (s.size ≤ 12)) := by
  unfold nameB
  rw [show ((List.range s.size).all fun i => nameCh i (bt s (i : Int))) = true from List.all_eq_true.2 fun i hi => h i (List.mem_range.1 hi)]
  rfl
set_option maxHeartbeats 1000000 in
set_option maxRecDepth 100000 in
theorem schema_Name.calls (a0 : ByteArray) (r : Bool) (w : World) (h : schema_Name.f a0 = some r) :
    Calls Try.prog 30 #[.string a0] w fun e w' => e = .returned (.bool r) ∧ Below w.heap.size w w' := by
  obtain rfl := Option.some.inj h
  clear h
  show Calls _ _ _ _ (boolPost (nameB a0) w)
  go_enter Try.func30, Try.ntmps30
  go_wp2
  go_loopw [3, 4] (fun v3 v4 w' => ∃ pos : Nat, nameRel a0 w pos w') (fun _ _ w' => a0.size - w'.iterPos w.heap.size)
  case atStart => exact ⟨0, Nat.zero_le _, fun i hi => by omega, rfl⟩
  case round =>
    obtain ⟨pos, hp, hall, rfl⟩ := hrel
    have HALL := Aside0.mk hall
    clear hall
    by_cases hlt : pos < a0.size
    · by_cases ha : (a0[pos]'hlt).toNat < 128
      · have hnx : ∀ ty, (Instr.next (.pointer (some ⟨w.heap.size, 0, none⟩)) true ty).run Try.prog (w.iter a0 pos) = _ := fun ty => run_next_ascii w a0 pos ty hlt ha
        have HE : Aside0 (bt a0 (pos : Int) = (((a0[pos]'hlt).toNat : Nat) : Int)) := ⟨by simp [bt, hlt]⟩
        generalize (a0[pos]'hlt).toNat = c at *
        go_wp2
        all_goals first
          | (refine ⟨⟨pos + 1, ?_⟩, ?_⟩; (exact ⟨by omega, name_next HALL HE (by first | omega | (simp only [beq_iff_eq, beq_eq_false_iff_ne, ne_eq] at *; omega)), rfl⟩); (simp; omega))
          | (go_ret; rw [name_fall hlt HE (by first | omega | (simp only [beq_iff_eq, beq_eq_false_iff_ne, ne_eq] at *; omega))]; exact ⟨rfl, (Below.refl _ _).alloc (Nat.le_refl _) _⟩)
      · have hnx : ∀ ty, (Instr.next (.pointer (some ⟨w.heap.size, 0, none⟩)) true ty).run Try.prog (w.iter a0 pos) = _ := fun ty => run_next_any w a0 pos ty hlt
        have hd := (decode_high a0 pos hlt (by omega)).1
        have HE : Aside0 (bt a0 (pos : Int) = (((a0[pos]'hlt).toNat : Nat) : Int)) := ⟨by simp [bt, hlt]⟩
        have hf : nameB a0 = false := name_fall hlt HE (by omega)
        clear HE
        generalize (Utf8.decode a0 pos).1 = c at *
        generalize (Utf8.decode a0 pos).2 = wd at *
        go_wp2
        all_goals first
          | (exfalso; first | omega | (simp only [beq_iff_eq, beq_eq_false_iff_ne, ne_eq] at *; omega))
          | (go_ret; rw [hf]; exact ⟨rfl, (Below.refl _ _).alloc (Nat.le_refl _) _⟩)
    · have hnx : ∀ ty, (Instr.next (.pointer (some ⟨w.heap.size, 0, none⟩)) true ty).run Try.prog (w.iter a0 pos) = _ := fun ty => run_next_end w a0 pos ty hlt
      have hn := name_all a0 (fun i hi => HALL.out i (by omega))
      by_cases hz : a0.size = 0
      · have HN : nameB a0 = false := by rw [hn]; simp [hz]
        have he : a0.toList = [] := List.eq_nil_of_length_eq_zero (by rw [ByteArray.toList_eq, data_length]; exact hz)
        clear hn
        go_wp2
        all_goals (go_ret; rw [HN]; exact ⟨by simp [he], (Below.refl _ _).alloc (Nat.le_refl _) _⟩)
      · have HN : nameB a0 = decide (a0.size ≤ 12) := by rw [hn]; simp [hz]
        have he : a0.toList.isEmpty = false := List.isEmpty_eq_false_iff.mpr fun h => hz (by rw [← data_length, ← ByteArray.toList_eq, h]; rfl)
        have hs : decide ((a0.size : Int) ≤ 12) = decide (a0.size ≤ 12) := decide_eq_decide.2 (by omega)
        clear hn
        go_wp2
        all_goals (go_ret; rw [HN]; exact ⟨by simp [he, hs], (Below.refl _ _).alloc (Nat.le_refl _) _⟩)

end Go.Proofs.Ytbgdamlidohfhaa.P
