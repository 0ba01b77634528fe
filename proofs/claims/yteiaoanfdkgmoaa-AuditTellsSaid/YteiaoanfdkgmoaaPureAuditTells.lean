/- AuditTells, about lists alone: what the program's audit tells is what the document says; no condition. -/
import Derived.Test.YteiaoanfdkgmoaaQAuditTells
import Derived.Test.YteiaoanfdkgmoaaF21
import Derived.Test.YteiaoanfdkgmoaaF21b
namespace Go.Proofs.Yteiaoanfdkgmoaa.P
open Go.RowKit Go.Proofs.YteiaoanfdkgmoaaW.PrintWords Go.Proofs.YteiaoanfdkgmoaaW.PrintLast Go.Proofs.YteiaoanfdkgmoaaW.PrintMore

theorem few_loop (x1 : ByteArray) (x2 : Int) (l : List SValue) (hl : l.length < 4611686018427387904) : ∀ (d i k : Nat), i + d = l.length → d < k → ∃ b, towncrierlaw06_Few.l0 k (i : Int) x1 x2 l = some b := by
  intro d
  induction d with
  | zero =>
    intro i k hi hk
    obtain ⟨k, rfl⟩ := rounds_of hk
    simp only [towncrierlaw06_Few.l0]
    rw [if_neg (by omega)]
    exact ⟨_, rfl⟩
  | succ d ih =>
    intro i k hi hk
    obtain ⟨k, rfl⟩ := rounds_of hk
    simp only [towncrierlaw06_Few.l0]
    rw [if_pos (by omega), if_pos (by omega), wrap_succ (by omega)]
    split
    · exact ⟨_, rfl⟩
    · exact ih (i + 1) k (by omega) (by omega)
theorem few_some (x1 : ByteArray) (x2 : Int) (l : List SValue) {k : Nat} (hk : 20 ≤ k) : ∃ b, towncrierlaw06_Few.f k x1 x2 l = some b := by
  obtain ⟨k, rfl⟩ := rounds_of (show 0 < k from by omega)
  unfold towncrierlaw06_Few.f
  simp only [towncrierlaw06_Few.j0]
  split
  · exact ⟨_, rfl⟩
  · by_cases h : (l.length : Int) > 10
    · rw [decide_eq_true h]; exact ⟨_, rfl⟩
    · rw [decide_eq_false h]
      simp only [Bool.false_eq_true, if_false]
      exact few_loop x1 x2 l (by omega) l.length 0 k (by omega) (by omega)
theorem log12_loop (l : List SEvent) (hl : l.length ≤ 40) : ∀ (d i k : Nat), i + d = l.length → d + 30 < k → ∃ b, towncrierlaw12_Log.l0 k l (i : Int) = some b := by
  intro d
  induction d with
  | zero =>
    intro i k hi hk
    obtain ⟨k, rfl⟩ := rounds_of (show 0 < k from by omega)
    simp only [towncrierlaw12_Log.l0]
    rw [if_neg (by omega)]
    exact ⟨_, rfl⟩
  | succ d ih =>
    intro i k hi hk
    obtain ⟨k, rfl⟩ := rounds_of (show 0 < k from by omega)
    simp only [towncrierlaw12_Log.l0]
    obtain ⟨b, hb⟩ := few_some (rd_TEvent l (i : Int)).f0 (rd_TEvent l (i : Int)).f1 (rd_TEvent l (i : Int)).f2 (k := k) (by omega)
    rw [if_pos (by omega), if_pos (by omega), hb, wrap_succ (by omega)]
    simp only [Option.bind_some]
    split
    · exact ih (i + 1) k (by omega) (by omega)
    · exact ⟨_, rfl⟩
theorem log12_some (l : List SEvent) (hl : l.length ≤ 40) {k : Nat} (hk : 100 ≤ k) : ∃ b, towncrierlaw12_Log.f k l 40 = some b := by
  unfold towncrierlaw12_Log.f
  rw [if_neg (by omega)]
  exact log12_loop l hl l.length 0 k (by omega) (by omega)

theorem drop_getD {α : Type} (z : α) (l : List α) (i : Nat) (h : i < l.length) : l.drop i = l.getD i z :: l.drop (i + 1) := by
  rw [List.drop_eq_getElem_cons h]; simp [List.getD, h]
theorem notes_go (l : List SRes) (a : Int) (hl : l.length ≤ 1000) : ∀ (d i k : Nat) (acc : List SNote), i + d = l.length → acc.length ≤ i → d < k →
    towncrierref21_Notes.l0 k l a acc (i : Int) = some (acc ++ notesOf (l.drop i) a) := by
  intro d
  induction d with
  | zero =>
    intro i k acc hi _ hk
    obtain ⟨k, rfl⟩ := rounds_of hk
    simp only [towncrierref21_Notes.l0]
    rw [if_neg (by omega), List.drop_of_length_le (by omega)]
    simp [notesOf]
  | succ d ih =>
    intro i k acc hi ha hk
    obtain ⟨k, rfl⟩ := rounds_of hk
    simp only [towncrierref21_Notes.l0]
    rw [if_pos (by omega), if_pos (by omega), drop_getD zRes l i (by omega)]
    rw [show rd_TRes l (i : Int) = l.getD i zRes from by simp [rd_TRes]]
    rw [wrap_succ (by omega)]
    have ih0 := ih (i + 1) k acc (by omega) (by omega) (by omega)
    generalize l.getD i zRes = y at *
    by_cases c1 : y.f0 = true
    · rw [if_pos c1]
      by_cases c2 : y.f4.f0 = a
      · rw [if_pos c2, if_pos (by omega), ih (i + 1) k _ (by omega) (by simp; omega) (by omega)]
        have : notesOf (y :: l.drop (i + 1)) a = y.f4 :: notesOf (l.drop (i + 1)) a := by
          unfold notesOf
          rw [List.filter_cons, if_pos (by rw [c1, c2]; simp), List.map_cons]
        rw [this, List.append_assoc]
        rfl
      · rw [if_neg c2, ih0]
        have : notesOf (y :: l.drop (i + 1)) a = notesOf (l.drop (i + 1)) a := by
          unfold notesOf
          rw [List.filter_cons, if_neg (by simp [c1]; simpa using c2)]
        rw [this]
    · rw [if_neg c1, ih0]
      have : notesOf (y :: l.drop (i + 1)) a = notesOf (l.drop (i + 1)) a := by
        unfold notesOf
        rw [List.filter_cons, if_neg (by simp only [Bool.and_eq_true]; exact fun h => c1 h.1)]
      rw [this]
theorem line_go (l : List SNote) (hl : l.length ≤ 1000) : ∀ (d i k : Nat) (n : Int) (o : Bool), i + d = l.length → d < k →
    towncrierref21_Line.l0 k l n o (i : Int) = some (if o = true then (l.drop i).all (fun y => y.f2 != 0) else lineG (l.drop i) n) := by
  intro d
  induction d with
  | zero =>
    intro i k n o hi hk
    obtain ⟨k, rfl⟩ := rounds_of hk
    simp only [towncrierref21_Line.l0]
    rw [if_neg (by omega), List.drop_of_length_le (by omega)]
    cases o <;> simp [lineG]
  | succ d ih =>
    intro i k n o hi hk
    obtain ⟨k, rfl⟩ := rounds_of hk
    simp only [towncrierref21_Line.l0]
    rw [if_pos (by omega), if_pos (by omega), drop_getD zNote l i (by omega)]
    rw [show rd_TNote l (i : Int) = l.getD i zNote from by simp [rd_TNote]]
    rw [wrap_succ (by omega), List.all_cons, lineG]
    generalize l.getD i zNote = y at *
    by_cases c1 : y.f2 = 0
    · rw [if_pos c1, if_pos c1]
      cases o
      · simp only [Bool.false_eq_true, if_false]
        by_cases c2 : y.f1 = wrap64 (n + 1)
        · rw [if_pos c2, ih (i + 1) k _ _ (by omega) (by omega), c2]; simp
        · rw [if_neg c2]
          have : (y.f1 == wrap64 (n + 1)) = false := by simpa using c2
          rw [this, Bool.false_and]
      · rw [if_pos rfl, if_pos rfl, c1]; simp
    · rw [if_neg c1, if_neg c1, ih (i + 1) k _ _ (by omega) (by omega), if_pos rfl]
      have : (y.f2 != 0) = true := by simpa using c1
      rw [this, Bool.true_and]
      cases o <;> simp
theorem right_go (l : List SNote) (m : List SMatch) (hl : l.length ≤ 1000) (hm : m.length ≤ 1000) : ∀ (d i k : Nat), i + d = l.length → d < k →
    towncrierref21_Right.l0 k l m (i : Int) = some (!((l.drop i).any (wrongNote m))) := by
  intro d
  induction d with
  | zero =>
    intro i k hi hk
    obtain ⟨k, rfl⟩ := rounds_of hk
    simp only [towncrierref21_Right.l0]
    rw [if_neg (by omega), List.drop_of_length_le (by omega)]
    simp
  | succ d ih =>
    intro i k hi hk
    obtain ⟨k, rfl⟩ := rounds_of hk
    simp only [towncrierref21_Right.l0]
    rw [if_pos (by omega), if_pos (by omega), drop_getD zNote l i (by omega)]
    rw [show rd_TNote l (i : Int) = l.getD i zNote from by simp [rd_TNote]]
    have er : ∀ j, rd_TMatch m j = m.getD j.toNat zMatch := fun _ => rfl
    rw [er]
    rw [wrap_succ (by omega), ih (i + 1) k (by omega) (by omega), List.any_cons, wrongNote]
    generalize l.getD i zNote = x
    by_cases c1 : x.f2 = 0
    · rw [if_pos c1]
      by_cases c2 : x.f1 < 1
      · rw [if_pos c2]; simp [c1, c2]
      · rw [if_neg c2]
        by_cases c3 : x.f1 > (m.length : Int)
        · rw [if_pos c3]; simp [c1, c3]
        · rw [if_neg c3]
          have e : wrap64 (x.f1 - 1) = x.f1 - 1 := by unfold wrap64; omega
          rw [e, if_pos (by omega), if_pos (by omega)]
          have e2 : decide (x.f1 < 1) = false := by simpa using c2
          have e3 : decide ((m.length : Int) < x.f1) = false := by simpa using c3
          rw [e2, e3, c1]
          simp only [beq_self_eq_true, Bool.true_and, Bool.false_or, neMatch]
          split
          · rename_i h; rw [h]; simp
          · rename_i h
            have h := Bool.eq_false_iff.mpr h
            rw [h, Bool.false_or]
    · rw [if_neg c1]; simp [c1]
theorem log21_go (q : List SReq) (l : List SRes) (hl : q.length ≤ 1000) (hl2 : l.length ≤ 1000) : ∀ (d i k : Nat) (acc : List SEvent), i + d = q.length → acc.length ≤ i → d + d + 5 < k →
    towncrierref21_Log.l0 k q l acc (i : Int) = some (acc ++ logOf (q.drop i) (l.drop i)) := by
  intro d
  induction d with
  | zero =>
    intro i k acc hi _ hk
    obtain ⟨k, rfl⟩ := rounds_of (show 1 < k from by omega)
    obtain ⟨k, rfl⟩ := rounds_of (show 0 < k from by omega)
    simp only [towncrierref21_Log.l0, towncrierref21_Log.j1]
    rw [if_neg (by omega), List.drop_of_length_le (show q.length ≤ i from by omega)]
    simp [logOf]
  | succ d ih =>
    intro i k acc hi ha hk
    obtain ⟨k, rfl⟩ := rounds_of (show 1 < k from by omega)
    obtain ⟨k, rfl⟩ := rounds_of (show 0 < k from by omega)
    simp only [towncrierref21_Log.l0, towncrierref21_Log.j1]
    rw [if_pos (by omega), drop_getD zReq q i (by omega)]
    by_cases h2 : i < l.length
    · rw [decide_eq_true (show (i : Int) < (l.length : Int) from by omega), if_pos rfl, if_pos (by omega), if_pos (by omega), drop_getD zRes l i h2]
      rw [show rd_TReq q (i : Int) = q.getD i zReq from by simp [rd_TReq], show rd_TRes l (i : Int) = l.getD i zRes from by simp [rd_TRes]]
      simp only [logOf]
      rw [wrap_succ (by omega)]
      have ih0 := ih (i + 1) k acc (by omega) (by omega) (by omega)
      unfold toldB
      generalize q.getD i zReq = x at *
      generalize l.getD i zRes = y at *
      by_cases c1 : x.f0 = 3
      · rw [if_pos c1, if_pos (by omega)]
        by_cases c2 : y.f0 = true
        · rw [if_pos c2, ih0]
          simp [c1, c2]
        · rw [if_neg c2]
          by_cases c3 : y.f1 = 0
          · rw [if_pos c3, if_pos (by omega), ih (i + 1) k _ (by omega) (by simp; omega) (by omega)]
            simp [c1, c2, c3]
          · rw [if_neg c3, ih0]
            simp [c1, c2, c3]
      · rw [if_neg c1, ih0]
        simp [c1]
    · rw [decide_eq_false (show ¬ (i : Int) < (l.length : Int) from by omega), List.drop_of_length_le (show l.length ≤ i from by omega)]
      simp [logOf]
theorem same06_loop (e : SEvent) (hl : e.f2.length < 4611686018427387904) : ∀ (d i k : Nat), i + d = e.f2.length → d < k → towncrierref06_Same.l0 k (i : Int) e.f0 e.f1 e.f2 e.f0 e.f1 e.f2 = some true := by
  intro d
  induction d with
  | zero =>
    intro i k hi hk
    obtain ⟨k, rfl⟩ := rounds_of hk
    simp only [towncrierref06_Same.l0]
    rw [if_neg (by omega)]
  | succ d ih =>
    intro i k hi hk
    obtain ⟨k, rfl⟩ := rounds_of hk
    simp only [towncrierref06_Same.l0]
    rw [if_pos (by omega), if_pos (by omega), if_pos (by omega), if_neg (by simp), wrap_succ (by omega)]
    exact ih (i + 1) k (by omega) (by omega)
theorem same06_refl (e : SEvent) (hl : e.f2.length < 4611686018427387904) {k : Nat} (hk : e.f2.length + 1 < k) : towncrierref06_Same.f k e.f0 e.f1 e.f2 e.f0 e.f1 e.f2 = some true := by
  obtain ⟨k, rfl⟩ := rounds_of (show 0 < k from by omega)
  unfold towncrierref06_Same.f
  simp only [if_true, towncrierref06_Same.j0]
  rw [if_neg (by simp)]
  exact same06_loop e hl e.f2.length 0 k (by omega) (by omega)
theorem logOf_mem : ∀ (q : List SReq) (l : List SRes) (e : SEvent), e ∈ logOf q l → ∃ y ∈ q, e = y.f5
  | [], _, e, h => by simp [logOf] at h
  | _ :: _, [], e, h => by simp [logOf] at h
  | q :: qs, a :: as_, e, h => by
    simp only [logOf, List.mem_append] at h
    rcases h with h | h
    · split at h
      · simp at h; exact ⟨q, by simp, h⟩
      · simp at h
    · obtain ⟨y, hy, he⟩ := logOf_mem qs as_ e h
      exact ⟨y, by simp [hy], he⟩
theorem tells_loop1 (x2 : List SNote) (x3 : Int) (x5 : List SMatch) (g : List SEvent) (hg : g.length ≤ 1000) (hw : ∀ e ∈ g, e.f2.length ≤ 4398046511104) : ∀ (d i k : Nat), i + d = g.length → d + 5000000000000 < k →
    towncrierlaw21_AuditTells.l1 k x2 x3 x5 true true (lineG x2 x3) (!(x2.any (wrongNote x5))) g g (i : Int) = some true := by
  intro d
  induction d with
  | zero =>
    intro i k hi hk
    obtain ⟨k, rfl⟩ := rounds_of (show 0 < k from by omega)
    simp only [towncrierlaw21_AuditTells.l1, audit_Line.f, audit_Right.f]
    rw [if_neg (by omega), lineOf_G]
    simp
  | succ d ih =>
    intro i k hi hk
    obtain ⟨k, rfl⟩ := rounds_of (show 0 < k from by omega)
    simp only [towncrierlaw21_AuditTells.l1]
    rw [if_pos (by omega), if_pos (by omega)]
    rw [show rd_TEvent g (i : Int) = g.getD i zEvent from by simp [rd_TEvent]]
    have hm := hw (g.getD i zEvent) (by have : i < g.length := by omega
                                        simp [List.getD, this])
    rw [same06_refl _ (by omega) (by omega), wrap_succ (by omega)]
    simp only [Option.bind_some, if_true]
    rw [if_pos (by omega)]
    exact ih (i + 1) k (by omega) (by omega)
theorem tells_loop0 (x0 : List SRes) (x1 : Int) (x2 : List SNote) (x3 : Int) (x4 : List SReq) (x5 : List SMatch) (x6 : Int) (h0 : x0.length ≤ 40) (h2 : x2.length ≤ 40) (h4 : x4.length ≤ 40) (h5 : x5.length ≤ 40) (hq : ∀ y ∈ x4, wfReq y) :
    ∀ (d i k : Nat), i + d = x4.length → d + 5000000010000 < k →
    towncrierlaw21_AuditTells.l0 k x0 x1 x2 x3 x4 x5 x6 ((x4.take i).map (·.f5)) (i : Int) = some true := by
  intro d
  induction d with
  | zero =>
    intro i k hi hk
    obtain ⟨k, rfl⟩ := rounds_of (show 0 < k from by omega)
    simp only [towncrierlaw21_AuditTells.l0]
    rw [if_neg (by omega)]
    obtain ⟨b, hb⟩ := log12_some ((x4.take i).map (·.f5)) (by simp; omega) (k := k) (by omega)
    rw [hb]
    simp only [Option.bind_some]
    cases b
    · simp
    · rw [if_pos rfl]
      have e1 : audit_Notes.f x0 x1 = some (notesOf x0 x1) := by unfold audit_Notes.f; rw [if_pos (by omega)]
      have e2 : towncrierref21_Notes.f k x0 x1 = some (notesOf x0 x1) := by
        unfold towncrierref21_Notes.f
        have := notes_go x0 x1 (by omega) x0.length 0 k [] (by omega) (by simp) (by omega)
        simpa using this
      have hn : (notesOf x0 x1).length ≤ x0.length := by
        unfold notesOf
        rw [List.length_map]
        exact List.length_filter_le _ _
      have e3 : towncrierref21_Shift.f x5 x6 = some (x5.map (shiftBy x6)) := by unfold towncrierref21_Shift.f; rw [if_pos (by omega)]
      have e4 : towncrierref21_Line.f k x2 x3 = some (lineG x2 x3) := by
        unfold towncrierref21_Line.f
        have := line_go x2 (by omega) x2.length 0 k x3 false (by omega) (by omega)
        simpa using this
      have e5 : towncrierref21_Right.f k x2 x5 = some (!(x2.any (wrongNote x5))) := by
        unfold towncrierref21_Right.f
        have := right_go x2 x5 (by omega) (by omega) x2.length 0 k (by omega) (by omega)
        simpa using this
      have e6 : towncrierref21_Log.f k x4 x0 = some (logOf x4 x0) := by
        unfold towncrierref21_Log.f
        have := log21_go x4 x0 (by omega) (by omega) x4.length 0 k [] (by omega) (by simp) (by omega)
        simpa using this
      have hlg := logOf_len x4 x0
      rw [e1, e2, e3, e4, e5, e6, shift_is x5 x6 (by omega) (by omega), log_is x4 x0 hq (by omega) (by omega)]
      simp only [Option.bind_some]
      rw [same21_refl _ (by omega) (by omega)]
      simp only [Option.bind_some]
      rw [same12_refl _ (by simp; omega) (by simp; omega)]
      simp only [Option.bind_some, if_true]
      refine tells_loop1 x2 x3 x5 (logOf x4 x0) (by omega) ?_ (logOf x4 x0).length 0 k (by omega) (by omega)
      intro e he
      obtain ⟨y, hy, rfl⟩ := logOf_mem _ _ _ he
      obtain ⟨_, _, _, _, _, ⟨_, _, hv, _⟩, _⟩ := hq y hy
      omega
  | succ d ih =>
    intro i k hi hk
    obtain ⟨k, rfl⟩ := rounds_of (show 0 < k from by omega)
    simp only [towncrierlaw21_AuditTells.l0]
    rw [if_pos (by omega), if_pos (by omega), if_pos (by simp; omega)]
    rw [show rd_TReq x4 (i : Int) = x4.getD i zReq from by simp [rd_TReq]]
    rw [wrap_succ (by omega)]
    have h := ih (i + 1) k (by omega) (by omega)
    rw [take_snoc zReq x4 i (by omega), List.map_append] at h
    exact h
theorem AuditTells : AuditTells.Pure := by
  intro x0 x1 x2 x3 x4 x5 x6 _ _ _ _ w4 _ _
  refine ⟨5000000020001, ?_⟩
  unfold towncrierlaw21_AuditTells.f
  rw [awake21 (by omega)]
  simp only [Option.bind_some, if_true]
  have hj : ∀ t, t = true → towncrierlaw21_AuditTells.j0 5000000020001 x0 x1 x2 x3 x4 x5 x6 true t = some true := by
    intro t ht
    subst ht
    rfl
  by_cases c1 : (x0.length : Int) > 40
  · rw [if_pos c1]; exact hj _ rfl
  · rw [if_neg c1]
    by_cases c2 : (x2.length : Int) > 40
    · rw [if_pos c2]; exact hj _ rfl
    · rw [if_neg c2]
      by_cases c3 : (x4.length : Int) > 40
      · rw [if_pos c3]; exact hj _ rfl
      · rw [if_neg c3]
        by_cases c4 : (x5.length : Int) > 40
        · rw [decide_eq_true c4]; exact hj _ rfl
        · rw [decide_eq_false c4]
          obtain ⟨m, hm⟩ : ∃ m, m + 1 = 5000000020001 := ⟨5000000020000, by omega⟩
          rw [← hm]
          simp only [towncrierlaw21_AuditTells.j0, Bool.false_eq_true, if_false]
          exact tells_loop0 x0 x1 x2 x3 x4 x5 x6 (by omega) (by omega) (by omega) (by omega) w4.2 x4.length 0 m (by omega) (by omega)
end Go.Proofs.Yteiaoanfdkgmoaa.P
