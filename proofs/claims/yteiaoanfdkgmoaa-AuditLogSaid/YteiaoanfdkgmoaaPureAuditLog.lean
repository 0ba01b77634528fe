/- AuditLog, about lists alone: only what was asked as an event and answered without an error is told, and of two parts it is both; no condition. -/
import Derived.Test.YteiaoanfdkgmoaaQAuditLog
import Derived.Test.YteiaoanfdkgmoaaF21
import Derived.Test.YteiaoanfdkgmoaaF21b
namespace Go.Proofs.Yteiaoanfdkgmoaa.P
open Go.RowKit Go.Proofs.YteiaoanfdkgmoaaW.PrintWords Go.Proofs.YteiaoanfdkgmoaaW.PrintLast Go.Proofs.YteiaoanfdkgmoaaW.PrintMore

theorem logOf_append : ∀ (a b : List SReq) (c d : List SRes), a.length = c.length → logOf (a ++ b) (c ++ d) = logOf a c ++ logOf b d
  | [], b, [], d, _ => rfl
  | q :: a, b, r :: c, d, h => by
    have ih := logOf_append a b c d (by simpa using h)
    simp only [List.cons_append, logOf, ih, List.append_assoc]
  | [], _, _ :: _, _, h => by simp at h
  | _ :: _, _, [], _, h => by simp at h
theorem logOf_snoc (q : List SReq) (l : List SRes) (i : Nat) (h : i < q.length) (h2 : q.length = l.length) :
    logOf (q.take (i + 1)) (l.take (i + 1)) = logOf (q.take i) (l.take i) ++ (if toldB (q.getD i zReq) (l.getD i zRes) = true then [(q.getD i zReq).f5] else []) := by
  rw [take_snoc zReq q i h, take_snoc zRes l i (by omega), logOf_append _ _ _ _ (by simp; omega)]
  simp [logOf]
theorem log_loop (q : List SReq) (l : List SRes) (x2 : Int) (hq : ∀ y ∈ q, wfReq y) (hl : q.length ≤ 40) (h2 : l.length = q.length) (h0 : 0 ≤ x2) (h1 : x2 ≤ (q.length : Int)) : ∀ (d i k : Nat), i + d = q.length → d + 50 < k →
    towncrierlaw21_AuditLog.l0 k q l x2 ((logOf (q.take i) (l.take i)).length : Int) (i : Int) = some true := by
  intro d
  induction d with
  | zero =>
    intro i k hi hk
    obtain ⟨k, rfl⟩ := rounds_of (show 0 < k from by omega)
    simp only [towncrierlaw21_AuditLog.l0]
    have hlen := logOf_len q l
    have e := logOf_append (q.take x2.toNat) (q.drop x2.toNat) (l.take x2.toNat) (l.drop x2.toNat) (by simp; omega)
    rw [List.take_append_drop, List.take_append_drop] at e
    rw [if_neg (by omega), if_pos h0, if_pos h1, if_pos (by omega), log_is _ _ (fun y hy => hq y (List.mem_of_mem_take hy)) (by simp; omega) (by simp; omega), log_is _ _ (fun y hy => hq y (List.mem_of_mem_drop hy)) (by simp; omega) (by simp; omega), log_is q l hq (by omega) (by omega)]
    simp only [Option.bind_some]
    rw [List.take_of_length_le (by omega), List.take_of_length_le (by omega), if_pos rfl]
    have e2 : (logOf q l).length = (logOf (q.take x2.toNat) (l.take x2.toNat)).length + (logOf (q.drop x2.toNat) (l.drop x2.toNat)).length := by rw [e, List.length_append]
    have e3 : wrap64 (((logOf (q.take x2.toNat) (l.take x2.toNat)).length : Int) + ((logOf (q.drop x2.toNat) (l.drop x2.toNat)).length : Int)) = ((logOf q l).length : Int) := by
      rw [e2] at hlen ⊢
      unfold wrap64
      omega
    rw [e3]
    simp
  | succ d ih =>
    intro i k hi hk
    obtain ⟨k, rfl⟩ := rounds_of (show 0 < k from by omega)
    simp only [towncrierlaw21_AuditLog.l0]
    have hs := logOf_snoc q l i (by omega) h2.symm
    have hlen := logOf_len (q.take i) (l.take i)
    rw [List.length_take] at hlen
    have ih' := ih (i + 1) k (by omega) (by omega)
    rw [hs] at ih'
    rw [if_pos (by omega), if_pos (by omega)]
    rw [show rd_TReq q (i : Int) = q.getD i zReq from by simp [rd_TReq], show rd_TRes l (i : Int) = l.getD i zRes from by simp [rd_TRes]]
    unfold toldB at ih'
    generalize q.getD i zReq = x at *
    generalize l.getD i zRes = y at *
    by_cases c1 : x.f0 = 3
    · rw [if_pos c1, if_pos (by omega)]
      by_cases c2 : y.f0 = true
      · rw [if_pos c2, wrap_succ (by omega)]
        simpa [c1, c2] using ih'
      · rw [if_neg c2]
        by_cases c3 : y.f1 = 0
        · rw [if_pos c3, wrap_succ (by omega), wrap_succ (by omega)]
          simpa [c1, c2, c3] using ih'
        · rw [if_neg c3, wrap_succ (by omega)]
          simpa [c1, c2, c3] using ih'
    · rw [if_neg c1, wrap_succ (by omega)]
      simpa [c1] using ih'
theorem AuditLog : AuditLog.Pure := by
  intro x0 x1 x2 w0 _ _
  refine ⟨x0.length + 200, ?_⟩
  unfold towncrierlaw21_AuditLog.f
  rw [awake21 (by omega)]
  simp only [Option.bind_some, if_true]
  have hj : ∀ t, t = true → towncrierlaw21_AuditLog.j0 (x0.length + 200) x0 x1 x2 true t = some true := by
    intro t ht
    subst ht
    rfl
  by_cases c1 : (x0.length : Int) > 40
  · rw [if_pos c1]; exact hj _ rfl
  · rw [if_neg c1]
    by_cases c2 : (x1.length : Int) = (x0.length : Int)
    · rw [if_pos c2]
      by_cases c3 : x2 < 0
      · rw [if_pos c3]; exact hj _ rfl
      · rw [if_neg c3]
        by_cases c4 : x2 > (x0.length : Int)
        · rw [decide_eq_true c4]; exact hj _ rfl
        · rw [decide_eq_false c4]
          obtain ⟨m, hm⟩ : ∃ m, m + 1 = x0.length + 200 := ⟨x0.length + 199, by omega⟩
          rw [← hm]
          simp only [towncrierlaw21_AuditLog.j0, Bool.false_eq_true, if_false]
          exact log_loop x0 x1 x2 w0.2 (by omega) (by omega) (by omega) (by omega) x0.length 0 m (by omega) (by omega)
    · rw [if_neg c2]; exact hj _ rfl
end Go.Proofs.Yteiaoanfdkgmoaa.P
