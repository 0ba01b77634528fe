/- Plain facts on what is told as an event (layer 21), about lists alone; each under the conditions that it names. -/
import Derived.Test.YteiaoanfdkgmoaaF21
import Derived.Test.YteiaoanfdkgmoaaK
import Derived.Test.YteiaoanfdkgmoaaP27
namespace Go.Proofs.Yteiaoanfdkgmoaa.P
open Go.RowKit Go.Proofs.YteiaoanfdkgmoaaW.PrintWords Go.Proofs.YteiaoanfdkgmoaaW.PrintLast Go.Proofs.YteiaoanfdkgmoaaW.PrintMore

/-- Is a question an event, and answered without an error? -/
def toldB (q : SReq) (a : SRes) : Bool := decide (q.f0 = 3) && (!a.f0 && decide (a.f1 = 0))
def logOf : List SReq → List SRes → List SEvent
  | q :: qs, a :: as_ => (if toldB q a = true then [q.f5] else []) ++ logOf qs as_
  | _, _ => []
theorem logOf_len : ∀ (q : List SReq) (l : List SRes), (logOf q l).length ≤ q.length
  | [], _ => by simp [logOf]
  | _ :: _, [] => by simp [logOf]
  | q :: qs, a :: as_ => by
    have := logOf_len qs as_
    simp only [logOf, List.length_append, List.length_cons]
    split <;> simp <;> omega
theorem log_go (q : List SReq) (l : List SRes) (hq : ∀ y ∈ q, wfReq y) (hl : q.length ≤ 1000) (hl2 : l.length ≤ 1000) : ∀ (d i k : Nat) (acc : List SEvent), i + d = min q.length l.length → acc.length ≤ i → d < k →
    audit_Log.l0 k q l acc (mn (q.length : Int) (l.length : Int)) (i : Int) = some (acc ++ logOf (q.drop i) (l.drop i)) := by
  have hmn : mn (q.length : Int) (l.length : Int) = ((min q.length l.length : Nat) : Int) := by unfold mn; split <;> omega
  rw [hmn]
  intro d
  induction d with
  | zero =>
    intro i k acc hi _ hk
    obtain ⟨k, rfl⟩ := rounds_of hk
    simp only [audit_Log.l0]
    rw [if_neg (by omega)]
    have : logOf (q.drop i) (l.drop i) = [] := by
      by_cases h : q.length ≤ i
      · rw [List.drop_of_length_le h]; simp [logOf]
      · rw [List.drop_of_length_le (show l.length ≤ i from by omega)]
        cases q.drop i <;> simp [logOf]
    rw [this, List.append_nil]
  | succ d ih =>
    intro i k acc hi ha hk
    obtain ⟨k, rfl⟩ := rounds_of hk
    simp only [audit_Log.l0]
    have h1 : i < q.length := by omega
    have h2 : i < l.length := by omega
    have e1 : q.drop i = q.getD i zReq :: q.drop (i + 1) := by rw [List.drop_eq_getElem_cons h1]; simp [List.getD, h1]
    have e2 : l.drop i = l.getD i zRes :: l.drop (i + 1) := by rw [List.drop_eq_getElem_cons h2]; simp [List.getD, h2]
    have hw : wfReq (q.getD i zReq) := hq _ (by simp [List.getD, h1])
    rw [e1, e2]
    rw [if_pos (by omega), if_pos (by omega), if_pos (by omega)]
    rw [show rd_TReq q (i : Int) = q.getD i zReq from by simp [rd_TReq], show rd_TRes l (i : Int) = l.getD i zRes from by simp [rd_TRes]]
    simp only [logOf]
    have ih0 := ih (i + 1) k acc (by omega) (by omega) (by omega)
    unfold toldB
    generalize q.getD i zReq = x at *
    generalize l.getD i zRes = y at *
    by_cases c1 : x.f0 = 3
    · rw [if_pos c1, if_pos (by omega)]
      by_cases c2 : y.f0 = true
      · rw [if_pos c2, wrap_succ (by omega), ih0]
        simp [c1, c2]
      · rw [if_neg c2]
        by_cases c3 : y.f1 = 0
        · rw [if_pos c3]
          obtain ⟨_, _, _, _, _, ⟨_, _, hv, _⟩, _⟩ := hw
          simp only [slices_Clone_api_Value.f]
          rw [if_pos (by omega)]
          simp only [Option.bind_some]
          rw [if_pos (by omega), wrap_succ (by omega), ih (i + 1) k _ (by omega) (by simp; omega) (by omega)]
          simp [c1, c2, c3]
        · rw [if_neg c3, wrap_succ (by omega), ih0]
          simp [c1, c2, c3]
    · rw [if_neg c1, wrap_succ (by omega), ih0]
      simp [c1]
theorem log_is (q : List SReq) (l : List SRes) (hq : ∀ y ∈ q, wfReq y) (hl : q.length ≤ 1000) {k : Nat} (hl2 : l.length ≤ 1000 ∧ q.length < k) : audit_Log.f k q l = some (logOf q l) := by
  unfold audit_Log.f
  have := log_go q l hq hl hl2.1 (min q.length l.length) 0 k [] (by omega) (by simp) (by omega)
  simpa using this
end Go.Proofs.Yteiaoanfdkgmoaa.P
