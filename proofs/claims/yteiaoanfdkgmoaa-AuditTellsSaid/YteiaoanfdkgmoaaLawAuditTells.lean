/- AuditTells holds of the given program for every input: its row, out of its pure statement and its walk; no condition. -/
import Derived.Test.YteiaoanfdkgmoaaRows
import Derived.Test.YteiaoanfdkgmoaaPureAuditTells
import Derived.WalkKit
import Derived.ProofKit
import Derived.OpenShut
import Derived.ShutString
import Derived.ChangeOld
import Derived.Below
import Derived.SizedLaws
import Derived.Carry
namespace Go.Proofs.Yteiaoanfdkgmoaa.auditTells
open Go.ChangeShapes Go.WideShapes Go.ChangeAt Go.RowKit
open Go.ChangeMaps (open_string shut_string)
set_option linter.unusedVariables false
theorem own : ownKnob Try.prog.godebug = none := by kernel_rfl
theorem laidOut : laidOutB Try.prog = true := by kernel_rfl
set_option maxRecDepth 100000 in
theorem lifted (os : Os) (started : os.Started) (H : Type) (enc : TypeId × Value → H) :
    ReturnsInHanded {} Try.checked os 8 .any (Rows.auditTellsSpec.pre6 enc Try.prog Try.f8 Rows.auditTellsRow.domain false) (Rows.auditTellsSpec.post enc Try.prog Try.f8 false true false false) := by
  refine returnsInHanded_of_change_sized (C := Try.checked) own started (by kernel_rfl) Try.func8
    (ChangeSpec.witness6 (enc := enc) (C := Try.checked) false ⟨#[], #[(.slice none 0 0), (.int .i64 0), (.slice none 0 0), (.int .i64 0), (.slice none 0 0), (.slice none 0 0), (.int .i64 0)], []⟩ 8 (by kernel_rfl) (by kernel_rfl) (by kernel_rfl) (by kernel_rfl)) ?_
  intro W base args ds gs before hval0 hW hcnd hsz0 _
  have hsz : (DataW.weightsEach Try.prog (Try.f8.params.toList ++ Rows.auditTellsSpec.plain.varTypes Try.prog) (ds ++ gs)).all (· ≤ reachBytes) = true := hsz0
  have hval : ∀ (j : Nat) t v, Try.f8.params[j]? = some t → args[j]? = some v → Value.okWide Try.prog W .any base t v := hval0
  have hW' := hW
  obtain ⟨p, q, hA0, hV, rfl, hfz, hnd⟩ := hW
  have hA : DataW.TrodAll enc Try.prog W 0 (fun _ => true) true Try.f8.params.toList args.toList ds p := hA0
  rw [Try.params8] at hA hval hsz
  obtain ⟨v0, vs0, d0, ds0, p0, q0, hargs, rfl, rfl, h0, r0⟩ := trodAll_cons hA
  obtain ⟨v1, vs1, d1, ds1, p1, q1, rfl, rfl, rfl, h1, r1⟩ := trodAll_cons r0
  obtain ⟨v2, vs2, d2, ds2, p2, q2, rfl, rfl, rfl, h2, r2⟩ := trodAll_cons r1
  obtain ⟨v3, vs3, d3, ds3, p3, q3, rfl, rfl, rfl, h3, r3⟩ := trodAll_cons r2
  obtain ⟨v4, vs4, d4, ds4, p4, q4, rfl, rfl, rfl, h4, r4⟩ := trodAll_cons r3
  obtain ⟨v5, vs5, d5, ds5, p5, q5, rfl, rfl, rfl, h5, r5⟩ := trodAll_cons r4
  obtain ⟨v6, vs6, d6, ds6, p6, q6, rfl, rfl, rfl, h6, r6⟩ := trodAll_cons r5
  obtain ⟨rfl, rfl, rfl⟩ := trodAll_nil r6
  obtain rfl : args = #[v0, v1, v2, v3, v4, v5, v6] := by cases args; simp_all
  obtain ⟨rfl, rfl⟩ := trodVars_none hV
  have k0 := h0
  have lt0 : ∀ x ∈ p0, x.block < W.heap.size := by obtain ⟨m, hm⟩ := k0; exact DataW.trod_lt m _ _ _ hm
  obtain ⟨fuel0, hf0⟩ := h0
  obtain ⟨a0, len0, cap0, rfl⟩ := okWide_slice Try.underlying30 (hval 0 30 v0 rfl rfl)
  obtain ⟨x0, ⟨A0, c0, hcs0, hc0, hr0⟩, w0⟩ := P.openArg0_AuditTells enc W 0 (fun _ => true) true fuel0 _ _ hf0 (fun n_ hn_ => by have z_ := List.all_eq_true.1 hsz n_ (DataW.weights_mem_each (j := 0) (t := 30) rfl rfl n_ hn_); simpa using z_)
  simp only [Value.cells, List.cons.injEq, Value.slice.injEq, and_true] at hcs0
  obtain ⟨rfl, rfl, rfl⟩ := hcs0
  obtain ⟨x1, rfl, rfl, rfl, w1⟩ := open_int Try.underlying3 (hval 1 3 v1 rfl rfl) h1
  have k2 := h2
  have lt2 : ∀ x ∈ p2, x.block < W.heap.size := by obtain ⟨m, hm⟩ := k2; exact DataW.trod_lt m _ _ _ hm
  obtain ⟨fuel2, hf2⟩ := h2
  obtain ⟨a2, len2, cap2, rfl⟩ := okWide_slice Try.underlying22 (hval 2 22 v2 rfl rfl)
  obtain ⟨x2, ⟨A2, c2, hcs2, hc2, hr2⟩, w2⟩ := P.openArg2_AuditTells enc W 0 (fun _ => true) true fuel2 _ _ hf2 (fun n_ hn_ => by have z_ := List.all_eq_true.1 hsz n_ (DataW.weights_mem_each (j := 2) (t := 22) rfl rfl n_ hn_); simpa using z_)
  simp only [Value.cells, List.cons.injEq, Value.slice.injEq, and_true] at hcs2
  obtain ⟨rfl, rfl, rfl⟩ := hcs2
  obtain ⟨x3, rfl, rfl, rfl, w3⟩ := open_int Try.underlying3 (hval 3 3 v3 rfl rfl) h3
  have k4 := h4
  have lt4 : ∀ x ∈ p4, x.block < W.heap.size := by obtain ⟨m, hm⟩ := k4; exact DataW.trod_lt m _ _ _ hm
  obtain ⟨fuel4, hf4⟩ := h4
  obtain ⟨a4, len4, cap4, rfl⟩ := okWide_slice Try.underlying45 (hval 4 45 v4 rfl rfl)
  obtain ⟨x4, ⟨A4, c4, hcs4, hc4, hr4⟩, w4⟩ := P.openArg4_AuditTells enc W 0 (fun _ => true) true fuel4 _ _ hf4 (fun n_ hn_ => by have z_ := List.all_eq_true.1 hsz n_ (DataW.weights_mem_each (j := 4) (t := 45) rfl rfl n_ hn_); simpa using z_)
  simp only [Value.cells, List.cons.injEq, Value.slice.injEq, and_true] at hcs4
  obtain ⟨rfl, rfl, rfl⟩ := hcs4
  have k5 := h5
  have lt5 : ∀ x ∈ p5, x.block < W.heap.size := by obtain ⟨m, hm⟩ := k5; exact DataW.trod_lt m _ _ _ hm
  obtain ⟨fuel5, hf5⟩ := h5
  obtain ⟨a5, len5, cap5, rfl⟩ := okWide_slice Try.underlying34 (hval 5 34 v5 rfl rfl)
  obtain ⟨x5, ⟨A5, c5, hcs5, hc5, hr5⟩, w5⟩ := P.openArg5_AuditTells enc W 0 (fun _ => true) true fuel5 _ _ hf5 (fun n_ hn_ => by have z_ := List.all_eq_true.1 hsz n_ (DataW.weights_mem_each (j := 5) (t := 34) rfl rfl n_ hn_); simpa using z_)
  simp only [Value.cells, List.cons.injEq, Value.slice.injEq, and_true] at hcs5
  obtain ⟨rfl, rfl, rfl⟩ := hcs5
  obtain ⟨x6, rfl, rfl, rfl, w6⟩ := open_int Try.underlying3 (hval 6 3 v6 rfl rfl) h6
  clear hA0 hval0 hsz0 hsz
  refine (P.AuditTells.walk P.AuditTells W x0 _ _ hc0 hr0 w0 x1 w1 x2 _ _ hc2 hr2 w2 x3 w3 x4 _ _ hc4 hr4 w4 x5 _ _ hc5 hr5 w5 x6 w6).mono fun e W' ⟨he, bel⟩ => ?_
  subst he
  exact ⟨_, rfl, _, _, _, [], _, [], hW', trodAll_mk1 (shut_bool Try.underlying4 _), (trodAll_cons_mk (Below.trod laidOut (by kernel_rfl) (of_decide_eq_true (by kernel_rfl)) k0 bel lt0) (trodAll_cons_mk (shut_int Try.underlying3 w1) (trodAll_cons_mk (Below.trod laidOut (by kernel_rfl) (of_decide_eq_true (by kernel_rfl)) k2 bel lt2) (trodAll_cons_mk (shut_int Try.underlying3 w3) (trodAll_cons_mk (Below.trod laidOut (by kernel_rfl) (of_decide_eq_true (by kernel_rfl)) k4 bel lt4) (trodAll_cons_mk (Below.trod laidOut (by kernel_rfl) (of_decide_eq_true (by kernel_rfl)) k5 bel lt5) (trodAll_cons_mk (shut_int Try.underlying3 w6) trodAll_mk0))))))), rfl, bel.frame _, fun h => by cases h⟩
theorem over : Rows.auditTellsRow.holds Try.pinned (OpenSpec.ofChange Rows.auditTellsSpec) :=
  OpenClaim.holds_of_wide 8 Try.f8 rfl rfl rfl rfl rfl rfl rfl ⟨rfl, rfl, rfl, rfl, rfl⟩ rfl rfl rfl rfl rfl (by kernel_rfl) Try.func8 (by kernel_rfl)
    (of_decide_eq_true (by kernel_rfl)) (by unfold Func.isWrapper; first | (rw [if_pos (by decide +kernel)]; kernel_rfl) | (rw [if_neg (by decide +kernel)]; exact ⟨rfl, rfl⟩))
    (fun os started H enc _ => lifted os started H enc)
theorem proved : Rows.AuditTellsSaid := over
end Go.Proofs.Yteiaoanfdkgmoaa.auditTells
namespace Go.Proofs.Yteiaoanfdkgmoaa
/-- The row, under a short name, for the claim. -/
theorem auditTells_holds : Rows.AuditTellsSaid := auditTells.proved
#print axioms auditTells_holds
end Go.Proofs.Yteiaoanfdkgmoaa
