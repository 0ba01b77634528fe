/- What ExprKinds's row stands on: words, contracts of the functions that it reaches, plain facts, its walk (part 4): no condition but those that each theorem names. -/
import Derived.Test.YtncllbokeofdjaaZExprKinds3
set_option linter.unusedVariables false
set_option linter.unusedSimpArgs false
namespace Go.Proofs.Ytncllbokeofdjaa.P
open Go.RowKit Go.Proofs.YtncllbokeofdjaaW.PrintWords Go.Proofs.YtncllbokeofdjaaW.PrintLast Go.Proofs.YtncllbokeofdjaaW.PrintMore
attribute [local go_sem] max2_int min2_int max_two min_two max_three min_three max_four min_four   -- for this text's walks alone
set_option linter.unusedVariables false
set_option linter.unusedSimpArgs false
def kindPost (y n : Int) (w : World) (e : Ending) (w' : World) : Prop := e = .returned (.tuple #[.int .i64 y, .int .i64 n]) ∧ Below w.heap.size w w'
def kindRel (F : List SField) (w : World) (B i : Nat) (w' : World) : Prop := ∃ v, i ≤ F.length ∧ w'.heap[B]? = some (pileBlk (.slice none 0 0) v true) ∧ Kd.R kValue 38 w' w.heap.size (fun _ => True) v ((F.take i).map fun f => (⟨f.f1, 0, ⟨#[]⟩⟩ : SValue)) ∧ Below w.heap.size w w'
theorem value_types : ∀ q, q ∈ 38 :: kValue.E → q ≠ 67 := by decide
theorem kindsOf_ok {x : SSchema} (h : mayS x = true) : okVs (kindsOf x) ∧ x.f2.length ≤ 6 := by
  obtain ⟨_, _, _, h6, hF⟩ := mayS_iff8.1 h
  refine ⟨fun v hv => ?_, h6⟩
  unfold kindsOf at hv
  obtain ⟨f, hf, rfl⟩ := List.mem_map.1 hv
  obtain ⟨i, hi, rfl⟩ := List.mem_iff_getElem.1 hf
  have hk := fieldOK_parts (hF i hi)
  rw [show x.f2.getD i zField = x.f2[i] from by simp [List.getD, hi]] at hk
  have he : (⟨#[]⟩ : ByteArray).toList = [] := by decide +kernel
  have hs : (⟨#[]⟩ : ByteArray).size = 0 := rfl
  obtain ⟨_, hk0, hk4⟩ := hk
  refine ⟨mayV_iff.2 ?_, show -9223372036854775808 ≤ (0 : Int) ∧ (0 : Int) ≤ 9223372036854775807 by decide⟩
  show (x.f2[i].f1 = 0 ∧ (⟨#[]⟩ : ByteArray).toList = []) ∨ (x.f2[i].f1 = 1 ∧ (⟨#[]⟩ : ByteArray).toList = [] ∧ (0 : Int) ≤ 0 ∧ (0 : Int) < 2) ∨ (x.f2[i].f1 = 2 ∧ (0 : Int) = 0 ∧ (⟨#[]⟩ : ByteArray).size ≤ 40) ∨ (x.f2[i].f1 = 3 ∧ (⟨#[]⟩ : ByteArray).toList = [] ∧ (0 : Int) ≤ 0 ∧ (0 : Int) ≤ 1125899906842624)
  rw [he, hs]
  have h4 : x.f2[i].f1 = 0 ∨ x.f2[i].f1 = 1 ∨ x.f2[i].f1 = 2 ∨ x.f2[i].f1 = 3 := by omega
  rcases h4 with h | h | h | h
  · exact .inl ⟨h, rfl⟩
  · exact .inr (.inl ⟨h, rfl, by decide, by decide⟩)
  · exact .inr (.inr (.inl ⟨h, rfl, by decide⟩))
  · exact .inr (.inr (.inr ⟨h, rfl, by decide, by decide⟩))
set_option maxHeartbeats 1000000 in
set_option maxRecDepth 100000 in
theorem kind_no1 (x : SSchema) (A : Option Addr) (c : Nat) (l : List SOp) (Al : Option Addr) (cl : Nat) (w : World) (hr : Kd.C kField w A x.f2.length x.f2) (hc : x.f2.length ≤ c) (hl : Kd.C kOp w Al l.length l) (hlc : l.length ≤ cl) (hwl : ∀ x ∈ l, i64V x.f2) (h1 : mayS x = false) : Calls Try.prog 15 #[.agg #[.string x.f0, .int .i64 x.f1, .slice A x.f2.length c], .slice Al l.length cl] w (kindPost 0 1 w) := by
  have HR := Aside0.mk hr
  have HC := Aside0.mk hc
  have HL := Aside0.mk hl
  have HLC := Aside0.mk hlc
  have HWL := Aside0.mk hwl
  have HM1 := Aside0.mk (show schema_May.f x.f0 x.f1 x.f2 = some (mayS x) from rfl)
  rw [h1] at HM1
  clear hr hc hl hlc hwl h1
  go_enter Try.func15, Try.ntmps15
  go_wp2_with fail
  go_at_call 31
  refine (schema_May.calls x.f0 x.f1 A c x.f2 _ _ (Kd.C_below HR.out (below_alloc (Below.refl _ _) _)) HC.out HM1.out).mono ?_
  rintro e w1_ ⟨rfl, hb1_⟩
  have HB1_ := Aside0.mk (below_step (below_alloc (Below.refl _ _) _) hb1_)
  have HKs1_ := Aside0.mk (blk_below (blk_new _ _) hb1_)
  obtain ⟨ks1a_, ks1b_, ks1c_, ks1d_⟩ := know HKs1_.out
  clear hb1_
  go_wp2_with fail
  go_ret2
  exact ⟨rfl, HB1_.out⟩
set_option maxHeartbeats 1000000 in
set_option maxRecDepth 100000 in
theorem kind_no2 (x : SSchema) (A : Option Addr) (c : Nat) (l : List SOp) (Al : Option Addr) (cl : Nat) (w : World) (hr : Kd.C kField w A x.f2.length x.f2) (hc : x.f2.length ≤ c) (hl : Kd.C kOp w Al l.length l) (hlc : l.length ≤ cl) (hwl : ∀ x ∈ l, i64V x.f2) (h1 : mayS x = true) (h2 : mayO l = false) : Calls Try.prog 15 #[.agg #[.string x.f0, .int .i64 x.f1, .slice A x.f2.length c], .slice Al l.length cl] w (kindPost 0 1 w) := by
  have HR := Aside0.mk hr
  have HC := Aside0.mk hc
  have HL := Aside0.mk hl
  have HLC := Aside0.mk hlc
  have HWL := Aside0.mk hwl
  have HM1 := Aside0.mk (show schema_May.f x.f0 x.f1 x.f2 = some (mayS x) from rfl)
  rw [h1] at HM1
  have HM2 := Aside0.mk h2
  clear hr hc hl hlc hwl h1 h2
  go_enter Try.func15, Try.ntmps15
  go_wp2_with fail
  go_at_call 31
  refine (schema_May.calls x.f0 x.f1 A c x.f2 _ _ (Kd.C_below HR.out (below_alloc (Below.refl _ _) _)) HC.out HM1.out).mono ?_
  rintro e w1_ ⟨rfl, hb1_⟩
  have HB1_ := Aside0.mk (below_step (below_alloc (Below.refl _ _) _) hb1_)
  have HKs1_ := Aside0.mk (blk_below (blk_new _ _) hb1_)
  obtain ⟨ks1a_, ks1b_, ks1c_, ks1d_⟩ := know HKs1_.out
  clear hb1_
  go_wp2_with fail
  go_at_call 32
  refine (mayO_told l Al cl _ (Kd.C_below HL.out (HB1_.out)) HLC.out HWL.out HM2.out).mono ?_
  rintro e w2_ ⟨rfl, hb2_⟩
  have HB2_ := Aside0.mk (below_step (HB1_.out) hb2_)
  have HKs2_ := Aside0.mk (blk_below (HKs1_.out) hb2_)
  obtain ⟨ks2a_, ks2b_, ks2c_, ks2d_⟩ := know HKs2_.out
  clear ks1a_ ks1b_ ks1c_ ks1d_
  clear hb2_
  go_wp2_with fail
  go_ret2
  exact ⟨rfl, HB2_.out⟩
set_option maxHeartbeats 8000000 in
set_option maxRecDepth 100000 in
theorem kind_go (x : SSchema) (A : Option Addr) (c : Nat) (l : List SOp) (Al : Option Addr) (cl : Nat) (w : World) (hr : Kd.C kField w A x.f2.length x.f2) (hc : x.f2.length ≤ c) (hl : Kd.C kOp w Al l.length l) (hlc : l.length ≤ cl) (hwl : ∀ x ∈ l, i64V x.f2) (h1 : mayS x = true) (h2 : mayO l = true) {y : SValue} {n : Int} (hq : endV (runV (kindsOf x) true l []) = (y, n)) : Calls Try.prog 15 #[.agg #[.string x.f0, .int .i64 x.f1, .slice A x.f2.length c], .slice Al l.length cl] w (kindPost y.f0 n w) := by
  have HR := Aside0.mk hr
  have HC := Aside0.mk hc
  have HL := Aside0.mk hl
  have HLC := Aside0.mk hlc
  have HWL := Aside0.mk hwl
  have HM1 := Aside0.mk (show schema_May.f x.f0 x.f1 x.f2 = some (mayS x) from rfl)
  rw [h1] at HM1
  have HM2 := Aside0.mk h2
  have HOK := Aside0.mk (kindsOf_ok h1).1
  have hl6 := (kindsOf_ok h1).2
  have HEV := Aside0.mk hq
  clear hr hc hl hlc hwl h1 h2 hq
  go_enter Try.func15, Try.ntmps15
  go_wp2_with fail
  go_at_call 31
  refine (schema_May.calls x.f0 x.f1 A c x.f2 _ _ (Kd.C_below HR.out (below_alloc (Below.refl _ _) _)) HC.out HM1.out).mono ?_
  rintro e w1_ ⟨rfl, hb1_⟩
  have HB1_ := Aside0.mk (below_step (below_alloc (Below.refl _ _) _) hb1_)
  have HKs1_ := Aside0.mk (blk_below (blk_new _ _) hb1_)
  obtain ⟨ks1a_, ks1b_, ks1c_, ks1d_⟩ := know HKs1_.out
  clear hb1_
  go_wp2_with fail
  go_at_call 32
  refine (mayO_told l Al cl _ (Kd.C_below HL.out (HB1_.out)) HLC.out HWL.out HM2.out).mono ?_
  rintro e w2_ ⟨rfl, hb2_⟩
  have HB2_ := Aside0.mk (below_step (HB1_.out) hb2_)
  have HKs2_ := Aside0.mk (blk_below (HKs1_.out) hb2_)
  obtain ⟨ks2a_, ks2b_, ks2c_, ks2d_⟩ := know HKs2_.out
  clear ks1a_ ks1b_ ks1c_ ks1d_
  clear hb2_
  go_wp2_with fail
  have HPB := Aside0.mk (blk_new w2_ (pileBlk (.slice none 0 0) (.slice none 0 0) true))
  have HBL := Aside0.mk (below_alloc (HB2_.out) (pileBlk (.slice none 0 0) (.slice none 0 0) true))
  have HLE := Aside0.mk (below_size (HB2_.out))
  clear ks2a_ ks2b_ ks2c_ ks2d_
  generalize w2_.heap.size = B at *
  go_loopw [8, 24] (fun _ v24 w' => ∃ i : Nat, v24 = .int .i64 i ∧ kindRel x.f2 w B i w') (fun _ i _ => x.f2.length - (intOf i).toNat)
  case atStart => exact ⟨0, rfl, _, Nat.zero_le _, HPB.out, Kd.R_nil _ _ _ _ _, HBL.out⟩
  case round =>
    obtain ⟨i, rfl, v, hi, hk, ho, hb⟩ := hrel
    have HK := Aside0.mk hk
    have HO := Aside0.mk ho
    have HB := Aside0.mk hb
    obtain ⟨A0, c0, rfl⟩ := Kd.R_slice ho
    clear ho hb HPB HBL
    by_cases hlt : i < x.f2.length
    · obtain ⟨ad, e, z0, z1⟩ := at_TField (Kd.C_below HR.out HB.out) (i : Int) (by omega) (by omega)
      cases e
      simp only [Int.toNat_natCast] at z0 z1
      rw [show rd_TField x.f2 (i : Int) = x.f2.getD i zField from rfl] at z0 z1
      have HT := Aside0.mk (take_snoc zField x.f2 i hlt)
      generalize x.f2.getD i zField = f at *
      have hml : (List.map (fun f => (⟨f.f1, 0, ⟨#[]⟩⟩ : SValue)) (x.f2.take i)).length = i := by rw [List.length_map, List.length_take]; omega
      obtain ⟨ks, hks⟩ : ∃ ks, List.map (fun f => (⟨f.f1, 0, ⟨#[]⟩⟩ : SValue)) (x.f2.take i) = ks := ⟨_, rfl⟩
      rw [hks] at HO HK hml hk
      rw [hml] at HO HK hk
      have HML := Aside0.mk hml
      have HKN : Aside0 (List.map (fun f => (⟨f.f1, 0, ⟨#[]⟩⟩ : SValue)) (x.f2.take (i + 1)) = ks ++ [⟨f.f1, 0, ⟨#[]⟩⟩]) := ⟨by rw [HT.out, List.map_append, hks]; rfl⟩
      unfold pileBlk at hk
      have HK2 := Aside0.mk (blk_alloc hk (.cells #[.string f.f0, .int .i64 f.f1] 63))
      have HQ2 := Aside0.mk (blk_new wr (.cells #[.string f.f0, .int .i64 f.f1] 63))
      have HB2 := Aside0.mk (below_alloc HB.out (.cells #[.string f.f0, .int .i64 f.f1] 63))
      have HO2 := Aside0.mk (Kd.R_alloc HO.out (.cells #[.string f.f0, .int .i64 f.f1] 63))
      have hks63 : ks.length ≤ 6 := by omega
      clear hk hml hks
      go_wp2_with fail
      generalize wr.alloc (.cells #[.string f.f0, .int .i64 f.f1] 63) = Wb at HK2 HQ2 HB2 HO2 ⊢
      obtain ⟨d1, d2, d3, d4⟩ := know HK2.out
      obtain ⟨q1, q2, q3, q4⟩ := know HQ2.out
      go_region_law (first
        | (refine Kd.R_append_step (o := ⟨some 37, _, _, _, _, _⟩) kValue (w0 := w) (W := Wb.drew) w.heap.size ?hw (.tmp 32) (.tmp 36) 25 38 (.agg #[(.int .i64 0), (.int .i64 0), (.string ⟨#[]⟩)]) 32 rfl Try.underlying25 infoValue rfl ?h0 ?h1 (.slice A0 i c0) ks (⟨f.f1, 0, ⟨#[]⟩⟩ : SValue) [.int .i64 f.f1, .int .i64 0, .string ⟨#[]⟩] (fun _ => True) (fun _ => False) ?hs ?hx ?aP (fun _ h => h.elim) (fun _ _ => trivial) ?aO ?aB ?aS ?aL ?_; (case hw => rfl); (case h0 => decide); (case h1 => decide); (case hs => rfl); (case hx => rfl); (case aP => exact kValue_mkM _ _ _ (⟨f.f1, 0, ⟨#[]⟩⟩ : SValue)); (case aO => exact Kd.R_drew HO2.out); (case aB => exact below_drew HB2.out); (case aS => exact below_size (below_drew HB2.out)); (case aL => omega); intro v6 w6 ho6 hb6 hg6 hat6; obtain ⟨A6, c6, hv6⟩ := Kd.R_slice ho6; rw [List.length_append, List.length_singleton, HML.out] at hv6; subst hv6; have HO6 := Aside0.mk ho6; have HK6 := Aside0.mk (blk_grown (blk_drew HK2.out) hg6 (Kd.R_ne HO2.out HK2.out (by decide))); have HB6 := Aside0.mk hb6; have hd60 : w6.cell? ⟨B, 1, none⟩ = some (.slice A0 i c0) := blk_cell HK6.out 1; have hd61 : w6.frozen? ⟨B, 1, none⟩ = false := blk_frozen HK6.out 1; clear ho6 hb6 hg6 hat6))
      all_goals
        have HK7 := Aside0.mk (blk_set HK6.out 1 (Value.slice A6 (i + 1) c6))
        have HO7 := Aside0.mk (Kd.R_set HO6.out HK6.out value_types 1 (Value.slice A6 (i + 1) c6))
        have HB7 := Aside0.mk (HB6.out.setCell (p := ⟨B, 1, none⟩) HLE.out (Value.slice A6 (i + 1) c6))
        go_wp2_with fail
        go_roundw
        case measure => simp [intOf]; omega
        case rel => exact ⟨i + 1, by go_num, _, by omega, HK7.out, by rw [HKN.out]; exact HO7.out, HB7.out⟩
    · obtain rfl : i = x.f2.length := by omega
      rw [List.take_length] at HO HK hk
      obtain ⟨ks, hks⟩ : ∃ ks, kindsOf x = ks := ⟨_, rfl⟩
      have hks2 : List.map (fun f => (⟨f.f1, 0, ⟨#[]⟩⟩ : SValue)) x.f2 = ks := hks
      rw [hks2] at HO HK hk
      rw [hks] at HEV HOK
      have HRT := Aside0.mk (Kd.R_types HO.out HK.out value_types)
      unfold pileBlk at hk
      obtain ⟨d1, d2, d3, d4⟩ := know hk
      clear hks hks2 hk
      go_wp2_with fail
      go_at_call 33
      refine (through_told wr B A0 c0 ks true Al cl l HK.out (fun w' h => (Kd.R_reads' (Spares.row h HRT.out (fun k hk _ => hk.2))).2.2) (fun w' h => Kd.C_below HL.out (below_spares HB.out h HLE.out)) HLC.out HOK.out HM2.out HWL.out HEV.out).mono ?_
      rintro e w9_ ⟨rfl, hs9_⟩
      have HB9 := Aside0.mk (below_spares HB.out hs9_ HLE.out)
      clear hs9_
      go_wp2_with fail
      go_ret2
      exact ⟨rfl, below_alloc HB9.out _⟩
theorem kind_told (x : SSchema) (A : Option Addr) (c : Nat) (l : List SOp) (Al : Option Addr) (cl : Nat) (w : World) (hr : Kd.C kField w A x.f2.length x.f2) (hc : x.f2.length ≤ c) (hl : Kd.C kOp w Al l.length l) (hlc : l.length ≤ cl) (hwl : ∀ x ∈ l, i64V x.f2) {y n : Int} (hq : kindV x l = (y, n)) : Calls Try.prog 15 #[.agg #[.string x.f0, .int .i64 x.f1, .slice A x.f2.length c], .slice Al l.length cl] w (kindPost y n w) := by
  unfold kindV at hq
  cases h1 : mayS x with
  | false =>
    rw [h1, if_neg (by simp), Prod.mk.injEq] at hq
    obtain ⟨rfl, rfl⟩ := hq
    exact kind_no1 x A c l Al cl w hr hc hl hlc hwl h1
  | true =>
    cases h2 : mayO l with
    | false =>
      rw [h1, h2, if_neg (by simp), Prod.mk.injEq] at hq
      obtain ⟨rfl, rfl⟩ := hq
      exact kind_no2 x A c l Al cl w hr hc hl hlc hwl h1 h2
    | true =>
      rw [h1, h2, if_pos ⟨rfl, rfl⟩, Prod.mk.injEq] at hq
      obtain ⟨rfl, rfl⟩ := hq
      exact kind_go x A c l Al cl w hr hc hl hlc hwl h1 h2 rfl
end Go.Proofs.Ytncllbokeofdjaa.P

namespace Go.Proofs.Ytncllbokeofdjaa.P
open Go.RowKit Go.Proofs.YtncllbokeofdjaaW.PrintWords Go.Proofs.YtncllbokeofdjaaW.PrintLast Go.Proofs.YtncllbokeofdjaaW.PrintMore
attribute [local go_sem] max2_int min2_int max_two min_two max_three min_three max_four min_four   -- for this text's walks alone
set_option linter.unusedVariables false
set_option linter.unusedSimpArgs false
def le_Get.l0 : Nat → List Int → Int → Int → Int → Option (Int × Int × Bool)
  | 0, _, _, _, _ => none
  | k + 1, x0, x5, x10, x11 => if x11 < x10 then (if 0 ≤ x11 then (if x11 < (x0.length : Int) then (if 0 ≤ (wrap64 (7 * x11)) then (if (IntKind.u64.wrap (rd x0 x11)) ≥ 128 then (le_Get.l0 k x0 (Go.bits .or .u64 x5 (shl .u64 (Go.bits .andNot .u64 (IntKind.u64.wrap (rd x0 x11)) 128) (wrap64 (7 * x11)))) x10 (wrap64 (x11 + 1))) else (if x11 > 0 then (if (IntKind.u64.wrap (rd x0 x11)) = 0 then (some (0, 0, false)) else (if x11 = 9 then (if (IntKind.u64.wrap (rd x0 x11)) > 1 then (some (0, 0, false)) else (some (Go.bits .or .u64 x5 (shl .u64 (Go.bits .andNot .u64 (IntKind.u64.wrap (rd x0 x11)) 128) (wrap64 (7 * x11))), wrap64 (x11 + 1), true))) else (some (Go.bits .or .u64 x5 (shl .u64 (Go.bits .andNot .u64 (IntKind.u64.wrap (rd x0 x11)) 128) (wrap64 (7 * x11))), wrap64 (x11 + 1), true)))) else (if x11 = 9 then (if (IntKind.u64.wrap (rd x0 x11)) > 1 then (some (0, 0, false)) else (some (Go.bits .or .u64 x5 (shl .u64 (Go.bits .andNot .u64 (IntKind.u64.wrap (rd x0 x11)) 128) (wrap64 (7 * x11))), wrap64 (x11 + 1), true))) else (some (Go.bits .or .u64 x5 (shl .u64 (Go.bits .andNot .u64 (IntKind.u64.wrap (rd x0 x11)) 128) (wrap64 (7 * x11))), wrap64 (x11 + 1), true))))) else (none)) else (none)) else (none)) else (some (0, 0, false))
def le_Get.f (k : Nat) (l0 : List Int) : Option (Int × Int × Bool) := le_Get.l0 k l0 0 (mn (l0.length : Int) 10) 0
set_option maxHeartbeats 8000000 in
set_option maxRecDepth 100000 in
theorem le_Get.calls (k : Nat) (A0 : Option Addr) (c0 : Nat) (l0 : List Int) (r1 : Int) (r2 : Int) (r3 : Bool) (w : World) (hr0 : Kd.C (Kd.int .u8) w A0 l0.length l0) (hc0 : l0.length ≤ c0) (h : le_Get.f k l0 = some (r1, r2, r3)) :
    Calls Try.prog 43 #[.slice A0 l0.length c0] w fun e w' => e = .returned (.tuple #[.int .u64 r1, .int .i64 r2, .bool r3]) ∧ Below w.heap.size w w' := by
  have HR0 := Aside0.mk hr0
  have HC0 := Aside0.mk hc0
  clear hr0 hc0
  have HB := Aside0.mk (Below.refl w.heap.size w)
  have H : (le_Get.l0 k l0 0 (mn (l0.length : Int) 10) 0) = some (r1, r2, r3) := h
  clear h
  obtain ⟨ji2, hji2⟩ : ∃ j_ : Int, (mn (l0.length : Int) 10) = j_ := ⟨_, rfl⟩
  replace H : (le_Get.l0 k l0 0 ji2 0) = some (r1, r2, r3) := by first | (rw [hji2] at H; exact H) | (simp only [hji2] at H ⊢; exact H)
  (try (have hji2h : ji2 ≤ 10 := by (rw [← hji2]; unfold mn; (repeat' split) <;> omega)))
  (try (have hji2g : ji2 ≤ 64 := by omega))
  (try (have hji2l : 0 ≤ ji2 := by (rw [← hji2]; unfold mn; (repeat' split) <;> omega)))
  (try (have hji2m : 0 ≤ ji2 := by omega))
  have hji2_ : (if 10 < (l0.length : Int) then 10 else (l0.length : Int)) = ji2 := hji2
  have H' := Aside0.mk H
  clear H
  go_enter Try.func43, Try.ntmps43
  go_wp2
  go_loopg [5, 11] k (fun kq v5 v11 w' => ∃ (x5_1 : Int) (x11_1 : Int), v5 = .int .u64 x5_1 ∧ v11 = .int .i64 x11_1 ∧ Aside0 (le_Get.l0 kq l0 x5_1 ji2 x11_1 = some (r1, r2, r3)) ∧ Aside0 (kq ≤ k) ∧ Aside0 (Below w.heap.size w w'))
  case atStart => exact ⟨(0), (0), (by first | rfl | (simp; done) | (simp [*]; done)), (by first | rfl | (simp; done) | (simp [*]; done)), H', ⟨Nat.le_refl _⟩, ⟨by repeat (first | (with_reducible first | exact HB.out | apply below_alloc | apply pw_below_drewN | apply below_drew1) | exact HB.out)⟩⟩
  case round =>
    clear H'
    try clear p2
    obtain ⟨x5_1, x11_1, rfl, rfl, HA, HK1, HB⟩ := hrel
    cases gk with
    | zero => exact absurd HA.out (by simp [le_Get.l0])
    | succ k1 =>
      have H := HA.out
      clear HA
      simp only [le_Get.l0] at H
      by_cases c3 : x11_1 < ji2
      · rw [if_pos c3] at H
        have c3b0 : decide (x11_1 < ji2) = true := decide_eq_true c3
        clear c3
        by_cases c4 : 0 ≤ x11_1
        · rw [if_pos c4] at H
          have c4b0 : decide (0 ≤ x11_1) = true := decide_eq_true c4
          clear c4
          by_cases c5 : x11_1 < (l0.length : Int)
          · rw [if_pos c5] at H
            have c5b0 : decide (x11_1 < (l0.length : Int)) = true := decide_eq_true c5
            clear c5
            obtain ⟨ji6, hji6⟩ : ∃ j_ : Int, (wrap64 (7 * x11_1)) = j_ := ⟨_, rfl⟩
            replace H : (if 0 ≤ (ji6) then (if (IntKind.u64.wrap (rd l0 x11_1)) ≥ 128 then (le_Get.l0 k1 l0 (Go.bits .or .u64 x5_1 (shl .u64 (Go.bits .andNot .u64 (IntKind.u64.wrap (rd l0 x11_1)) 128) (ji6))) ji2 (wrap64 (x11_1 + 1))) else (if x11_1 > 0 then (if (IntKind.u64.wrap (rd l0 x11_1)) = 0 then (some (0, 0, false)) else (if x11_1 = 9 then (if (IntKind.u64.wrap (rd l0 x11_1)) > 1 then (some (0, 0, false)) else (some (Go.bits .or .u64 x5_1 (shl .u64 (Go.bits .andNot .u64 (IntKind.u64.wrap (rd l0 x11_1)) 128) (ji6)), wrap64 (x11_1 + 1), true))) else (some (Go.bits .or .u64 x5_1 (shl .u64 (Go.bits .andNot .u64 (IntKind.u64.wrap (rd l0 x11_1)) 128) (ji6)), wrap64 (x11_1 + 1), true)))) else (if x11_1 = 9 then (if (IntKind.u64.wrap (rd l0 x11_1)) > 1 then (some (0, 0, false)) else (some (Go.bits .or .u64 x5_1 (shl .u64 (Go.bits .andNot .u64 (IntKind.u64.wrap (rd l0 x11_1)) 128) (ji6)), wrap64 (x11_1 + 1), true))) else (some (Go.bits .or .u64 x5_1 (shl .u64 (Go.bits .andNot .u64 (IntKind.u64.wrap (rd l0 x11_1)) 128) (ji6)), wrap64 (x11_1 + 1), true))))) else (none)) = some (r1, r2, r3) := by first | (rw [hji6] at H; exact H) | (simp only [hji6] at H ⊢; exact H)
            have hji6w : (IntKind.i64.wrap (7 * x11_1)) = ji6 := (i64_w _).trans hji6
            by_cases c7 : 0 ≤ (ji6)
            · rw [if_pos c7] at H
              have c7b0 := eq_true c7
              have c7b1 : decide (0 ≤ (ji6)) = true := decide_eq_true c7
              clear c7
              obtain ⟨ji8, hji8⟩ : ∃ j_ : Int, (shl .u64 (Go.bits .andNot .u64 (IntKind.u64.wrap (rd l0 x11_1)) 128) (ji6)) = j_ := ⟨_, rfl⟩
              replace H : (if (IntKind.u64.wrap (rd l0 x11_1)) ≥ 128 then (le_Get.l0 k1 l0 (Go.bits .or .u64 x5_1 (ji8)) ji2 (wrap64 (x11_1 + 1))) else (if x11_1 > 0 then (if (IntKind.u64.wrap (rd l0 x11_1)) = 0 then (some (0, 0, false)) else (if x11_1 = 9 then (if (IntKind.u64.wrap (rd l0 x11_1)) > 1 then (some (0, 0, false)) else (some (Go.bits .or .u64 x5_1 (ji8), wrap64 (x11_1 + 1), true))) else (some (Go.bits .or .u64 x5_1 (ji8), wrap64 (x11_1 + 1), true)))) else (if x11_1 = 9 then (if (IntKind.u64.wrap (rd l0 x11_1)) > 1 then (some (0, 0, false)) else (some (Go.bits .or .u64 x5_1 (ji8), wrap64 (x11_1 + 1), true))) else (some (Go.bits .or .u64 x5_1 (ji8), wrap64 (x11_1 + 1), true))))) = some (r1, r2, r3) := by first | (rw [hji8] at H; exact H) | (simp only [hji8] at H ⊢; exact H)
              have hji8_ : (IntKind.u64.wrap ((Go.bits .andNot .u64 (IntKind.u64.wrap (rd l0 x11_1)) 128) * 2 ^ min (ji6).toNat 64)) = ji8 := hji8
              have hji8z : (ji6) ≤ 64 → (IntKind.u64.wrap ((Go.bits .andNot .u64 (IntKind.u64.wrap (rd l0 x11_1)) 128) * 2 ^ (ji6).toNat)) = ji8 := shl_small hji8
              by_cases c9 : (IntKind.u64.wrap (rd l0 x11_1)) ≥ 128
              · rw [if_pos c9] at H
                have c9b0 : decide (128 ≤ (IntKind.u64.wrap (rd l0 x11_1))) = true := decide_eq_true c9
                clear c9
                have H' := Aside0.mk H
                clear H
                have p114 : 0 ≤ (x11_1 : Int) := of_decide_eq_true (by first | (with_reducible assumption) | assumption)
                have q114 : x11_1 < (l0.length : Int) := of_decide_eq_true (by first | (with_reducible assumption) | assumption)
                obtain ⟨ad114, e114, hx114_0⟩ := Kd.at_int HR0.out x11_1 p114 q114
                cases e114
                replace hx114_0 := (HB.out.cell (World.block_lt_of_cell? w _ hx114_0)).trans hx114_0
                replace p114 := eq_true p114
                replace q114 := eq_true q114
                go_wp2
                go_roundg k1
                case measure => have := HK1.out; omega
                case rel => exact ⟨(Go.bits .or .u64 x5_1 (ji8)), (wrap64 (x11_1 + 1)), (by first | rfl | (simp; done) | (simp only [← hji8] <;> (first | rfl | simp)) | (simp [*]; done)), (by first | rfl | (simp; done) | (simp [*]; done)), H', ⟨by have := HK1.out; omega⟩, ⟨by repeat (first | (with_reducible first | exact HB.out | apply below_alloc | apply pw_below_drewN | apply below_drew1) | exact HB.out)⟩⟩
              · rw [if_neg c9] at H
                have c9b0 : decide (128 ≤ (IntKind.u64.wrap (rd l0 x11_1))) = false := decide_eq_false c9
                clear c9
                by_cases c10 : x11_1 > 0
                · rw [if_pos c10] at H
                  have c10b0 : decide (0 < x11_1) = true := decide_eq_true c10
                  clear c10
                  by_cases c11 : (IntKind.u64.wrap (rd l0 x11_1)) = 0
                  · rw [if_pos c11] at H
                    have c11b0 : ((IntKind.u64.wrap (rd l0 x11_1)) == 0) = true := beq_iff_eq.mpr c11
                    have c11b1 : ((IntKind.u64.wrap (rd l0 x11_1)) != 0) = false := bne_eq_false_iff_eq.mpr c11
                    clear c11
                    simp only [Option.some.injEq, Prod.mk.injEq] at H
                    obtain ⟨rfl, rfl, rfl⟩ := H
                    have p114 : 0 ≤ (x11_1 : Int) := of_decide_eq_true (by first | (with_reducible assumption) | assumption)
                    have q114 : x11_1 < (l0.length : Int) := of_decide_eq_true (by first | (with_reducible assumption) | assumption)
                    obtain ⟨ad114, e114, hx114_0⟩ := Kd.at_int HR0.out x11_1 p114 q114
                    cases e114
                    replace hx114_0 := (HB.out.cell (World.block_lt_of_cell? w _ hx114_0)).trans hx114_0
                    replace p114 := eq_true p114
                    replace q114 := eq_true q114
                    go_wp2
                    go_ret3
                    exact ⟨by first | rfl | (simp [errW_none, errW_some] <;> rfl) | (simp only [← hji2, ← hji6, ← hji8]; first | rfl | (simp [errW_none, errW_some] <;> rfl)) | (simp [*, errW_none, errW_some] <;> rfl), by repeat (first | (with_reducible first | exact HB.out | apply below_alloc | apply pw_below_drewN | apply below_drew1) | exact HB.out)⟩
                  · rw [if_neg c11] at H
                    have c11b0 : ((IntKind.u64.wrap (rd l0 x11_1)) == 0) = false := beq_eq_false_iff_ne.mpr c11
                    have c11b1 : ((IntKind.u64.wrap (rd l0 x11_1)) != 0) = true := bne_iff_ne.mpr c11
                    by_cases c12 : x11_1 = 9
                    · rw [if_pos c12] at H
                      have c12b0 : (x11_1 == 9) = true := beq_iff_eq.mpr c12
                      have c12b1 : (x11_1 != 9) = false := bne_eq_false_iff_eq.mpr c12
                      clear c12
                      by_cases c13 : (IntKind.u64.wrap (rd l0 x11_1)) > 1
                      · rw [if_pos c13] at H
                        have c13b0 : decide (1 < (IntKind.u64.wrap (rd l0 x11_1))) = true := decide_eq_true c13
                        clear c13
                        simp only [Option.some.injEq, Prod.mk.injEq] at H
                        obtain ⟨rfl, rfl, rfl⟩ := H
                        have p114 : 0 ≤ (x11_1 : Int) := of_decide_eq_true (by first | (with_reducible assumption) | assumption)
                        have q114 : x11_1 < (l0.length : Int) := of_decide_eq_true (by first | (with_reducible assumption) | assumption)
                        obtain ⟨ad114, e114, hx114_0⟩ := Kd.at_int HR0.out x11_1 p114 q114
                        cases e114
                        replace hx114_0 := (HB.out.cell (World.block_lt_of_cell? w _ hx114_0)).trans hx114_0
                        replace p114 := eq_true p114
                        replace q114 := eq_true q114
                        go_wp2
                        go_ret3
                        exact ⟨by first | rfl | (simp [errW_none, errW_some] <;> rfl) | (simp only [← hji2, ← hji6, ← hji8]; first | rfl | (simp [errW_none, errW_some] <;> rfl)) | (simp [*, errW_none, errW_some] <;> rfl), by repeat (first | (with_reducible first | exact HB.out | apply below_alloc | apply pw_below_drewN | apply below_drew1) | exact HB.out)⟩
                      · rw [if_neg c13] at H
                        have c13b0 : decide (1 < (IntKind.u64.wrap (rd l0 x11_1))) = false := decide_eq_false c13
                        clear c13
                        simp only [Option.some.injEq, Prod.mk.injEq] at H
                        obtain ⟨rfl, rfl, rfl⟩ := H
                        have p114 : 0 ≤ (x11_1 : Int) := of_decide_eq_true (by first | (with_reducible assumption) | assumption)
                        have q114 : x11_1 < (l0.length : Int) := of_decide_eq_true (by first | (with_reducible assumption) | assumption)
                        obtain ⟨ad114, e114, hx114_0⟩ := Kd.at_int HR0.out x11_1 p114 q114
                        cases e114
                        replace hx114_0 := (HB.out.cell (World.block_lt_of_cell? w _ hx114_0)).trans hx114_0
                        replace p114 := eq_true p114
                        replace q114 := eq_true q114
                        go_wp2
                        go_ret3
                        exact ⟨by first | rfl | (simp [errW_none, errW_some] <;> rfl) | (simp only [← hji2, ← hji6, ← hji8]; first | rfl | (simp [errW_none, errW_some] <;> rfl)) | (simp [*, errW_none, errW_some] <;> rfl), by repeat (first | (with_reducible first | exact HB.out | apply below_alloc | apply pw_below_drewN | apply below_drew1) | exact HB.out)⟩
                    · rw [if_neg c12] at H
                      have c12b0 : (x11_1 == 9) = false := beq_eq_false_iff_ne.mpr c12
                      have c12b1 : (x11_1 != 9) = true := bne_iff_ne.mpr c12
                      simp only [Option.some.injEq, Prod.mk.injEq] at H
                      obtain ⟨rfl, rfl, rfl⟩ := H
                      have p114 : 0 ≤ (x11_1 : Int) := of_decide_eq_true (by first | (with_reducible assumption) | assumption)
                      have q114 : x11_1 < (l0.length : Int) := of_decide_eq_true (by first | (with_reducible assumption) | assumption)
                      obtain ⟨ad114, e114, hx114_0⟩ := Kd.at_int HR0.out x11_1 p114 q114
                      cases e114
                      replace hx114_0 := (HB.out.cell (World.block_lt_of_cell? w _ hx114_0)).trans hx114_0
                      replace p114 := eq_true p114
                      replace q114 := eq_true q114
                      go_wp2
                      go_ret3
                      exact ⟨by first | rfl | (simp [errW_none, errW_some] <;> rfl) | (simp only [← hji2, ← hji6, ← hji8]; first | rfl | (simp [errW_none, errW_some] <;> rfl)) | (simp [*, errW_none, errW_some] <;> rfl), by repeat (first | (with_reducible first | exact HB.out | apply below_alloc | apply pw_below_drewN | apply below_drew1) | exact HB.out)⟩
                · rw [if_neg c10] at H
                  have c10b0 : decide (0 < x11_1) = false := decide_eq_false c10
                  clear c10
                  by_cases c14 : x11_1 = 9
                  · rw [if_pos c14] at H
                    have c14b0 : (x11_1 == 9) = true := beq_iff_eq.mpr c14
                    have c14b1 : (x11_1 != 9) = false := bne_eq_false_iff_eq.mpr c14
                    clear c14
                    by_cases c15 : (IntKind.u64.wrap (rd l0 x11_1)) > 1
                    · rw [if_pos c15] at H
                      have c15b0 : decide (1 < (IntKind.u64.wrap (rd l0 x11_1))) = true := decide_eq_true c15
                      clear c15
                      simp only [Option.some.injEq, Prod.mk.injEq] at H
                      obtain ⟨rfl, rfl, rfl⟩ := H
                      have p114 : 0 ≤ (x11_1 : Int) := of_decide_eq_true (by first | (with_reducible assumption) | assumption)
                      have q114 : x11_1 < (l0.length : Int) := of_decide_eq_true (by first | (with_reducible assumption) | assumption)
                      obtain ⟨ad114, e114, hx114_0⟩ := Kd.at_int HR0.out x11_1 p114 q114
                      cases e114
                      replace hx114_0 := (HB.out.cell (World.block_lt_of_cell? w _ hx114_0)).trans hx114_0
                      replace p114 := eq_true p114
                      replace q114 := eq_true q114
                      go_wp2
                      go_ret3
                      exact ⟨by first | rfl | (simp [errW_none, errW_some] <;> rfl) | (simp only [← hji2, ← hji6, ← hji8]; first | rfl | (simp [errW_none, errW_some] <;> rfl)) | (simp [*, errW_none, errW_some] <;> rfl), by repeat (first | (with_reducible first | exact HB.out | apply below_alloc | apply pw_below_drewN | apply below_drew1) | exact HB.out)⟩
                    · rw [if_neg c15] at H
                      have c15b0 : decide (1 < (IntKind.u64.wrap (rd l0 x11_1))) = false := decide_eq_false c15
                      clear c15
                      simp only [Option.some.injEq, Prod.mk.injEq] at H
                      obtain ⟨rfl, rfl, rfl⟩ := H
                      have p114 : 0 ≤ (x11_1 : Int) := of_decide_eq_true (by first | (with_reducible assumption) | assumption)
                      have q114 : x11_1 < (l0.length : Int) := of_decide_eq_true (by first | (with_reducible assumption) | assumption)
                      obtain ⟨ad114, e114, hx114_0⟩ := Kd.at_int HR0.out x11_1 p114 q114
                      cases e114
                      replace hx114_0 := (HB.out.cell (World.block_lt_of_cell? w _ hx114_0)).trans hx114_0
                      replace p114 := eq_true p114
                      replace q114 := eq_true q114
                      go_wp2
                      go_ret3
                      exact ⟨by first | rfl | (simp [errW_none, errW_some] <;> rfl) | (simp only [← hji2, ← hji6, ← hji8]; first | rfl | (simp [errW_none, errW_some] <;> rfl)) | (simp [*, errW_none, errW_some] <;> rfl), by repeat (first | (with_reducible first | exact HB.out | apply below_alloc | apply pw_below_drewN | apply below_drew1) | exact HB.out)⟩
                  · rw [if_neg c14] at H
                    have c14b0 : (x11_1 == 9) = false := beq_eq_false_iff_ne.mpr c14
                    have c14b1 : (x11_1 != 9) = true := bne_iff_ne.mpr c14
                    simp only [Option.some.injEq, Prod.mk.injEq] at H
                    obtain ⟨rfl, rfl, rfl⟩ := H
                    have p114 : 0 ≤ (x11_1 : Int) := of_decide_eq_true (by first | (with_reducible assumption) | assumption)
                    have q114 : x11_1 < (l0.length : Int) := of_decide_eq_true (by first | (with_reducible assumption) | assumption)
                    obtain ⟨ad114, e114, hx114_0⟩ := Kd.at_int HR0.out x11_1 p114 q114
                    cases e114
                    replace hx114_0 := (HB.out.cell (World.block_lt_of_cell? w _ hx114_0)).trans hx114_0
                    replace p114 := eq_true p114
                    replace q114 := eq_true q114
                    go_wp2
                    go_ret3
                    exact ⟨by first | rfl | (simp [errW_none, errW_some] <;> rfl) | (simp only [← hji2, ← hji6, ← hji8]; first | rfl | (simp [errW_none, errW_some] <;> rfl)) | (simp [*, errW_none, errW_some] <;> rfl), by repeat (first | (with_reducible first | exact HB.out | apply below_alloc | apply pw_below_drewN | apply below_drew1) | exact HB.out)⟩
            · rw [if_neg c7] at H
              exact absurd H (by simp)
          · rw [if_neg c5] at H
            exact absurd H (by simp)
        · rw [if_neg c4] at H
          exact absurd H (by simp)
      · rw [if_neg c3] at H
        have c3b0 : decide (x11_1 < ji2) = false := decide_eq_false c3
        clear c3
        simp only [Option.some.injEq, Prod.mk.injEq] at H
        obtain ⟨rfl, rfl, rfl⟩ := H
        go_wp2
        go_ret3
        exact ⟨by first | rfl | (simp [errW_none, errW_some] <;> rfl) | (simp only [← hji2]; first | rfl | (simp [errW_none, errW_some] <;> rfl)) | (simp [*, errW_none, errW_some] <;> rfl), by repeat (first | (with_reducible first | exact HB.out | apply below_alloc | apply pw_below_drewN | apply below_drew1) | exact HB.out)⟩
theorem u64_small {n : Nat} (h : n < 18446744073709551616) : IntKind.wrap .u64 (n : Int) = (n : Int) := by simp [IntKind.wrap, IntKind.bits, IntKind.signed]; omega
theorem or_nat {a b : Nat} (ha : a < 18446744073709551616) (hb : b < 18446744073709551616) : Go.bits .or .u64 (a : Int) (b : Int) = ((a ||| b : Nat) : Int) := by
  have e1 : (BitVec.ofInt 64 (a : Int)).toNat = a := by rw [BitVec.ofInt_natCast, BitVec.toNat_ofNat, Nat.mod_eq_of_lt ha]
  have e2 : (BitVec.ofInt 64 (b : Int)).toNat = b := by rw [BitVec.ofInt_natCast, BitVec.toNat_ofNat, Nat.mod_eq_of_lt hb]
  show IntKind.wrap .u64 (((BitVec.ofInt 64 (a : Int) ||| BitVec.ofInt 64 (b : Int)).toNat : Nat) : Int) = _
  rw [BitVec.toNat_or, e1, e2]
  exact u64_small (Nat.or_lt_two_pow (n := 64) ha hb)
theorem or_sum {a x s : Nat} (ha : a < 2 ^ s) (hx : x * 2 ^ s < 18446744073709551616) (hs : s < 64) : Go.bits .or .u64 (a : Int) ((x * 2 ^ s : Nat) : Int) = ((a + x * 2 ^ s : Nat) : Int) := by
  have h64 : 2 ^ s < 2 ^ 64 := Nat.pow_lt_pow_right (by decide) hs
  rw [or_nat (by have : (2:Nat) ^ 64 = 18446744073709551616 := by decide
                 omega) hx]
  congr 1
  rw [Nat.or_comm, ← Nat.shiftLeft_eq, ← Nat.shiftLeft_add_eq_or_of_lt ha, Nat.add_comm]
theorem low_seven {c : Nat} (h : c < 256) : Go.bits .andNot .u64 (IntKind.wrap .u64 (c : Int)) 128 = ((c % 128 : Nat) : Int) := by
  have h0 : ∀ b : Fin 256, Go.bits .andNot .u64 (IntKind.wrap .u64 ((b.val : Nat) : Int)) 128 = ((b.val % 128 : Nat) : Int) := by decide +kernel
  exact h0 ⟨c, h⟩
theorem shl_nat {x s : Nat} (hs : s < 64) (h : x * 2 ^ s < 18446744073709551616) : shl .u64 (x : Int) (s : Int) = ((x * 2 ^ s : Nat) : Int) := by
  unfold shl
  rw [Int.toNat_natCast, Nat.min_eq_left (show s ≤ IntKind.bits .u64 from by show s ≤ 64; omega)]
  rw [show (x : Int) * 2 ^ s = ((x * 2 ^ s : Nat) : Int) from by push_cast; rfl]
  exact u64_small h
theorem le_Get_loop (l : List Int) (hl : ∀ c ∈ l, 0 ≤ c ∧ c < 256) (hlen : l.length < 4611686018427387904) : ∀ (d i k : Nat) (acc : Int) (a : Nat), i + d = 10 → d < k → i ≤ l.length → (i ≤ 9 → acc = (a : Int) ∧ a < 128 ^ i) →
    le_Get.l0 k l acc (mn (l.length : Int) 10) (i : Int) = some (tellN (getNAux i a (l.drop i))) := by
  have hmn : mn (l.length : Int) 10 = ((min l.length 10 : Nat) : Int) := by unfold mn; split <;> omega
  rw [hmn]
  intro d
  induction d with
  | zero =>
    intro i k acc a hi hk hil _
    obtain ⟨k, rfl⟩ := rounds_of hk
    simp only [le_Get.l0]
    rw [if_neg (by omega), getNAux_late _ _ (by omega)]
    rfl
  | succ d ih =>
    intro i k acc a hi hk hil hA
    obtain ⟨k, rfl⟩ := rounds_of hk
    obtain ⟨rfl, ha⟩ := hA (by omega)
    simp only [le_Get.l0]
    by_cases h : i < l.length
    · have hc := hl (l.getD i 0) (by simp [List.getD, h])
      have hd : l.drop i = l.getD i 0 :: l.drop (i + 1) := by rw [List.drop_eq_getElem_cons h]; simp [List.getD, h]
      rw [if_pos (by omega), if_pos (by omega), if_pos (by omega), show rd l (i : Int) = l.getD i 0 from by simp [rd], hd]
      have ew : wrap64 (7 * (i : Int)) = ((7 * i : Nat) : Int) := by unfold wrap64; omega
      rw [ew, if_pos (by omega), wrap_succ (by omega)]
      obtain ⟨c, hce⟩ := Int.eq_ofNat_of_zero_le hc.1
      rw [hce] at hc ⊢
      have hc2 : c < 256 := by omega
      rw [low_seven hc2, u64_small (show c < 18446744073709551616 from by omega)]
      have hp : (2 : Nat) ^ (7 * i) = 128 ^ i := by rw [Nat.pow_mul]
      have hG : getNAux i a (((c : Nat) : Int) :: l.drop (i + 1)) = if 128 ≤ ((c : Nat) : Int) then getNAux (i + 1) (a + ((c : Nat) : Int).toNat % 128 * 128 ^ i) (l.drop (i + 1)) else if (0 < i ∧ ((c : Nat) : Int) = 0) ∨ (i = 9 ∧ 1 < ((c : Nat) : Int)) then none else some (a + ((c : Nat) : Int).toNat * 128 ^ i, i + 1) := by
        rw [getNAux, if_neg (by omega)]
      rw [hG]
      have hpl : 128 ^ i ≤ 128 ^ 9 := Nat.pow_le_pow_right (by decide) (by omega)
      have h9 : (128 : Nat) ^ 9 = 9223372036854775808 := by decide
      have hsum : ∀ x : Nat, x * 128 ^ i < 18446744073709551616 → Go.bits .or .u64 (a : Int) (shl .u64 (x : Int) ((7 * i : Nat) : Int)) = ((a + x * 128 ^ i : Nat) : Int) := by
        intro x hx
        rw [shl_nat (by omega) (by rw [hp]; exact hx), or_sum (by rw [hp]; exact ha) (by rw [hp]; exact hx) (by omega), hp]
      by_cases h128 : (c : Int) ≥ 128
      · rw [if_pos h128, if_pos (show (128 : Int) ≤ ((c : Nat) : Int) from h128)]
        refine ih (i + 1) k _ (a + ((c : Nat) : Int).toNat % 128 * 128 ^ i) (by omega) (by omega) (by omega) (fun h8 => ?_)
        have hpl8 : 128 ^ i ≤ 128 ^ 8 := Nat.pow_le_pow_right (by decide) (by omega)
        have h88 : (128 : Nat) ^ 8 = 72057594037927936 := by decide
        have hx : c % 128 * 128 ^ i ≤ 127 * 128 ^ i := Nat.mul_le_mul_right _ (by omega)
        rw [hsum _ (by omega)]
        refine ⟨rfl, ?_⟩
        show a + c % 128 * 128 ^ i < 128 ^ (i + 1)
        rw [Nat.pow_succ]
        omega
      · have hcm : c % 128 = c := Nat.mod_eq_of_lt (by omega)
        rw [if_neg h128, if_neg (show ¬ (128 : Int) ≤ ((c : Nat) : Int) from h128), hcm]
        have hlow : ∀ (hx : c * 128 ^ i < 18446744073709551616), some (Go.bits .or .u64 (a : Int) (shl .u64 (c : Int) ((7 * i : Nat) : Int)), ((i + 1 : Nat) : Int), true) = some (tellN (some (a + ((c : Nat) : Int).toNat * 128 ^ i, i + 1))) := by
          intro hx
          rw [hsum _ hx]
          rfl
        have hsmall : i ≠ 9 → c * 128 ^ i < 18446744073709551616 := by
          intro h8
          have hpl8 : 128 ^ i ≤ 128 ^ 8 := Nat.pow_le_pow_right (by decide) (by omega)
          have h88 : (128 : Nat) ^ 8 = 72057594037927936 := by decide
          have hx : c * 128 ^ i ≤ 127 * 128 ^ i := Nat.mul_le_mul_right _ (by omega)
          omega
        have hone : c ≤ 1 → c * 128 ^ i < 18446744073709551616 := by
          intro h1
          have hx : c * 128 ^ i ≤ 1 * 128 ^ i := Nat.mul_le_mul_right _ h1
          omega
        by_cases h0 : (i : Int) > 0
        · rw [if_pos h0]
          by_cases hc0 : (c : Int) = 0
          · rw [if_pos hc0, if_pos (.inl ⟨by omega, hc0⟩)]
            rfl
          · rw [if_neg hc0]
            by_cases hi9 : (i : Int) = 9
            · rw [if_pos hi9]
              by_cases hc1 : (c : Int) > 1
              · rw [if_pos hc1, if_pos (.inr ⟨by omega, hc1⟩)]
                rfl
              · rw [if_neg hc1, if_neg (by omega)]
                exact hlow (hone (by omega))
            · rw [if_neg hi9, if_neg (by omega)]
              exact hlow (hsmall (by omega))
        · rw [if_neg h0, if_neg (by omega), if_neg (by omega)]
          exact hlow (hsmall (by omega))
    · rw [if_neg (by omega), List.drop_of_length_le (by omega)]
      rfl
theorem le_Get_is (l : List Int) (hl : ∀ c ∈ l, 0 ≤ c ∧ c < 256) (hlen : l.length < 4611686018427387904) {k : Nat} (hk : 10 < k) : le_Get.f k l = some (tellN (getN l)) :=
  le_Get_loop l hl hlen 10 0 k 0 0 (by omega) (by omega) (by omega) (fun _ => ⟨rfl, by decide⟩)
theorem le_Get.told (A0 : Option Addr) (c0 : Nat) (l0 : List Int) (w : World) (hb : byteL l0) (hlen : l0.length < 4611686018427387904) (hr0 : Kd.C (Kd.int .u8) w A0 l0.length l0) (hc0 : l0.length ≤ c0) :
    Calls Try.prog 43 #[.slice A0 l0.length c0] w (getPost l0 w) := by
  have h := le_Get_is l0 hb hlen (k := 11) (by decide)
  cases hg : tellN (getN l0) with
  | mk n p =>
    obtain ⟨u, b⟩ := p
    rw [hg] at h
    refine (le_Get.calls 11 A0 c0 l0 n u b w hr0 hc0 h).mono ?_
    rintro e w' ⟨rfl, h3⟩
    unfold getPost
    rw [hg]
    exact ⟨rfl, h3⟩
theorem le_Get.yes (A0 : Option Addr) (c0 : Nat) (l0 : List Int) (w : World) {n u : Nat} (hg : getN l0 = some (n, u)) (hb : byteL l0) (hlen : l0.length < 4611686018427387904) (hr0 : Kd.C (Kd.int .u8) w A0 l0.length l0) (hc0 : l0.length ≤ c0) : Calls Try.prog 43 #[.slice A0 l0.length c0] w (numYes n u w) :=
  (le_Get.told A0 c0 l0 w hb hlen hr0 hc0).mono fun e w' h => by unfold getPost at h; rw [hg] at h; exact h
theorem le_Get.no (A0 : Option Addr) (c0 : Nat) (l0 : List Int) (w : World) (hg : getN l0 = none) (hb : byteL l0) (hlen : l0.length < 4611686018427387904) (hr0 : Kd.C (Kd.int .u8) w A0 l0.length l0) (hc0 : l0.length ≤ c0) : Calls Try.prog 43 #[.slice A0 l0.length c0] w (numNo w) :=
  (le_Get.told A0 c0 l0 w hb hlen hr0 hc0).mono fun e w' h => by unfold getPost at h; rw [hg] at h; exact h
end Go.Proofs.Ytncllbokeofdjaa.P

namespace Go.Proofs.Ytncllbokeofdjaa.P
open Go.RowKit Go.Proofs.YtncllbokeofdjaaW.PrintWords Go.Proofs.YtncllbokeofdjaaW.PrintLast Go.Proofs.YtncllbokeofdjaaW.PrintMore
attribute [local go_sem] max2_int min2_int max_two min_two max_three min_three max_four min_four   -- for this text's walks alone
set_option linter.unusedVariables false
set_option linter.unusedSimpArgs false
def le_Zag.f (a0 : Int) : Option (Int) := some (Go.bits .xor .i64 (wrap64 (a0 / 2)) (wrap64 (-(wrap64 (Go.bits .and .u64 a0 1)))))
set_option maxHeartbeats 8000000 in
set_option maxRecDepth 100000 in
theorem le_Zag.calls (a0 : Int) (r : Int) (w : World) (h : le_Zag.f a0 = some r) :
    Calls Try.prog 85 #[.int .u64 a0] w fun e w' => e = .returned (.int .i64 r) ∧ Drawn0 w w' := by
  have H : (some (Go.bits .xor .i64 (wrap64 (a0 / 2)) (wrap64 (-(wrap64 (Go.bits .and .u64 a0 1)))))) = some r := h
  clear h
  obtain rfl := Option.some.inj H
  go_enter Try.func85, Try.ntmps85
  go_wp2
  go_ret
  exact ⟨by first | rfl | (simp; done) | (simp [*]; done), by repeat (first | exact Drawn0.refl _ | apply Drawn0.step)⟩
theorem zag_is {m : Nat} (h : m < 18446744073709551616) : le_Zag.f (m : Int) = some (zagN m) := by
  unfold le_Zag.f zagN
  have hand : Go.bits .and .u64 (m : Int) 1 = ((m % 2 : Nat) : Int) := by
    show IntKind.wrap .u64 (((BitVec.ofInt 64 (m : Int) &&& BitVec.ofInt 64 1).toNat : Nat) : Int) = _
    rw [BitVec.toNat_and, ofInt_u64 (by omega) (by omega), show (BitVec.ofInt 64 1).toNat = 1 from by decide, Int.toNat_natCast, Nat.and_one_is_mod, wrap_u64]
    omega
  rw [hand]
  have e1 : wrap64 ((m : Int) / 2) = ((m / 2 : Nat) : Int) := by unfold wrap64; omega
  rw [e1]
  by_cases h2 : m % 2 = 0
  · rw [if_pos h2, h2, show wrap64 (-wrap64 ((0 : Nat) : Int)) = 0 from by unfold wrap64; decide]
    rw [xor_zeroI _ (by rw [ofInt_u64 (by omega) (by omega), wrap_i64]; unfold wrap64; omega)]
  · rw [if_neg h2, show m % 2 = 1 from by omega, show wrap64 (-wrap64 ((1 : Nat) : Int)) = -1 from by unfold wrap64; decide]
    show some (IntKind.wrap .i64 (((BitVec.ofInt 64 ((m / 2 : Nat) : Int) ^^^ BitVec.ofInt 64 (-1)).toNat : Nat) : Int)) = _
    rw [show BitVec.ofInt 64 (-1) = BitVec.allOnes 64 from by decide, not64, ofInt_u64 (by omega) (by omega), wrap_i64]
    congr 1
    unfold wrap64
    omega
end Go.Proofs.Ytncllbokeofdjaa.P

namespace Go.Proofs.Ytncllbokeofdjaa.P
open Go.RowKit Go.Proofs.YtncllbokeofdjaaW.PrintWords Go.Proofs.YtncllbokeofdjaaW.PrintLast Go.Proofs.YtncllbokeofdjaaW.PrintMore
attribute [local go_sem] max2_int min2_int max_two min_two max_three min_three max_four min_four   -- for this text's walks alone
set_option linter.unusedVariables false
set_option linter.unusedSimpArgs false
set_option maxHeartbeats 4000000 in
set_option maxRecDepth 100000 in
theorem value_Get.told (w : World) (A : Option Addr) (c : Nat) (l : List Int) (hr0 : Kd.C (Kd.int .u8) w A l.length l) (hc0 : l.length ≤ c) (hb : byteL l) (hl : l.length < 4611686018427387904) {x : SValue} {m : Nat} {b : Bool} (hq : gotV (getV l) = (x, m, b)) :
    Calls Try.prog 68 #[.slice A l.length c] w (valPost3 x m b w) := by
  have HR := Aside0.mk hr0
  have HC := Aside0.mk hc0
  clear hr0
  cases l with
  | nil =>
    obtain ⟨rfl, rfl, rfl⟩ : x = ⟨0, 0, ⟨#[]⟩⟩ ∧ m = 0 ∧ b = false := by
      have h : ((⟨0, 0, ⟨#[]⟩⟩ : SValue), 0, false) = (x, m, b) := hq
      simp only [Prod.mk.injEq] at h
      exact ⟨h.1.symm, h.2.1.symm, h.2.2.symm⟩
    clear hq hl
    show Calls _ _ #[.slice A 0 c] w _
    have HKr := Aside0.mk (blk_alloc (blk_new w (.cells #[.int .i64 0, .int .i64 0, .string ⟨#[]⟩] 38)) (.cells #[.int .i64 0, .int .i64 0, .string ⟨#[]⟩] 38))
    have HB := Aside0.mk (show Below w.heap.size w ((w.alloc (.cells #[.int .i64 0, .int .i64 0, .string ⟨#[]⟩] 38)).alloc (.cells #[.int .i64 0, .int .i64 0, .string ⟨#[]⟩] 38)) from below_alloc (below_alloc (Below.refl _ _) _) _)
    go_enter Try.func68, Try.ntmps68
    go_wp2
    exact bodyPost_ret (v := .tuple #[.agg #[.int .i64 0, .int .i64 0, .string ⟨#[]⟩], .int .i64 0, .bool false]) (by simp [results, Try.results68, go_sem]) rfl ⟨rfl, HB.out⟩
  | cons k r =>
    have hk := hb k (by simp)
    obtain ⟨hk0, hk1⟩ := hk
    have HBR := Aside0.mk (show byteL r from fun c hc => hb c (by simp [hc]))
    clear hb
    obtain ⟨i0, hi0, _, hsz0, _⟩ := info_parts info5
    obtain ⟨A1, hcut1, hD1, hlc1⟩ := drop_row (P := Try.prog) (d := Kd.int .u8) Try.underlying29 hi0 hsz0 A c (k :: r) 1 1 rfl (by simp) HC.out
    rw [List.drop_succ_cons, List.drop_zero] at hD1 hlc1
    simp only [List.drop_succ_cons, List.drop_zero] at hcut1
    have HD1 := Aside0.mk (hD1 w HR.out)
    have HL1 := Aside0.mk hlc1
    obtain ⟨ad, had, hx⟩ := Kd.at_int HR.out 0 (by omega) (by simp)
    subst had
    replace hx : w.cell? ad = some (.int .u8 k) := hx
    have HX := Aside0.mk hx
    have hlr : r.length + 1 < 4611686018427387904 := by simpa using hl
    have hln : (k :: r).length = r.length + 1 := rfl
    rw [hln] at hcut1 hc0 ⊢
    have HLN := Aside0.mk hln
    clear hD1 hlc1 hx hl hln
    have hw0 : IntKind.wrap .i64 k = k := IntWalk.i64_in _ (by omega)
    cases hg : getN r with
    | none =>
      obtain ⟨rfl, rfl, rfl⟩ : x = ⟨0, 0, ⟨#[]⟩⟩ ∧ m = 0 ∧ b = false := by
        have h : gotV (getV (k :: r)) = ((⟨0, 0, ⟨#[]⟩⟩ : SValue), 0, false) := by unfold getV; simp only [hg]; rfl
        rw [h] at hq
        simp only [Prod.mk.injEq] at hq
        exact ⟨hq.1.symm, hq.2.1.symm, hq.2.2.symm⟩
      have HG := Aside0.mk hg
      clear hg hq hw0
      go_enter Try.func68, Try.ntmps68
      go_wp2_with (go_at_call 43; refine (le_Get.no A1 _ r _ HG.out HBR.out (by omega) (Kd.C_below HD1.out (below_alloc (below_alloc (Below.refl _ _) _) _)) HL1.out).mono ?_; rintro e w1 ⟨rfl, hb1⟩; have HB1 := Aside0.mk (below_step (below_alloc (below_alloc (Below.refl _ _) _) _) hb1); have HKr1 := Aside0.mk (blk_below (blk_alloc (blk_new w (.cells #[.int .i64 0, .int .i64 0, .string ⟨#[]⟩] 38)) (.cells #[.int .i64 0, .int .i64 0, .string ⟨#[]⟩] 38)) hb1); obtain ⟨kr1, kr2, kr3, kr4⟩ := know HKr1.out; have HKn1 := Aside0.mk (blk_below (blk_new2 w (.cells #[.int .i64 0, .int .i64 0, .string ⟨#[]⟩] 38) (.cells #[.int .i64 0, .int .i64 0, .string ⟨#[]⟩] 38)) hb1); obtain ⟨kn1, kn2, kn3, kn4⟩ := know HKn1.out; clear hb1)
      have hz := blk_put3 HKr1.out (.int .i64 0) (.int .i64 0) (.string ⟨#[]⟩)
      have hbz := below_put3 HB1.out (Nat.le_refl _) (.int .i64 0) (.int .i64 0) (.string ⟨#[]⟩)
      generalize World.setCell (World.setCell (World.setCell _ _ _) _ _) _ _ = W3 at hz hbz ⊢
      have hz0 : W3.cell? ⟨w.heap.size, 0, none⟩ = some (.int .i64 0) := blk_cell hz 0
      have hz1 : W3.cell? ⟨w.heap.size, 1, none⟩ = some (.int .i64 0) := blk_cell hz 1
      have hz2 : W3.cell? ⟨w.heap.size, 2, none⟩ = some (.string ⟨#[]⟩) := blk_cell hz 2
      exact bodyPost_ret (v := .tuple #[.agg #[.int .i64 0, .int .i64 0, .string ⟨#[]⟩], .int .i64 0, .bool false]) (by simp [results, Try.results68, go_sem, hz0, hz1, hz2]) rfl ⟨rfl, hbz⟩
    | some p =>
      obtain ⟨n, u⟩ := p
      have hu := (getN_used hg).2
      have hnb : n < 18446744073709551616 := (getN_some HBR.out hg).1
      have HG := Aside0.mk hg
      by_cases hk3 : k = 0
      · subst hk3
        obtain ⟨rfl, rfl, rfl⟩ : x = ⟨0, zagN n, ⟨#[]⟩⟩ ∧ m = u + 1 ∧ b = true := by
          have h : gotV (getV (0 :: r)) = ((⟨0, zagN n, ⟨#[]⟩⟩ : SValue), u + 1, true) := by unfold getV; simp only [hg]; rfl
          rw [h] at hq
          simp only [Prod.mk.injEq] at hq
          exact ⟨hq.1.symm, hq.2.1.symm, hq.2.2.symm⟩
        have HZ := Aside0.mk (zag_is hnb)
        have HZB := Aside0.mk (zag_in hnb)
        have HM := Aside0.mk (show mayV ⟨0, zagN n, ⟨#[]⟩⟩ = true from mayV_iff.2 (.inl ⟨rfl, (by decide +kernel : (⟨#[]⟩ : ByteArray).toList = [])⟩))
        generalize zagN n = z at *
        clear hg hq hw0
        go_enter Try.func68, Try.ntmps68
        go_wp2_with (first
          | (go_at_call 43; refine (le_Get.yes A1 _ r _ HG.out HBR.out (by omega) (Kd.C_below HD1.out (below_alloc (below_alloc (Below.refl _ _) _) _)) HL1.out).mono ?_; rintro e w1 ⟨rfl, hb1⟩; have HB1 := Aside0.mk (below_step (below_alloc (below_alloc (Below.refl _ _) _) _) hb1); have HKr1 := Aside0.mk (blk_below (blk_alloc (blk_new w (.cells #[.int .i64 0, .int .i64 0, .string ⟨#[]⟩] 38)) (.cells #[.int .i64 0, .int .i64 0, .string ⟨#[]⟩] 38)) hb1); obtain ⟨kr1, kr2, kr3, kr4⟩ := know HKr1.out; have HKn1 := Aside0.mk (blk_below (blk_new2 w (.cells #[.int .i64 0, .int .i64 0, .string ⟨#[]⟩] 38) (.cells #[.int .i64 0, .int .i64 0, .string ⟨#[]⟩] 38)) hb1); obtain ⟨kn1, kn2, kn3, kn4⟩ := know HKn1.out; have hx1 := pw_cell_below HB1.out HX.out; clear hb1)
          | (go_at_call 85; refine (le_Zag.calls (n : Int) _ _ HZ.out).mono ?_; rintro e w2 ⟨rfl, hd2⟩; have hb2 := hd2.below; have HB2 := Aside0.mk (below_step (below_alloc HB1.out _) hb2); have HKr2 := Aside0.mk (blk_below (blk_alloc HKr1.out _) hb2); have HKv2 := Aside0.mk (blk_below (blk_new w1 (.cells #[.int .i64 0, .int .i64 0, .string ⟨#[]⟩] 38)) hb2); have hcv2 := cells_of HKv2.out; have hfv2 := frozen_of HKv2.out; clear hb2 hd2)
          | (go_at_call 27; refine (mayV_told ⟨0, z, ⟨#[]⟩⟩ _ HZB.out HM.out).mono ?_; rintro e w3 ⟨rfl, hb3⟩; have HB3 := Aside0.mk (below_step (below_set (j := 1) (v := Value.int .i64 z) (g := w1.heap.size) HB2.out (below_size HB1.out)) hb3); have HKr3 := Aside0.mk (blk_below (blk_far HKr2.out (p := ⟨w1.heap.size, 1, none⟩) (Nat.ne_of_lt (blk_lt HKr1.out)) (Value.int .i64 z)) hb3); have HKv3 := Aside0.mk (blk_below (blk_set HKv2.out 1 (Value.int .i64 z)) hb3); have hcr3 := cells_of HKr3.out; have hfr3 := frozen_of HKr3.out; have hcv3 := cells_of HKv3.out; clear hb3))
        have hz := blk_put3 HKr3.out (.int .i64 0) (.int .i64 z) (.string ⟨#[]⟩)
        have hbz := below_put3 HB3.out (Nat.le_refl _) (.int .i64 0) (.int .i64 z) (.string ⟨#[]⟩)
        generalize World.setCell (World.setCell (World.setCell _ _ _) _ _) _ _ = W3 at hz hbz ⊢
        have hz0 : W3.cell? ⟨w.heap.size, 0, none⟩ = some (.int .i64 0) := blk_cell hz 0
        have hz1 : W3.cell? ⟨w.heap.size, 1, none⟩ = some (.int .i64 z) := blk_cell hz 1
        have hz2 : W3.cell? ⟨w.heap.size, 2, none⟩ = some (.string ⟨#[]⟩) := blk_cell hz 2
        exact bodyPost_ret (v := .tuple #[.agg #[.int .i64 0, .int .i64 z, .string ⟨#[]⟩], .int .i64 ((u + 1 : Nat) : Int), .bool true]) (by simp [results, Try.results68, go_sem, hz0, hz1, hz2]) rfl ⟨rfl, hbz⟩
      · by_cases hk4 : k = 2
        · subst hk4
          have hq2 : gotV (getV (2 :: r)) = if n ≤ 40 ∧ n ≤ r.length - u then (⟨2, 0, strOfNums ((r.drop u).take n)⟩, u + 1 + n, true) else (⟨0, 0, ⟨#[]⟩⟩, 0, false) := by
            have h : getV (2 :: r) = if n ≤ 40 ∧ n ≤ r.length - u then some (⟨2, 0, strOfNums ((r.drop u).take n)⟩, u + 1 + n) else none := by
              unfold getV
              simp only [hg]
              rfl
            rw [h]
            split <;> rfl
          rw [hq2] at hq
          clear hq2 hk3
          have hwe : IntKind.wrap .u64 ((r.length : Int) + 1 - ((u : Int) + 1)) = (r.length : Int) + 1 - ((u : Int) + 1) := by rw [wrap_u64]; omega
          by_cases hfit : n ≤ r.length - u
          · have hwn : IntKind.wrap .i64 (n : Int) = (n : Int) := IntWalk.i64_in _ (by omega)
            obtain ⟨A2, hcut2, hD2, hln2⟩ := mid_row (P := Try.prog) (d := Kd.int .u8) Try.underlying29 hi0 hsz0 (some ad) c (2 :: r) (u + 1) n ((u : Int) + 1) (((u : Int) + 1) + (n : Int)) (by omega) (by omega) (by rw [HLN.out]; omega) HC.out
            rw [List.drop_succ_cons] at hD2 hln2
            rw [HLN.out] at hcut2
            have HD2 := Aside0.mk (hD2 w (by rw [HLN.out]; exact HR.out))
            have hstr := fun (W : World) (h : Below w.heap.size w W) => Kd.C_string (P := Try.prog) (c := c - (u + 1)) Try.underlying29 Try.underlying5 Try.underlying9 (Kd.C_below HD2.out h)
            have hsz : (strOfNums ((r.drop u).take n)).size = n := by rw [strOfNums_size]; exact hln2
            have HSTR := Aside0.mk hstr
            have HSZ := Aside0.mk hsz
            have hf1 : (n : Int) ≤ (r.length : Int) + 1 - ((u : Int) + 1) := by omega
            clear hD2 hln2 hstr hsz
            by_cases h40 : n ≤ 40
            · skip
              obtain ⟨rfl, rfl, rfl⟩ : x = ⟨2, 0, strOfNums ((r.drop u).take n)⟩ ∧ m = u + 1 + n ∧ b = true := by
                rw [if_pos ⟨h40, hfit⟩] at hq
                simp only [Prod.mk.injEq] at hq
                exact ⟨hq.1.symm, hq.2.1.symm, hq.2.2.symm⟩
              have HM := Aside0.mk (show mayV ⟨2, 0, strOfNums ((r.drop u).take n)⟩ = true from by exact mayV_iff.2 (.inr (.inr (.inl ⟨rfl, rfl, by rw [HSZ.out]; omega⟩))))
              generalize strOfNums ((r.drop u).take n) = t at *
              clear hg hq hi0 hsz0
              go_enter Try.func68, Try.ntmps68
              go_wp2_with (first
                | (go_at_call 43; refine (le_Get.yes A1 _ r _ HG.out HBR.out (by omega) (Kd.C_below HD1.out (below_alloc (below_alloc (Below.refl _ _) _) _)) HL1.out).mono ?_; rintro e w1 ⟨rfl, hb1⟩; have HB1 := Aside0.mk (below_step (below_alloc (below_alloc (Below.refl _ _) _) _) hb1); have HKr1 := Aside0.mk (blk_below (blk_alloc (blk_new w (.cells #[.int .i64 0, .int .i64 0, .string ⟨#[]⟩] 38)) (.cells #[.int .i64 0, .int .i64 0, .string ⟨#[]⟩] 38)) hb1); obtain ⟨kr1, kr2, kr3, kr4⟩ := know HKr1.out; have HKn1 := Aside0.mk (blk_below (blk_new2 w (.cells #[.int .i64 0, .int .i64 0, .string ⟨#[]⟩] 38) (.cells #[.int .i64 0, .int .i64 0, .string ⟨#[]⟩] 38)) hb1); obtain ⟨kn1, kn2, kn3, kn4⟩ := know HKn1.out; have hx1 := pw_cell_below HB1.out HX.out; have hstr1 := HSTR.out _ (below_alloc HB1.out (.cells #[.int .i64 2, .int .i64 0, .string ⟨#[]⟩] 38)); clear hb1)
                | (go_at_call 27; refine (mayV_told ⟨2, 0, t⟩ _ zero_i64 HM.out).mono ?_; rintro e w3 ⟨rfl, hb3⟩; have HB3 := Aside0.mk (below_step (below_alloc HB1.out _) hb3); have HKr3 := Aside0.mk (blk_below (blk_alloc HKr1.out _) hb3); have HKv3 := Aside0.mk (blk_below (blk_new w1 (.cells #[.int .i64 2, .int .i64 0, .string t] 38)) hb3); have hcr3 := cells_of HKr3.out; have hfr3 := frozen_of HKr3.out; have hcv3 := cells_of HKv3.out; have HKn3 := Aside0.mk (blk_below (blk_alloc HKn1.out _) hb3); have hcn3 := cells_of HKn3.out; clear hb3))
              have hz := blk_put3 HKr3.out (.int .i64 2) (.int .i64 0) (.string t)
              have hbz := below_put3 HB3.out (Nat.le_refl _) (.int .i64 2) (.int .i64 0) (.string t)
              generalize World.setCell (World.setCell (World.setCell _ _ _) _ _) _ _ = W3 at hz hbz ⊢
              have hz0 : W3.cell? ⟨w.heap.size, 0, none⟩ = some (.int .i64 2) := blk_cell hz 0
              have hz1 : W3.cell? ⟨w.heap.size, 1, none⟩ = some (.int .i64 0) := blk_cell hz 1
              have hz2 : W3.cell? ⟨w.heap.size, 2, none⟩ = some (.string t) := blk_cell hz 2
              exact bodyPost_ret (v := .tuple #[.agg #[.int .i64 2, .int .i64 0, .string t], .int .i64 ((u + 1 + n : Nat) : Int), .bool true]) (by simp [results, Try.results68, go_sem, hz0, hz1, hz2]) rfl ⟨rfl, hbz⟩
            skip
            · skip
              obtain ⟨rfl, rfl, rfl⟩ : x = ⟨0, 0, ⟨#[]⟩⟩ ∧ m = 0 ∧ b = false := by
                rw [if_neg (by omega)] at hq
                simp only [Prod.mk.injEq] at hq
                exact ⟨hq.1.symm, hq.2.1.symm, hq.2.2.symm⟩
              have HM := Aside0.mk (show mayV ⟨2, 0, strOfNums ((r.drop u).take n)⟩ = false from by rw [← Bool.not_eq_true, mayV_iff]; simp only [HSZ.out]; omega)
              generalize strOfNums ((r.drop u).take n) = t at *
              clear hg hq hi0 hsz0
              go_enter Try.func68, Try.ntmps68
              go_wp2_with (first
                | (go_at_call 43; refine (le_Get.yes A1 _ r _ HG.out HBR.out (by omega) (Kd.C_below HD1.out (below_alloc (below_alloc (Below.refl _ _) _) _)) HL1.out).mono ?_; rintro e w1 ⟨rfl, hb1⟩; have HB1 := Aside0.mk (below_step (below_alloc (below_alloc (Below.refl _ _) _) _) hb1); have HKr1 := Aside0.mk (blk_below (blk_alloc (blk_new w (.cells #[.int .i64 0, .int .i64 0, .string ⟨#[]⟩] 38)) (.cells #[.int .i64 0, .int .i64 0, .string ⟨#[]⟩] 38)) hb1); obtain ⟨kr1, kr2, kr3, kr4⟩ := know HKr1.out; have HKn1 := Aside0.mk (blk_below (blk_new2 w (.cells #[.int .i64 0, .int .i64 0, .string ⟨#[]⟩] 38) (.cells #[.int .i64 0, .int .i64 0, .string ⟨#[]⟩] 38)) hb1); obtain ⟨kn1, kn2, kn3, kn4⟩ := know HKn1.out; have hx1 := pw_cell_below HB1.out HX.out; have hstr1 := HSTR.out _ (below_alloc HB1.out (.cells #[.int .i64 2, .int .i64 0, .string ⟨#[]⟩] 38)); clear hb1)
                | (go_at_call 27; refine (mayV_told ⟨2, 0, t⟩ _ zero_i64 HM.out).mono ?_; rintro e w3 ⟨rfl, hb3⟩; have HB3 := Aside0.mk (below_step (below_alloc HB1.out _) hb3); have HKr3 := Aside0.mk (blk_below (blk_alloc HKr1.out _) hb3); have HKv3 := Aside0.mk (blk_below (blk_new w1 (.cells #[.int .i64 2, .int .i64 0, .string t] 38)) hb3); have hcr3 := cells_of HKr3.out; have hfr3 := frozen_of HKr3.out; have hcv3 := cells_of HKv3.out; have HKn3 := Aside0.mk (blk_below (blk_alloc HKn1.out _) hb3); have hcn3 := cells_of HKn3.out; clear hb3))
              have hz := blk_put3 HKr3.out (.int .i64 0) (.int .i64 0) (.string ⟨#[]⟩)
              have hbz := below_put3 HB3.out (Nat.le_refl _) (.int .i64 0) (.int .i64 0) (.string ⟨#[]⟩)
              generalize World.setCell (World.setCell (World.setCell _ _ _) _ _) _ _ = W3 at hz hbz ⊢
              have hz0 : W3.cell? ⟨w.heap.size, 0, none⟩ = some (.int .i64 0) := blk_cell hz 0
              have hz1 : W3.cell? ⟨w.heap.size, 1, none⟩ = some (.int .i64 0) := blk_cell hz 1
              have hz2 : W3.cell? ⟨w.heap.size, 2, none⟩ = some (.string ⟨#[]⟩) := blk_cell hz 2
              exact bodyPost_ret (v := .tuple #[.agg #[.int .i64 0, .int .i64 0, .string ⟨#[]⟩], .int .i64 0, .bool false]) (by simp [results, Try.results68, go_sem, hz0, hz1, hz2]) rfl ⟨rfl, hbz⟩
          · obtain ⟨rfl, rfl, rfl⟩ : x = ⟨0, 0, ⟨#[]⟩⟩ ∧ m = 0 ∧ b = false := by
              rw [if_neg (by omega)] at hq
              simp only [Prod.mk.injEq] at hq
              exact ⟨hq.1.symm, hq.2.1.symm, hq.2.2.symm⟩
            have hf1 : (r.length : Int) + 1 - ((u : Int) + 1) < (n : Int) := by omega
            clear hg hq hi0 hsz0
            go_enter Try.func68, Try.ntmps68
            go_wp2_with (go_at_call 43; refine (le_Get.yes A1 _ r _ HG.out HBR.out (by omega) (Kd.C_below HD1.out (below_alloc (below_alloc (Below.refl _ _) _) _)) HL1.out).mono ?_; rintro e w1 ⟨rfl, hb1⟩; have HB1 := Aside0.mk (below_step (below_alloc (below_alloc (Below.refl _ _) _) _) hb1); have HKr1 := Aside0.mk (blk_below (blk_alloc (blk_new w (.cells #[.int .i64 0, .int .i64 0, .string ⟨#[]⟩] 38)) (.cells #[.int .i64 0, .int .i64 0, .string ⟨#[]⟩] 38)) hb1); obtain ⟨kr1, kr2, kr3, kr4⟩ := know HKr1.out; have HKn1 := Aside0.mk (blk_below (blk_new2 w (.cells #[.int .i64 0, .int .i64 0, .string ⟨#[]⟩] 38) (.cells #[.int .i64 0, .int .i64 0, .string ⟨#[]⟩] 38)) hb1); obtain ⟨kn1, kn2, kn3, kn4⟩ := know HKn1.out; have hx1 := pw_cell_below HB1.out HX.out; clear hb1)
            have hz := blk_put3 (blk_alloc HKr1.out (.cells #[.int .i64 2, .int .i64 0, .string ⟨#[]⟩] 38)) (.int .i64 0) (.int .i64 0) (.string ⟨#[]⟩)
            have hbz := below_put3 (below_alloc HB1.out (.cells #[.int .i64 2, .int .i64 0, .string ⟨#[]⟩] 38)) (Nat.le_refl _) (.int .i64 0) (.int .i64 0) (.string ⟨#[]⟩)
            generalize World.setCell (World.setCell (World.setCell _ _ _) _ _) _ _ = W3 at hz hbz ⊢
            have hz0 : W3.cell? ⟨w.heap.size, 0, none⟩ = some (.int .i64 0) := blk_cell hz 0
            have hz1 : W3.cell? ⟨w.heap.size, 1, none⟩ = some (.int .i64 0) := blk_cell hz 1
            have hz2 : W3.cell? ⟨w.heap.size, 2, none⟩ = some (.string ⟨#[]⟩) := blk_cell hz 2
            exact bodyPost_ret (v := .tuple #[.agg #[.int .i64 0, .int .i64 0, .string ⟨#[]⟩], .int .i64 0, .bool false]) (by simp [results, Try.results68, go_sem, hz0, hz1, hz2]) rfl ⟨rfl, hbz⟩
        · have hq2 := getV_rest hg hk3 hk4 hnb
          rw [hq] at hq2
          clear hq
          have hqb : -9223372036854775808 ≤ IntKind.wrap .i64 (n : Int) ∧ IntKind.wrap .i64 (n : Int) ≤ 9223372036854775807 := by rw [wrap_i64]; unfold wrap64; omega
          obtain ⟨q, hwn⟩ : ∃ q, IntKind.wrap .i64 (n : Int) = q := ⟨_, rfl⟩
          rw [hwn] at hq2 hqb
          have HQB := Aside0.mk hqb
          have e0 : (k == 0) = false := by simpa using hk3
          have e2 : (k == 2) = false := by simpa using hk4
          clear hqb hg hi0 hsz0 hk3 hk4
          cases hm : mayV ⟨k, q, ⟨#[]⟩⟩ with
          | false =>
            rw [hm] at hq2
            obtain ⟨rfl, rfl, rfl⟩ : x = ⟨0, 0, ⟨#[]⟩⟩ ∧ m = 0 ∧ b = false := by
              have h : (x, m, b) = ((⟨0, 0, ⟨#[]⟩⟩ : SValue), 0, false) := hq2
              simp only [Prod.mk.injEq] at h
              exact h
            have HM := Aside0.mk hm
            clear hm hq2
            go_enter Try.func68, Try.ntmps68
            go_wp2_with (first
              | (go_at_call 43; refine (le_Get.yes A1 _ r _ HG.out HBR.out (by omega) (Kd.C_below HD1.out (below_alloc (below_alloc (Below.refl _ _) _) _)) HL1.out).mono ?_; rintro e w1 ⟨rfl, hb1⟩; have HB1 := Aside0.mk (below_step (below_alloc (below_alloc (Below.refl _ _) _) _) hb1); have HKr1 := Aside0.mk (blk_below (blk_alloc (blk_new w (.cells #[.int .i64 0, .int .i64 0, .string ⟨#[]⟩] 38)) (.cells #[.int .i64 0, .int .i64 0, .string ⟨#[]⟩] 38)) hb1); obtain ⟨kr1, kr2, kr3, kr4⟩ := know HKr1.out; have HKn1 := Aside0.mk (blk_below (blk_new2 w (.cells #[.int .i64 0, .int .i64 0, .string ⟨#[]⟩] 38) (.cells #[.int .i64 0, .int .i64 0, .string ⟨#[]⟩] 38)) hb1); obtain ⟨kn1, kn2, kn3, kn4⟩ := know HKn1.out; have hx1 := pw_cell_below HB1.out HX.out; clear hb1)
              | (go_at_call 27; refine (mayV_told ⟨k, q, ⟨#[]⟩⟩ _ HQB.out HM.out).mono ?_; rintro e w3 ⟨rfl, hb3⟩; have HB3 := Aside0.mk (below_step (below_alloc HB1.out _) hb3); have HKr3 := Aside0.mk (blk_below (blk_alloc HKr1.out _) hb3); have HKv3 := Aside0.mk (blk_below (blk_new w1 (.cells #[.int .i64 k, .int .i64 q, .string ⟨#[]⟩] 38)) hb3); have hcr3 := cells_of HKr3.out; have hfr3 := frozen_of HKr3.out; have hcv3 := cells_of HKv3.out; have HKn3 := Aside0.mk (blk_below (blk_alloc HKn1.out _) hb3); have hcn3 := cells_of HKn3.out; clear hb3))
            have hz := blk_put3 HKr3.out (.int .i64 0) (.int .i64 0) (.string ⟨#[]⟩)
            have hbz := below_put3 HB3.out (Nat.le_refl _) (.int .i64 0) (.int .i64 0) (.string ⟨#[]⟩)
            generalize World.setCell (World.setCell (World.setCell _ _ _) _ _) _ _ = W3 at hz hbz ⊢
            have hz0 : W3.cell? ⟨w.heap.size, 0, none⟩ = some (.int .i64 0) := blk_cell hz 0
            have hz1 : W3.cell? ⟨w.heap.size, 1, none⟩ = some (.int .i64 0) := blk_cell hz 1
            have hz2 : W3.cell? ⟨w.heap.size, 2, none⟩ = some (.string ⟨#[]⟩) := blk_cell hz 2
            exact bodyPost_ret (v := .tuple #[.agg #[.int .i64 0, .int .i64 0, .string ⟨#[]⟩], .int .i64 0, .bool false]) (by simp [results, Try.results68, go_sem, hz0, hz1, hz2]) rfl ⟨rfl, hbz⟩
          | true =>
            rw [hm] at hq2
            obtain ⟨rfl, rfl, rfl⟩ : x = ⟨k, q, ⟨#[]⟩⟩ ∧ m = u + 1 ∧ b = true := by
              have h : (x, m, b) = ((⟨k, q, ⟨#[]⟩⟩ : SValue), u + 1, true) := hq2
              simp only [Prod.mk.injEq] at h
              exact h
            have HM := Aside0.mk hm
            clear hm hq2
            go_enter Try.func68, Try.ntmps68
            go_wp2_with (first
              | (go_at_call 43; refine (le_Get.yes A1 _ r _ HG.out HBR.out (by omega) (Kd.C_below HD1.out (below_alloc (below_alloc (Below.refl _ _) _) _)) HL1.out).mono ?_; rintro e w1 ⟨rfl, hb1⟩; have HB1 := Aside0.mk (below_step (below_alloc (below_alloc (Below.refl _ _) _) _) hb1); have HKr1 := Aside0.mk (blk_below (blk_alloc (blk_new w (.cells #[.int .i64 0, .int .i64 0, .string ⟨#[]⟩] 38)) (.cells #[.int .i64 0, .int .i64 0, .string ⟨#[]⟩] 38)) hb1); obtain ⟨kr1, kr2, kr3, kr4⟩ := know HKr1.out; have HKn1 := Aside0.mk (blk_below (blk_new2 w (.cells #[.int .i64 0, .int .i64 0, .string ⟨#[]⟩] 38) (.cells #[.int .i64 0, .int .i64 0, .string ⟨#[]⟩] 38)) hb1); obtain ⟨kn1, kn2, kn3, kn4⟩ := know HKn1.out; have hx1 := pw_cell_below HB1.out HX.out; clear hb1)
              | (go_at_call 27; refine (mayV_told ⟨k, q, ⟨#[]⟩⟩ _ HQB.out HM.out).mono ?_; rintro e w3 ⟨rfl, hb3⟩; have HB3 := Aside0.mk (below_step (below_alloc HB1.out _) hb3); have HKr3 := Aside0.mk (blk_below (blk_alloc HKr1.out _) hb3); have HKv3 := Aside0.mk (blk_below (blk_new w1 (.cells #[.int .i64 k, .int .i64 q, .string ⟨#[]⟩] 38)) hb3); have hcr3 := cells_of HKr3.out; have hfr3 := frozen_of HKr3.out; have hcv3 := cells_of HKv3.out; have HKn3 := Aside0.mk (blk_below (blk_alloc HKn1.out _) hb3); have hcn3 := cells_of HKn3.out; clear hb3))
            have hz := blk_put3 HKr3.out (.int .i64 k) (.int .i64 q) (.string ⟨#[]⟩)
            have hbz := below_put3 HB3.out (Nat.le_refl _) (.int .i64 k) (.int .i64 q) (.string ⟨#[]⟩)
            generalize World.setCell (World.setCell (World.setCell _ _ _) _ _) _ _ = W3 at hz hbz ⊢
            have hz0 : W3.cell? ⟨w.heap.size, 0, none⟩ = some (.int .i64 k) := blk_cell hz 0
            have hz1 : W3.cell? ⟨w.heap.size, 1, none⟩ = some (.int .i64 q) := blk_cell hz 1
            have hz2 : W3.cell? ⟨w.heap.size, 2, none⟩ = some (.string ⟨#[]⟩) := blk_cell hz 2
            exact bodyPost_ret (v := .tuple #[.agg #[.int .i64 k, .int .i64 q, .string ⟨#[]⟩], .int .i64 ((u + 1 : Nat) : Int), .bool true]) (by simp [results, Try.results68, go_sem, hz0, hz1, hz2]) rfl ⟨rfl, hbz⟩
end Go.Proofs.Ytncllbokeofdjaa.P

namespace Go.Proofs.Ytncllbokeofdjaa.P
open Go.RowKit Go.Proofs.YtncllbokeofdjaaW.PrintWords Go.Proofs.YtncllbokeofdjaaW.PrintLast Go.Proofs.YtncllbokeofdjaaW.PrintMore
attribute [local go_sem] max2_int min2_int max_two min_two max_three min_three max_four min_four   -- for this text's walks alone
set_option linter.unusedVariables false
set_option linter.unusedSimpArgs false
def cellsP (x : SOp) : Array Value := #[.int .i64 x.f0, .int .i64 x.f1, .int .i64 x.f2.f0, .int .i64 x.f2.f1, .string x.f2.f2]
def partBPost (r : Option (SOp × Nat)) (w : World) (e : Ending) (w' : World) : Prop := (match r with
  | some (x, n) => e = .returned (.tuple #[.agg (cellsP x), .int .i64 (n : Int), .bool true])
  | none => ∃ (x : SOp) (n : Int), e = .returned (.tuple #[.agg (cellsP x), .int .i64 n, .bool false])) ∧ Below w.heap.size w w'
theorem blk_put5 {W : World} {g : Nat} {t : TypeId} {a b c d e : Value} (h : W.heap[g]? = some (.cells #[a, b, c, d, e] t (0, 0))) (x y z u v : Value) : (((((W.setCell ⟨g, 0, none⟩ x).setCell ⟨g, 1, none⟩ y).setCell ⟨g, 2, none⟩ z).setCell ⟨g, 3, none⟩ u).setCell ⟨g, 4, none⟩ v).heap[g]? = some (.cells #[x, y, z, u, v] t (0, 0)) :=
  blk_put (blk_put (blk_put (blk_put (blk_put h 0 x rfl) 1 y rfl) 2 z rfl) 3 u rfl) 4 v rfl
theorem below_put5 {B : Nat} {w W : World} {g : Nat} (h : Below B w W) (hg : B ≤ g) (x y z u v : Value) : Below B w (((((W.setCell ⟨g, 0, none⟩ x).setCell ⟨g, 1, none⟩ y).setCell ⟨g, 2, none⟩ z).setCell ⟨g, 3, none⟩ u).setCell ⟨g, 4, none⟩ v) :=
  ((((h.setCell (p := ⟨g, 0, none⟩) hg x).setCell (p := ⟨g, 1, none⟩) hg y).setCell (p := ⟨g, 2, none⟩) hg z).setCell (p := ⟨g, 3, none⟩) hg u).setCell (p := ⟨g, 4, none⟩) hg v
set_option maxHeartbeats 1000000 in
set_option maxRecDepth 100000 in
theorem partb_nil (A : Option Addr) (c : Nat) (w : World) : Calls Try.prog 44 #[.slice A 0 c] w (partBPost none w) := by
  go_enter Try.func44, Try.ntmps44
  go_wp2_with fail
  exact bodyPost_ret (v := .tuple #[.agg #[.int .i64 0, .int .i64 0, .int .i64 0, .int .i64 0, .string ⟨#[]⟩], .int .i64 0, .bool false]) (by simp [results, Try.results44, go_sem]) rfl ⟨⟨⟨0, 0, ⟨0, 0, ⟨#[]⟩⟩⟩, 0, rfl⟩, below_alloc (Below.refl _ _) _⟩
set_option maxHeartbeats 1000000 in
set_option maxRecDepth 100000 in
theorem partb_code (k : Int) (r : List Int) (A : Option Addr) (c : Nat) (w : World) (hr : Kd.C (Kd.int .u8) w A (r.length + 1) (k :: r)) (hc : r.length + 1 ≤ c) (hb : byteL (k :: r)) (hl : (k :: r).length < 4611686018427387904) (h0 : ¬ k = 0) (h1 : ¬ k = 1) : Calls Try.prog 44 #[.slice A (r.length + 1) c] w (partBPost (some (⟨k, 0, zeroV⟩, 1)) w) := by
  obtain ⟨ad, e, z0⟩ := Kd.at_int hr 0 (by decide) (by omega)
  subst e
  have z1 : w.cell? ad = some (.int .u8 k) := by have h := z0; rw [show (0 : Int).toNat = 0 from rfl, addr_zero] at h; exact h
  have z2 : w.cell? (ad.add 0) = some (.int .u8 k) := z0
  have z3 : ∀ o, (w.alloc o).cell? ad = some (.int .u8 k) := fun o => cell_later o z1
  have z4 : ∀ o, (w.alloc o).cell? (ad.add 0) = some (.int .u8 k) := fun o => cell_later o z2
  obtain ⟨hk0, hk1⟩ := hb k (by simp)
  have hwk : IntKind.i64.wrap k = k := IntWalk.i64_in _ (by omega)
  have hlen : (((r.length + 1 : Nat) : Int) == 0) = false := beq_eq_false_iff_ne.2 (by omega)
  have hlen2 : ((r.length : Int) + 1 == 0) = false := beq_eq_false_iff_ne.2 (by omega)
  have hlen3 : ¬ (r.length : Int) + 1 = 0 := by omega
  have h0b : (k == 0) = false := beq_eq_false_iff_ne.2 h0
  have h1b : (k == 1) = false := beq_eq_false_iff_ne.2 h1
  clear z0 hr hc hb hl h0 h1
  go_enter Try.func44, Try.ntmps44
  go_wp2_with fail
  exact bodyPost_ret (v := .tuple #[.agg #[.int .i64 k, .int .i64 0, .int .i64 0, .int .i64 0, .string ⟨#[]⟩], .int .i64 1, .bool true]) (by simp [results, Try.results44, go_sem]) rfl ⟨rfl, below_alloc (below_alloc (Below.refl _ _) _) _⟩
set_option maxHeartbeats 1000000 in
set_option maxRecDepth 100000 in
theorem partb_short (k : Int) (r : List Int) (A : Option Addr) (c : Nat) (w : World) (hr : Kd.C (Kd.int .u8) w A (r.length + 1) (k :: r)) (hc : r.length + 1 ≤ c) (hb : byteL (k :: r)) (hl : (k :: r).length < 4611686018427387904) (h1 : k = 1) (h2 : r = []) : Calls Try.prog 44 #[.slice A (r.length + 1) c] w (partBPost none w) := by
  obtain ⟨ad, e, z0⟩ := Kd.at_int hr 0 (by decide) (by omega)
  subst e
  have z1 : w.cell? ad = some (.int .u8 k) := by have h := z0; rw [show (0 : Int).toNat = 0 from rfl, addr_zero] at h; exact h
  have z2 : w.cell? (ad.add 0) = some (.int .u8 k) := z0
  have z3 : ∀ o, (w.alloc o).cell? ad = some (.int .u8 k) := fun o => cell_later o z1
  have z4 : ∀ o, (w.alloc o).cell? (ad.add 0) = some (.int .u8 k) := fun o => cell_later o z2
  obtain ⟨hk0, hk1⟩ := hb k (by simp)
  have hwk : IntKind.i64.wrap k = k := IntWalk.i64_in _ (by omega)
  have hlen : (((r.length + 1 : Nat) : Int) == 0) = false := beq_eq_false_iff_ne.2 (by omega)
  have hlen2 : ((r.length : Int) + 1 == 0) = false := beq_eq_false_iff_ne.2 (by omega)
  have hlen3 : ¬ (r.length : Int) + 1 = 0 := by omega
  subst h1 h2
  clear z0 hr hc hb hl hlen hlen2 hlen3
  go_enter Try.func44, Try.ntmps44
  go_wp2_with fail
  exact bodyPost_ret (v := .tuple #[.agg #[.int .i64 1, .int .i64 0, .int .i64 0, .int .i64 0, .string ⟨#[]⟩], .int .i64 0, .bool false]) (by simp [results, Try.results44, go_sem]) rfl ⟨⟨⟨1, 0, ⟨0, 0, ⟨#[]⟩⟩⟩, 0, rfl⟩, below_alloc (below_alloc (Below.refl _ _) _) _⟩
set_option maxHeartbeats 1000000 in
set_option maxRecDepth 100000 in
theorem partb_load (a : Int) (r : List Int) (A : Option Addr) (c : Nat) (w : World) (hr : Kd.C (Kd.int .u8) w A (r.length + 1 + 1) (1 :: a :: r)) (hc : r.length + 1 + 1 ≤ c) (hb : byteL (1 :: a :: r)) (hl : (1 :: a :: r).length < 4611686018427387904) : Calls Try.prog 44 #[.slice A (r.length + 1 + 1) c] w (partBPost (some (⟨1, a, zeroV⟩, 2)) w) := by
  obtain ⟨ad, e, z0⟩ := Kd.at_int hr 0 (by decide) (by omega)
  subst e
  have z1 : w.cell? ad = some (.int .u8 1) := by have h := z0; rw [show (0 : Int).toNat = 0 from rfl, addr_zero] at h; exact h
  have z2 : w.cell? (ad.add 0) = some (.int .u8 1) := z0
  have z3 : ∀ o, (w.alloc o).cell? ad = some (.int .u8 1) := fun o => cell_later o z1
  have z4 : ∀ o, (w.alloc o).cell? (ad.add 0) = some (.int .u8 1) := fun o => cell_later o z2
  obtain ⟨hk0, hk1⟩ := hb a (by simp)
  have hwk : IntKind.i64.wrap a = a := IntWalk.i64_in _ (by omega)
  have hlen : (((r.length + 1 + 1 : Nat) : Int) == 0) = false := beq_eq_false_iff_ne.2 (by omega)
  have hlen2 : ((r.length : Int) + 1 + 1 == 0) = false := beq_eq_false_iff_ne.2 (by omega)
  have hlen3 : ¬ (r.length : Int) + 1 + 1 = 0 := by omega
  obtain ⟨ad2, e2, y0⟩ := Kd.at_int hr 1 (by decide) (by omega)
  cases e2
  have y1 : w.cell? ⟨ad.block, ad.off + 1, none⟩ = some (.int .u8 a) := by have h := y0; rw [show (1 : Int).toNat = 1 from rfl, add_field _ _ 1 (by omega)] at h; exact h
  have y2 : w.cell? (ad.add 1) = some (.int .u8 a) := y0
  have y3 : ∀ o o2, ((w.alloc o).alloc o2).cell? ⟨ad.block, ad.off + 1, none⟩ = some (.int .u8 a) := fun o o2 => cell_later o2 (cell_later o y1)
  have y4 : ∀ o o2, ((w.alloc o).alloc o2).cell? (ad.add 1) = some (.int .u8 a) := fun o o2 => cell_later o2 (cell_later o y2)
  have hw1 : IntKind.i64.wrap 1 = 1 := by decide
  have hge : ¬ (r.length : Int) + 1 + 1 < 2 := by omega
  have hged : decide ((r.length : Int) + 1 + 1 < 2) = false := decide_eq_false hge
  have hlt1 : (1 : Int) < (r.length : Int) + 1 + 1 := by omega
  clear z0 hr hc hb hl y0
  go_enter Try.func44, Try.ntmps44
  go_wp2_with fail
  exact bodyPost_ret (v := .tuple #[.agg #[.int .i64 1, .int .i64 a, .int .i64 0, .int .i64 0, .string ⟨#[]⟩], .int .i64 2, .bool true]) (by simp [results, Try.results44, go_sem]) rfl ⟨rfl, below_alloc (below_alloc (Below.refl _ _) _) _⟩
set_option maxHeartbeats 1000000 in
set_option maxRecDepth 100000 in
theorem partb_push {x : SValue} {m : Nat} (r : List Int) (A : Option Addr) (c : Nat) (w : World) (hr : Kd.C (Kd.int .u8) w A (r.length + 1) (0 :: r)) (hc : r.length + 1 ≤ c) (hb : byteL (0 :: r)) (hl : (0 :: r).length < 4611686018427387904) (hg : gotV (getV r) = (x, m, true)) : Calls Try.prog 44 #[.slice A (r.length + 1) c] w (partBPost (some (⟨0, 0, x⟩, m + 1)) w) := by
  obtain ⟨ad, e, z0⟩ := Kd.at_int hr 0 (by decide) (by omega)
  subst e
  have z1 : w.cell? ad = some (.int .u8 0) := by have h := z0; rw [show (0 : Int).toNat = 0 from rfl, addr_zero] at h; exact h
  have z2 : w.cell? (ad.add 0) = some (.int .u8 0) := z0
  have z3 : ∀ o, (w.alloc o).cell? ad = some (.int .u8 0) := fun o => cell_later o z1
  have z4 : ∀ o, (w.alloc o).cell? (ad.add 0) = some (.int .u8 0) := fun o => cell_later o z2
  obtain ⟨hk0, hk1⟩ := hb 0 (by simp)
  have hwk : IntKind.i64.wrap 0 = 0 := IntWalk.i64_in _ (by omega)
  have hlen : (((r.length + 1 : Nat) : Int) == 0) = false := beq_eq_false_iff_ne.2 (by omega)
  have hlen2 : ((r.length : Int) + 1 == 0) = false := beq_eq_false_iff_ne.2 (by omega)
  have hlen3 : ¬ (r.length : Int) + 1 = 0 := by omega
  obtain ⟨i0, hi0, _, hsz0, _⟩ := info_parts info5
  obtain ⟨A', hcut, hC', hlc⟩ := drop_row (P := Try.prog) (d := Kd.int .u8) Try.underlying29 hi0 hsz0 (some ad) c (0 :: r) 1 1 rfl (by simp) (by simpa using hc)
  have HROW := Aside0.mk (hC' w hr)
  have HLC := Aside0.mk hlc
  have hcut2 : ∀ W : World, (Instr.slice 29 (.slice (some ad) (r.length + 1) c) (some (.int .i64 1)) none none).run Try.prog W = .ok (.slice A' r.length (c - 1)) W := hcut
  have HBY := Aside0.mk (show byteL r from fun z hz => hb z (by simp [hz]))
  have hlr : r.length < 4611686018427387904 := by simp only [List.length_cons] at hl; omega
  have hm := gotV_len hg
  have hwm : IntKind.i64.wrap ((m : Int) + 1) = ((m + 1 : Nat) : Int) := by rw [IntWalk.i64_in _ (by omega)]; rfl
  have HG := Aside0.mk hg
  clear z0 hr hc hb hl hC' hi0 hsz0 hcut hlc hg
  go_enter Try.func44, Try.ntmps44
  go_wp2_with fail
  go_at_call 68
  refine (value_Get.told _ A' (c - 1) r (Kd.C_below HROW.out (below_alloc (below_alloc (Below.refl _ _) _) _)) HLC.out HBY.out hlr HG.out).mono ?_
  rintro e w1 ⟨rfl, hb1⟩
  have HB1 := Aside0.mk (below_step (below_alloc (below_alloc (Below.refl _ _) _) _) hb1)
  have HT := Aside0.mk (blk_alloc (blk_below (blk_alloc (blk_new w (.cells #[.int .i64 0, .int .i64 0, .int .i64 0, .int .i64 0, .string ⟨#[]⟩] 50)) (.cells #[.int .i64 0, .int .i64 0, .int .i64 0, .int .i64 0, .string ⟨#[]⟩] 50)) hb1) (.cells #[.int .i64 x.f0, .int .i64 x.f1, .string x.f2] 38))
  have HX := Aside0.mk (blk_alloc (blk_below (blk_new2 w (.cells #[.int .i64 0, .int .i64 0, .int .i64 0, .int .i64 0, .string ⟨#[]⟩] 50) (.cells #[.int .i64 0, .int .i64 0, .int .i64 0, .int .i64 0, .string ⟨#[]⟩] 50)) hb1) (.cells #[.int .i64 x.f0, .int .i64 x.f1, .string x.f2] 38))
  have HBV := Aside0.mk (below_alloc HB1.out (.cells #[.int .i64 x.f0, .int .i64 x.f1, .string x.f2] 38))
  clear hb1
  go_upto_region 7 with fail
  go_cut [] (fun wx => wx.heap[w.heap.size]? = some (.cells #[.int .i64 0, .int .i64 0, .int .i64 0, .int .i64 0, .string ⟨#[]⟩] 50) ∧ wx.heap[w.heap.size + 1]? = some (.cells #[.int .i64 0, .int .i64 0, .int .i64 x.f0, .int .i64 x.f1, .string x.f2] 50) ∧ Below w.heap.size w wx)
  case first =>
    obtain ⟨k1, _, k3, _⟩ := know HX.out
    go_wp2_with fail
    go_meet
    exact ⟨blk_far (blk_far (blk_far HT.out (p := ⟨w.heap.size + 1, 2, none⟩) (show w.heap.size ≠ w.heap.size + 1 by omega) (.int .i64 x.f0)) (p := ⟨w.heap.size + 1, 3, none⟩) (show w.heap.size ≠ w.heap.size + 1 by omega) (.int .i64 x.f1)) (p := ⟨w.heap.size + 1, 4, none⟩) (show w.heap.size ≠ w.heap.size + 1 by omega) (.string x.f2), blk_put (blk_put (blk_put HX.out 2 (.int .i64 x.f0) rfl) 3 (.int .i64 x.f1) rfl) 4 (.string x.f2) rfl, Below.setCell (p := ⟨w.heap.size + 1, 4, none⟩) (Below.setCell (p := ⟨w.heap.size + 1, 3, none⟩) (Below.setCell (p := ⟨w.heap.size + 1, 2, none⟩) HBV.out (Nat.le_succ _) _) (Nat.le_succ _) _) (Nat.le_succ _) _⟩
  case rest =>
  obtain ⟨hkt, hkx, hbw⟩ := hcut
  obtain ⟨w9, rfl⟩ : ∃ w9, w9 = wc := ⟨_, rfl⟩
  have HKT := Aside0.mk hkt
  have HBW := Aside0.mk hbw
  obtain ⟨j1, _, j3, _⟩ := know hkx
  obtain ⟨i1, _, i3, _⟩ := know hkt
  clear hkt hkx hbw
  have hfz := blk_put5 (HKT.out) (.int .i64 0) (.int .i64 0) (.int .i64 x.f0) (.int .i64 x.f1) (.string x.f2)
  have hz0 := blk_cell hfz 0
  have hz1 := blk_cell hfz 1
  have hz2 := blk_cell hfz 2
  have hz3 := blk_cell hfz 3
  have hz4 := blk_cell hfz 4
  go_wp2_with fail
  exact bodyPost_ret (v := .tuple #[.agg #[.int .i64 0, .int .i64 0, .int .i64 x.f0, .int .i64 x.f1, .string x.f2], .int .i64 ((m + 1 : Nat) : Int), .bool true]) (by simp [results, Try.results44, go_sem, hz0, hz1, hz2, hz3, hz4]) rfl ⟨rfl, below_put5 (HBW.out) (Nat.le_refl _) _ _ _ _ _⟩
set_option maxHeartbeats 1000000 in
set_option maxRecDepth 100000 in
theorem partb_bad {x : SValue} {m : Nat} (r : List Int) (A : Option Addr) (c : Nat) (w : World) (hr : Kd.C (Kd.int .u8) w A (r.length + 1) (0 :: r)) (hc : r.length + 1 ≤ c) (hb : byteL (0 :: r)) (hl : (0 :: r).length < 4611686018427387904) (hg : gotV (getV r) = (x, m, false)) : Calls Try.prog 44 #[.slice A (r.length + 1) c] w (partBPost none w) := by
  obtain ⟨ad, e, z0⟩ := Kd.at_int hr 0 (by decide) (by omega)
  subst e
  have z1 : w.cell? ad = some (.int .u8 0) := by have h := z0; rw [show (0 : Int).toNat = 0 from rfl, addr_zero] at h; exact h
  have z2 : w.cell? (ad.add 0) = some (.int .u8 0) := z0
  have z3 : ∀ o, (w.alloc o).cell? ad = some (.int .u8 0) := fun o => cell_later o z1
  have z4 : ∀ o, (w.alloc o).cell? (ad.add 0) = some (.int .u8 0) := fun o => cell_later o z2
  obtain ⟨hk0, hk1⟩ := hb 0 (by simp)
  have hwk : IntKind.i64.wrap 0 = 0 := IntWalk.i64_in _ (by omega)
  have hlen : (((r.length + 1 : Nat) : Int) == 0) = false := beq_eq_false_iff_ne.2 (by omega)
  have hlen2 : ((r.length : Int) + 1 == 0) = false := beq_eq_false_iff_ne.2 (by omega)
  have hlen3 : ¬ (r.length : Int) + 1 = 0 := by omega
  obtain ⟨i0, hi0, _, hsz0, _⟩ := info_parts info5
  obtain ⟨A', hcut, hC', hlc⟩ := drop_row (P := Try.prog) (d := Kd.int .u8) Try.underlying29 hi0 hsz0 (some ad) c (0 :: r) 1 1 rfl (by simp) (by simpa using hc)
  have HROW := Aside0.mk (hC' w hr)
  have HLC := Aside0.mk hlc
  have hcut2 : ∀ W : World, (Instr.slice 29 (.slice (some ad) (r.length + 1) c) (some (.int .i64 1)) none none).run Try.prog W = .ok (.slice A' r.length (c - 1)) W := hcut
  have HBY := Aside0.mk (show byteL r from fun z hz => hb z (by simp [hz]))
  have hlr : r.length < 4611686018427387904 := by simp only [List.length_cons] at hl; omega
  have hm := gotV_len hg
  have hwm : IntKind.i64.wrap ((m : Int) + 1) = ((m + 1 : Nat) : Int) := by rw [IntWalk.i64_in _ (by omega)]; rfl
  have HG := Aside0.mk hg
  clear z0 hr hc hb hl hC' hi0 hsz0 hcut hlc hg
  go_enter Try.func44, Try.ntmps44
  go_wp2_with fail
  go_at_call 68
  refine (value_Get.told _ A' (c - 1) r (Kd.C_below HROW.out (below_alloc (below_alloc (Below.refl _ _) _) _)) HLC.out HBY.out hlr HG.out).mono ?_
  rintro e w1 ⟨rfl, hb1⟩
  have HB1 := Aside0.mk (below_step (below_alloc (below_alloc (Below.refl _ _) _) _) hb1)
  have HT := Aside0.mk (blk_alloc (blk_below (blk_alloc (blk_new w (.cells #[.int .i64 0, .int .i64 0, .int .i64 0, .int .i64 0, .string ⟨#[]⟩] 50)) (.cells #[.int .i64 0, .int .i64 0, .int .i64 0, .int .i64 0, .string ⟨#[]⟩] 50)) hb1) (.cells #[.int .i64 x.f0, .int .i64 x.f1, .string x.f2] 38))
  have HX := Aside0.mk (blk_alloc (blk_below (blk_new2 w (.cells #[.int .i64 0, .int .i64 0, .int .i64 0, .int .i64 0, .string ⟨#[]⟩] 50) (.cells #[.int .i64 0, .int .i64 0, .int .i64 0, .int .i64 0, .string ⟨#[]⟩] 50)) hb1) (.cells #[.int .i64 x.f0, .int .i64 x.f1, .string x.f2] 38))
  have HBV := Aside0.mk (below_alloc HB1.out (.cells #[.int .i64 x.f0, .int .i64 x.f1, .string x.f2] 38))
  clear hb1
  go_upto_region 7 with fail
  go_cut [] (fun wx => wx.heap[w.heap.size]? = some (.cells #[.int .i64 0, .int .i64 0, .int .i64 0, .int .i64 0, .string ⟨#[]⟩] 50) ∧ wx.heap[w.heap.size + 1]? = some (.cells #[.int .i64 0, .int .i64 0, .int .i64 x.f0, .int .i64 x.f1, .string x.f2] 50) ∧ Below w.heap.size w wx)
  case first =>
    obtain ⟨k1, _, k3, _⟩ := know HX.out
    go_wp2_with fail
    go_meet
    exact ⟨blk_far (blk_far (blk_far HT.out (p := ⟨w.heap.size + 1, 2, none⟩) (show w.heap.size ≠ w.heap.size + 1 by omega) (.int .i64 x.f0)) (p := ⟨w.heap.size + 1, 3, none⟩) (show w.heap.size ≠ w.heap.size + 1 by omega) (.int .i64 x.f1)) (p := ⟨w.heap.size + 1, 4, none⟩) (show w.heap.size ≠ w.heap.size + 1 by omega) (.string x.f2), blk_put (blk_put (blk_put HX.out 2 (.int .i64 x.f0) rfl) 3 (.int .i64 x.f1) rfl) 4 (.string x.f2) rfl, Below.setCell (p := ⟨w.heap.size + 1, 4, none⟩) (Below.setCell (p := ⟨w.heap.size + 1, 3, none⟩) (Below.setCell (p := ⟨w.heap.size + 1, 2, none⟩) HBV.out (Nat.le_succ _) _) (Nat.le_succ _) _) (Nat.le_succ _) _⟩
  case rest =>
  obtain ⟨hkt, hkx, hbw⟩ := hcut
  obtain ⟨w9, rfl⟩ : ∃ w9, w9 = wc := ⟨_, rfl⟩
  have HKT := Aside0.mk hkt
  have HBW := Aside0.mk hbw
  obtain ⟨j1, _, j3, _⟩ := know hkx
  obtain ⟨i1, _, i3, _⟩ := know hkt
  clear hkt hkx hbw
  have hfz := blk_put5 (HKT.out) (.int .i64 0) (.int .i64 0) (.int .i64 x.f0) (.int .i64 x.f1) (.string x.f2)
  have hz0 := blk_cell hfz 0
  have hz1 := blk_cell hfz 1
  have hz2 := blk_cell hfz 2
  have hz3 := blk_cell hfz 3
  have hz4 := blk_cell hfz 4
  go_wp2_with fail
  exact bodyPost_ret (v := .tuple #[.agg #[.int .i64 0, .int .i64 0, .int .i64 x.f0, .int .i64 x.f1, .string x.f2], .int .i64 ((m + 1 : Nat) : Int), .bool false]) (by simp [results, Try.results44, go_sem, hz0, hz1, hz2, hz3, hz4]) rfl ⟨⟨⟨0, 0, x⟩, _, rfl⟩, below_put5 (HBW.out) (Nat.le_refl _) _ _ _ _ _⟩
theorem partb_told (l : List Int) (A : Option Addr) (c : Nat) (w : World) (hr : Kd.C (Kd.int .u8) w A l.length l) (hc : l.length ≤ c) (hb : byteL l) (hl : l.length < 4611686018427387904) {r : Option (SOp × Nat)} (hq : getP l = r) : Calls Try.prog 44 #[.slice A l.length c] w (partBPost r w) := by
  cases l with
  | nil =>
    subst hq
    exact partb_nil A c w
  | cons k r' =>
    simp only [getP] at hq
    by_cases h0 : k = 0
    · subst h0
      rw [if_pos rfl] at hq
      obtain ⟨⟨x, m, b⟩, hg⟩ : ∃ q, gotV (getV r') = q := ⟨_, rfl⟩
      cases hv : getV r' with
      | none =>
        rw [hv] at hq hg
        subst hq
        simp only [gotV, Prod.mk.injEq] at hg
        obtain ⟨rfl, rfl, rfl⟩ := hg
        exact partb_bad r' A c w hr hc hb hl (by rw [hv]; rfl)
      | some p =>
        obtain ⟨y, j⟩ := p
        rw [hv] at hq hg
        subst hq
        simp only [gotV, Prod.mk.injEq] at hg
        obtain ⟨rfl, rfl, rfl⟩ := hg
        exact partb_push r' A c w hr hc hb hl (by rw [hv]; rfl)
    · rw [if_neg h0] at hq
      by_cases h1 : k = 1
      · rw [if_pos h1] at hq
        subst h1
        cases r' with
        | nil => subst hq; exact partb_short 1 [] A c w hr hc hb hl rfl rfl
        | cons a r'' => subst hq; exact partb_load a r'' A c w hr hc hb hl
      · rw [if_neg h1] at hq
        subst hq
        exact partb_code k r' A c w hr hc hb hl h0 h1
end Go.Proofs.Ytncllbokeofdjaa.P

namespace Go.Proofs.Ytncllbokeofdjaa.P
open Go.RowKit Go.Proofs.YtncllbokeofdjaaW.PrintWords Go.Proofs.YtncllbokeofdjaaW.PrintLast Go.Proofs.YtncllbokeofdjaaW.PrintMore
attribute [local go_sem] max2_int min2_int max_two min_two max_three min_three max_four min_four   -- for this text's walks alone
set_option linter.unusedVariables false
set_option linter.unusedSimpArgs false
def opsPost3 (x : List SOp) (n : Nat) (b : Bool) (w : World) (e : Ending) (w' : World) : Prop := ∃ A c, (e = .returned (.tuple #[.slice A x.length c, .int .i64 (n : Int), .bool b]) ∧ x.length ≤ c ∧ Kd.C kOp w' A x.length x) ∧ Below w.heap.size w w'
def getORel (l : List Int) (n : Nat) (w : World) (k : Nat) (at_ v8 : Value) (w' : World) : Prop := ∃ (a : Nat) (fs : List SOp), at_ = .int .i64 (a : Int) ∧ k ≤ n ∧ a ≤ l.length ∧ fs.length = k ∧ (∀ x ∈ fs, i64V x.f2) ∧ getO l = contO l (n - k) a fs ∧ Kd.R kOp 50 w' w.heap.size (fun _ => True) v8 fs ∧ Below w.heap.size w w'
theorem none_ops {w : World} {e : Ending} {w' : World} (he : e = .returned (.tuple #[.slice none 0 0, .int .i64 0, .bool false])) (hb : Below w.heap.size w w') : opsPost3 [] 0 false w e w' := ⟨none, 0, ⟨he, Nat.le_refl _, Kd.C_nil _ _⟩, hb⟩
set_option maxHeartbeats 1000000 in
set_option maxRecDepth 100000 in
theorem getO_no1 (w : World) (A : Option Addr) (c : Nat) (l : List Int) (hr : Kd.C (Kd.int .u8) w A l.length l) (hc : l.length ≤ c) (hb : byteL l) (hl : l.length < 4611686018427387904) (hg : getN l = none) : Calls Try.prog 21 #[.slice A l.length c] w (opsPost3 [] 0 false w) := by
  go_enter Try.func21, Try.ntmps21
  go_wp2_with fail
  go_at_call 43
  refine (le_Get.no A c l _ hg hb hl hr hc).mono ?_
  rintro e w1 ⟨rfl, hb1⟩
  go_wp2_with fail
  go_ret3
  exact none_ops rfl hb1
set_option maxHeartbeats 1000000 in
set_option maxRecDepth 100000 in
theorem getO_no2 (w : World) (A : Option Addr) (c : Nat) (l : List Int) (hr : Kd.C (Kd.int .u8) w A l.length l) (hc : l.length ≤ c) (hb : byteL l) (hl : l.length < 4611686018427387904) {n u : Nat} (hg : getN l = some (n, u)) (hn : ¬ n ≤ 12) : Calls Try.prog 21 #[.slice A l.length c] w (opsPost3 [] 0 false w) := by
  have hgt : (n : Int) > 12 := by omega
  have hgt2 : (12 : Int) < (n : Int) := by omega
  have hd : decide ((12 : Int) < (n : Int)) = true := decide_eq_true hgt2
  go_enter Try.func21, Try.ntmps21
  go_wp2_with fail
  go_at_call 43
  refine (le_Get.yes A c l _ hg hb hl hr hc).mono ?_
  rintro e w1 ⟨rfl, hb1⟩
  go_wp2_with fail
  go_ret3
  exact none_ops rfl hb1
set_option maxHeartbeats 8000000 in
set_option maxRecDepth 100000 in
theorem getO_go (w : World) (A : Option Addr) (c : Nat) (l : List Int) (hr : Kd.C (Kd.int .u8) w A l.length l) (hc : l.length ≤ c) (hb : byteL l) (hl : l.length < 4611686018427387904) {n u : Nat} (hg : getN l = some (n, u)) (hn : n ≤ 12) {x : List SOp} {m : Nat} {b : Bool} (hq : gotO (getO l) = (x, m, b)) : Calls Try.prog 21 #[.slice A l.length c] w (opsPost3 x m b w) := by
  obtain ⟨i0, hi0, _, hsz0, _⟩ := info_parts info5
  have HR := Aside0.mk hr
  have HC := Aside0.mk hc
  have HBY := Aside0.mk hb
  have HG := Aside0.mk hg
  have HQ := Aside0.mk hq
  have hngt : ¬ (12 : Int) < (n : Int) := by omega
  have hd : decide ((12 : Int) < (n : Int)) = false := decide_eq_false hngt
  have hul := (getN_used hg).2.1
  have HST := Aside0.mk (getO_some (show getM l 12 = some (n, u) from by rw [getM_some hg, if_pos hn]))
  clear hr hc hb hg hq
  go_enter Try.func21, Try.ntmps21
  go_wp2_with fail
  go_at_call 43
  refine (le_Get.yes A c l _ HG.out HBY.out hl HR.out HC.out).mono ?_
  rintro e w1 ⟨rfl, hb1⟩
  have HB1 := Aside0.mk hb1
  clear hb1
  go_wp2_with fail
  go_loopw [6, 8, 9, 10, 11, 25] (fun v6 v8 _ _ _ v25 w' => ∃ k : Nat, v25 = .int .u64 (k : Int) ∧ getORel l n w k v6 v8 w') (fun _ _ _ _ _ i _ => n - (intOf i).toNat)
  case atStart => exact ⟨0, rfl, u, [], rfl, Nat.zero_le _, hul, rfl, (fun _ h => by cases h), by rw [Nat.sub_zero]; exact HST.out, Kd.R_nil _ _ _ _ _, HB1.out⟩
  case round =>
    obtain ⟨k, rfl, a, fs, rfl, hk, ha, hfl, hfi, hcont, ho, hbw⟩ := hrel
    have HO := Aside0.mk ho
    have HB := Aside0.mk hbw
    have HFI := Aside0.mk hfi
    have HCT := Aside0.mk hcont
    have HFL := Aside0.mk hfl
    have hfl12 : fs.length ≤ 12 := by omega
    clear ho hbw hfi hcont HB1 hfl
    by_cases hlt : k < n
    · obtain ⟨A4, hcut4, hD4, hlc4⟩ := drop_row (P := Try.prog) (d := Kd.int .u8) Try.underlying29 hi0 hsz0 A c l a (a : Int) rfl ha HC.out
      have HD4 := Aside0.mk (hD4 w HR.out)
      have HL4 := Aside0.mk hlc4
      have hln4 : a + (l.drop a).length = l.length := by rw [List.length_drop]; omega
      have hstep := contO_step l (n - k - 1) a fs
      rw [show n - k - 1 + 1 = n - k from by omega] at hstep
      have HBD := Aside0.mk (byteL_drop HBY.out a)
      have hld : (l.drop a).length < 4611686018427387904 := by omega
      have hlti : (k : Int) < (n : Int) := by omega
      have hltd : decide ((k : Int) < (n : Int)) = true := decide_eq_true hlti
      clear hD4 hlc4
      cases hg4 : getP (l.drop a) with
      | none =>
        have HN : Aside0 (getO l = none) := ⟨by rw [HCT.out, hstep, hg4]⟩
        have HG4 := Aside0.mk hg4
        have hq2 := HQ.out
        rw [HN.out] at hq2
        simp only [gotO, Prod.mk.injEq] at hq2
        obtain ⟨rfl, rfl, rfl⟩ := hq2
        clear hg4 hstep hi0 hsz0
        generalize l.drop a = ld4 at *
        go_wp2_with fail
        go_at_call 44
        refine (partb_told ld4 A4 _ _ (Kd.C_below HD4.out HB.out) HL4.out HBD.out hld HG4.out).mono ?_
        rintro e w4 ⟨⟨z, zn, rfl⟩, hb4⟩
        unfold cellsP
        go_wp2_with fail
        go_ret3
        exact none_ops rfl (below_alloc (below_step HB.out hb4) _)
      | some p4 =>
        obtain ⟨z, zn⟩ := p4
        obtain ⟨hz1, hz2, hz3⟩ := getP_used HBD.out hg4
        rw [hg4] at hstep
        simp only at hstep
        have HST4 := Aside0.mk (HCT.out.trans hstep)
        have HG4 := Aside0.mk hg4
        have HZ1 := Aside0.mk hz1
        have hsum : IntKind.i64.wrap ((a : Int) + (zn : Int)) = ((a + zn : Nat) : Int) := by rw [IntWalk.i64_in _ (by omega)]; rfl
        have hwk : IntKind.u64.wrap ((k : Int) + 1) = ((k + 1 : Nat) : Int) := by rw [show (k : Int) + 1 = ((k + 1 : Nat) : Int) from rfl]; exact u64_small' (by omega)
        clear hg4 hstep hi0 hsz0 hz1
        generalize l.drop a = ld4 at *
        go_wp2_with fail
        go_at_call 44
        refine (partb_told ld4 A4 _ _ (Kd.C_below HD4.out HB.out) HL4.out HBD.out hld HG4.out).mono ?_
        rintro e w4 ⟨rfl, hb4⟩
        unfold cellsP
        have HB4 := Aside0.mk (below_alloc (below_step HB.out hb4) (.cells #[.int .i64 z.f0, .int .i64 z.f1, .int .i64 z.f2.f0, .int .i64 z.f2.f1, .string z.f2.f2] 50))
        have HO4 := Aside0.mk (Kd.R_alloc (Kd.R_below HO.out hb4) (.cells #[.int .i64 z.f0, .int .i64 z.f1, .int .i64 z.f2.f0, .int .i64 z.f2.f1, .string z.f2.f2] 50))
        have HS4 := Aside0.mk (World.size_alloc w4 (.cells #[.int .i64 z.f0, .int .i64 z.f1, .int .i64 z.f2.f0, .int .i64 z.f2.f1, .string z.f2.f2] 50))
        clear hb4
        go_wp2_with ((with_reducible refine gate_builtin (b := .append) (xs := #[.tmp 37, .tmp 39]) rfl ?_); at_builtin; refine Kd.R_append kOp (w0 := w) w.heap.size rfl (.tmp 37) (.tmp 39) 28 50 (.agg #[.int .i64 0, .int .i64 0, .int .i64 0, .int .i64 0, .string ⟨#[]⟩]) 48 rfl Try.underlying28 infoOp rfl ?h1 ?h2 u8 fs z [.int .i64 z.f0, .int .i64 z.f1, .int .i64 z.f2.f0, .int .i64 z.f2.f1, .string z.f2.f2] (fun _ => True) (fun _ => False) ?hs ?hx ?aP (fun _ hk => hk.elim) (fun _ _ => trivial) ?aO ?aB ?aS ?aL ?_; (case h1 => decide); (case h2 => decide); (case hs => rfl); (case hx => first | rfl | (show Value.slice (some ⟨w4.heap.size + 1, 0, none⟩) 1 1 = _; rw [World.size_alloc])); (case aP => exact kOp_mkM _ _ _ z); (case aO => exact HO4.out); (case aB => exact HB4.out); (case aS => exact below_size HB4.out); (case aL => omega); intro v5 w5 ho5 hb5 hg5 hat5; have HO5 := Aside0.mk ho5; have HB5 := Aside0.mk hb5; clear ho5 hb5 hg5 hat5)
        go_roundw
        case rel => exact ⟨k + 1, by first | go_num | (rw [hwk]) | rfl, a + zn, fs ++ [z], by first | go_num | rfl, by omega, by omega, by rw [List.length_append, HFL.out]; rfl, fun y hy => by rcases List.mem_append.1 hy with h | h; exact HFI.out y h; rw [List.mem_singleton.1 h]; exact HZ1.out, by rw [show n - (k + 1) = n - k - 1 from by omega]; exact HST4.out, HO5.out, HB5.out⟩
        case measure => simp [intOf]; omega
    · obtain rfl : k = n := by omega
      have hnl : ¬ (k : Int) < (k : Int) := by omega
      have hcte := HCT.out
      rw [Nat.sub_self, contO_end] at hcte
      obtain ⟨A5, c5, rfl, hc5, hr5⟩ := Kd.R_reads HO.out
      have HC5 := Aside0.mk hc5
      have HR5 := Aside0.mk hr5
      have hq2 := HQ.out
      rw [hcte] at hq2
      clear hc5 hr5 hcte hi0 hsz0
      cases hmf : mayO fs with
      | false =>
        rw [hmf, if_neg (by decide)] at hq2
        simp only [gotO, Prod.mk.injEq] at hq2
        obtain ⟨rfl, rfl, rfl⟩ := hq2
        have HMF := Aside0.mk hmf
        clear hmf
        go_wp2_with fail
        go_at_call 32
        refine (mayO_told fs A5 c5 _ HR5.out HC5.out HFI.out HMF.out).mono ?_
        rintro e w6 ⟨rfl, hb6⟩
        go_wp2_with fail
        go_ret3
        exact none_ops rfl (below_step HB.out hb6)
      | true =>
        rw [hmf, if_pos rfl] at hq2
        simp only [gotO, Prod.mk.injEq] at hq2
        obtain ⟨rfl, rfl, rfl⟩ := hq2
        have HMF := Aside0.mk hmf
        clear hmf
        go_wp2_with fail
        go_at_call 32
        refine (mayO_told fs A5 c5 _ HR5.out HC5.out HFI.out HMF.out).mono ?_
        rintro e w6 ⟨rfl, hb6⟩
        go_wp2_with fail
        go_ret3
        exact ⟨A5, c5, ⟨rfl, HC5.out, Kd.C_below HR5.out hb6⟩, below_step HB.out hb6⟩
theorem getO_told (w : World) (A : Option Addr) (c : Nat) (l : List Int) (hr : Kd.C (Kd.int .u8) w A l.length l) (hc : l.length ≤ c) (hb : byteL l) (hl : l.length < 4611686018427387904) {x : List SOp} {m : Nat} {b : Bool} (hq : gotO (getO l) = (x, m, b)) : Calls Try.prog 21 #[.slice A l.length c] w (opsPost3 x m b w) := by
  cases hg : getN l with
  | none =>
    rw [getO_none (getM_none hg)] at hq
    simp only [gotO, Prod.mk.injEq] at hq
    obtain ⟨rfl, rfl, rfl⟩ := hq
    exact getO_no1 w A c l hr hc hb hl hg
  | some p =>
    obtain ⟨n, u⟩ := p
    by_cases hn : n ≤ 12
    · exact getO_go w A c l hr hc hb hl hg hn hq
    · rw [getO_none (show getM l 12 = none from by rw [getM_some hg, if_neg hn])] at hq
      simp only [gotO, Prod.mk.injEq] at hq
      obtain ⟨rfl, rfl, rfl⟩ := hq
      exact getO_no2 w A c l hr hc hb hl hg hn
end Go.Proofs.Ytncllbokeofdjaa.P

namespace Go.Proofs.Ytncllbokeofdjaa.P
open Go.RowKit Go.Proofs.YtncllbokeofdjaaW.PrintWords Go.Proofs.YtncllbokeofdjaaW.PrintLast Go.Proofs.YtncllbokeofdjaaW.PrintMore
attribute [local go_sem] max2_int min2_int max_two min_two max_three min_three max_four min_four   -- for this text's walks alone
set_option linter.unusedVariables false
set_option linter.unusedSimpArgs false
attribute [local go_sem high] eqAValue
attribute [local go_sem high] eqAValue
set_option maxHeartbeats 1000000 in
set_option maxRecDepth 100000 in
theorem holds_told (x : SEvent) (A : Option Addr) (c : Nat) (l : List SOp) (Al : Option Addr) (cl : Nat) (w : World) (hr : Kd.C kValue w A x.f2.length x.f2) (hc : x.f2.length ≤ c) (hwf : ∀ v ∈ x.f2, i64V v) (hl : Kd.C kOp w Al l.length l) (hlc : l.length ≤ cl) (hwl : ∀ x ∈ l, i64V x.f2) {b : Bool} (hb : holdsV x l = b) : Calls Try.prog 25 #[.agg #[.string x.f0, .int .i64 x.f1, .slice A x.f2.length c], .slice Al l.length cl] w (boolPost b w) := by
  obtain ⟨y, n, hyn⟩ : ∃ y n, evalV x l = (y, n) := ⟨_, _, rfl⟩
  have HEV := Aside0.mk (fun W (h : Below w.heap.size w W) => eval_told x A c l Al cl W (Kd.C_below hr h) hc hwf (Kd.C_below hl h) hlc hwl hyn)
  unfold holdsV at hb
  rw [hyn] at hb
  have heq : (y.f0 == 1 && (y.f1 == 1 && y.f2.toList.isEmpty)) = eqV y (truV true) := by unfold eqV truV; rw [show (⟨#[]⟩ : ByteArray).toList = [] from by decide +kernel]; cases y.f2.toList <;> rfl
  clear hr hc hwf hl hlc hwl hyn
  obtain ⟨len, hlen⟩ : ∃ len, l.length = len := ⟨_, rfl⟩
  rw [hlen] at HEV hb ⊢
  clear hlen
  by_cases h0 : len = 0
  · rw [decide_eq_true h0, Bool.true_or] at hb
    subst hb
    have h0i : ((len : Int) == 0) = true := by rw [h0]; rfl
    clear h0
    go_enter Try.func25, Try.ntmps25
    go_wp2_with fail
    go_at_call 17
    refine (HEV.out _ (below_alloc (Below.refl _ _) _)).mono ?_
    rintro e w1 ⟨rfl, hb1⟩
    have HB1 := Aside0.mk (below_alloc (below_step (below_alloc (Below.refl _ _) _) hb1) (.cells #[.int .i64 y.f0, .int .i64 y.f1, .string y.f2] 38))
    have hz : ∀ m i, ((w1.alloc (.cells #[.int .i64 y.f0, .int .i64 y.f1, .string y.f2] 38)).drewN m).cell? ⟨w1.heap.size, i, none⟩ = (#[.int .i64 y.f0, .int .i64 y.f1, .string y.f2] : Array Value)[i]? := fun m i => blk_cell (blk_drewN (blk_new w1 (.cells #[.int .i64 y.f0, .int .i64 y.f1, .string y.f2] 38)) m) i
    obtain ⟨q1_, q2_, q3_, q4_⟩ := know (blk_new w1 (.cells #[.int .i64 y.f0, .int .i64 y.f1, .string y.f2] 38))
    clear hb1
    go_wp2_with fail
    go_quiet (fail)
    go_wp2_with fail
    go_ret
    exact ⟨rfl, pw_below_drewN HB1.out _⟩
  · rw [decide_eq_false h0, Bool.false_or] at hb
    have h0i : ((len : Int) == 0) = false := beq_eq_false_iff_ne.2 (by omega)
    clear h0
    by_cases hn : n = 0
    · subst hn
      rw [show ((0 : Int) == 0) = true from rfl, Bool.true_and] at hb
      replace hb : eqV y (truV true) = b := hb
      rw [hb] at heq
      clear hb
      go_enter Try.func25, Try.ntmps25
      go_wp2_with fail
      go_at_call 17
      refine (HEV.out _ (below_alloc (Below.refl _ _) _)).mono ?_
      rintro e w1 ⟨rfl, hb1⟩
      have HB1 := Aside0.mk (below_alloc (below_step (below_alloc (Below.refl _ _) _) hb1) (.cells #[.int .i64 y.f0, .int .i64 y.f1, .string y.f2] 38))
      have hz : ∀ m i, ((w1.alloc (.cells #[.int .i64 y.f0, .int .i64 y.f1, .string y.f2] 38)).drewN m).cell? ⟨w1.heap.size, i, none⟩ = (#[.int .i64 y.f0, .int .i64 y.f1, .string y.f2] : Array Value)[i]? := fun m i => blk_cell (blk_drewN (blk_new w1 (.cells #[.int .i64 y.f0, .int .i64 y.f1, .string y.f2] 38)) m) i
      obtain ⟨q1_, q2_, q3_, q4_⟩ := know (blk_new w1 (.cells #[.int .i64 y.f0, .int .i64 y.f1, .string y.f2] 38))
      clear hb1
      go_wp2_with fail
      go_region_held3 (fun w' => w'.cell? ⟨w1.heap.size, 0, none⟩ = some (.int .i64 y.f0) ∧ w'.cell? ⟨w1.heap.size, 1, none⟩ = some (.int .i64 y.f1) ∧ w'.cell? ⟨w1.heap.size, 2, none⟩ = some (.string y.f2))
        (first | go_keep | (go_split_ands; refine ⟨?_, ?_, ?_⟩ <;> (first | exact hz 1 0 | exact hz 1 1 | exact hz 1 2 | (apply pw_cell_below; (first | exact hb2); assumption))))
        (first
          | (go_at_call 47; refine (valTru_told true _).mono ?_; rintro e w2 ⟨rfl, hb2⟩))
      all_goals
        go_wp2_with fail
        go_ret
        exact ⟨rfl, below_step (below_drew HB1.out) hb2⟩
    · have hn1 : (n == 0) = false := beq_eq_false_iff_ne.2 hn
      rw [hn1, Bool.false_and] at hb
      subst hb
      go_enter Try.func25, Try.ntmps25
      go_wp2_with fail
      go_at_call 17
      refine (HEV.out _ (below_alloc (Below.refl _ _) _)).mono ?_
      rintro e w1 ⟨rfl, hb1⟩
      have HB1 := Aside0.mk (below_alloc (below_step (below_alloc (Below.refl _ _) _) hb1) (.cells #[.int .i64 y.f0, .int .i64 y.f1, .string y.f2] 38))
      have hz : ∀ m i, ((w1.alloc (.cells #[.int .i64 y.f0, .int .i64 y.f1, .string y.f2] 38)).drewN m).cell? ⟨w1.heap.size, i, none⟩ = (#[.int .i64 y.f0, .int .i64 y.f1, .string y.f2] : Array Value)[i]? := fun m i => blk_cell (blk_drewN (blk_new w1 (.cells #[.int .i64 y.f0, .int .i64 y.f1, .string y.f2] 38)) m) i
      obtain ⟨q1_, q2_, q3_, q4_⟩ := know (blk_new w1 (.cells #[.int .i64 y.f0, .int .i64 y.f1, .string y.f2] 38))
      clear hb1
      go_wp2_with fail
      go_quiet (fail)
      go_wp2_with fail
      go_ret
      exact ⟨rfl, pw_below_drewN HB1.out _⟩
end Go.Proofs.Ytncllbokeofdjaa.P

namespace Go.Proofs.Ytncllbokeofdjaa.P
open Go.RowKit Go.Proofs.YtncllbokeofdjaaW.PrintWords Go.Proofs.YtncllbokeofdjaaW.PrintLast Go.Proofs.YtncllbokeofdjaaW.PrintMore
set_option linter.unusedVariables false
theorem C_sole {α : Type} {d : Kd α} {W : World} {B T : Nat} {x : α} {cs : List Value} (h : W.heap[B]? = some (.cells cs.toArray T (0, 0))) (hk : d.K W x cs) (hl : cs.length = d.sz) : Kd.C d W (some ⟨B, 0, none⟩) 1 [x] := by
  refine ⟨rfl, by decide, fun _ => ⟨_, rfl, fun j l hj => ?_⟩⟩
  match j with
  | j + 1 => simp at hj
  | 0 =>
    simp at hj
    subst hj
    refine ⟨cs, hl, hk, fun i u hu => ?_⟩
    rw [Nat.zero_mul, add_plain, blk_cell h]
    simpa using hu
def ex8E : SEvent := ⟨⟨#[97]⟩, 0, [⟨0, 4, ⟨#[]⟩⟩]⟩
def ex8S : SSchema := ⟨⟨#[97]⟩, 1, [⟨⟨#[120]⟩, 0⟩]⟩
theorem ex8_five : holdsV ex8E (belowL 5) = true := by decide +kernel
theorem ex8_four : holdsV ex8E (belowL 4) = false := by decide +kernel
theorem ex8_kind : kindV ex8S (belowL 5) = (1, 0) := by decide +kernel
theorem ex8_may : mayO (belowL 5) = true := by decide +kernel
theorem ex8_bytes : bytesO (belowL 5) = [3, 1, 0, 0, 0, 10, 5] := by
  unfold bytesO
  rw [show (belowL 5).length = 3 from rfl, lePut_small (by decide)]
  have e1 : bytesP ⟨1, 0, zeroV⟩ = [1, 0] := by unfold bytesP; rw [if_neg (by decide), if_pos rfl]
  have e2 : bytesP ⟨0, 0, ⟨0, 5, ⟨#[]⟩⟩⟩ = [0, 0, 10] := by
    unfold bytesP bytesV
    rw [if_pos rfl, show numV ⟨0, 5, ⟨#[]⟩⟩ = 10 from by decide +kernel, lePut_small (by decide)]
    rfl
  have e3 : bytesP ⟨5, 0, zeroV⟩ = [5] := by unfold bytesP; rw [if_neg (by decide), if_neg (by decide)]
  unfold opsL belowL
  rw [List.map_cons, List.map_cons, List.map_cons, List.map_nil, e1, e2, e3]
  rfl
theorem ex8_get : gotO (getO [3, 1, 0, 0, 0, 10, 5]) = (belowL 5, 7, true) := by
  have h := getO_put (l := belowL 5) [] ex8_may (belowL_i64 (by decide))
  rw [List.append_nil, ex8_bytes] at h
  exact gotO_some h
theorem ex8_vals : ∀ v ∈ ex8E.f2, i64V v := by
  intro v hv
  rw [show ex8E.f2 = [⟨0, 4, ⟨#[]⟩⟩] from rfl, List.mem_singleton] at hv
  subst hv
  unfold i64V
  decide
theorem five_i64 : ∀ x ∈ belowL 5, i64V x.f2 := belowL_i64 (by decide)
theorem four_i64 : ∀ x ∈ belowL 4, i64V x.f2 := belowL_i64 (by decide)
set_option maxHeartbeats 8000000 in
set_option maxRecDepth 100000 in
theorem awake8_told (w : World) : Calls Try.prog 11 #[] w (boolPost true w) := by
  have HPUT := Aside0.mk (fun W A c hr hc => putO_told (belowL 5) A c W hr hc five_i64 ex8_may ((if_pos rfl).trans ex8_bytes))
  have HV := Aside0.mk (show Kd.C kValue ((w.alloc (.cells #[.int .i64 0, .int .i64 4, .string ⟨#[]⟩] 38)).alloc (.cells #[.string ⟨#[97]⟩, .int .i64 0, .slice (some ⟨w.heap.size, 0, none⟩) 1 1] 27)) (some ⟨w.heap.size, 0, none⟩) 1 ex8E.f2 from C_sole (T := 38) (cs := [.int .i64 0, .int .i64 4, .string ⟨#[]⟩]) (blk_alloc (blk_new w _) _) (kValue_mk _ ⟨0, 4, ⟨#[]⟩⟩) rfl)
  have HE := Aside0.mk (blk_new2 w (.cells #[.int .i64 0, .int .i64 4, .string ⟨#[]⟩] 38) (.cells #[.string ⟨#[97]⟩, .int .i64 0, .slice (some ⟨w.heap.size, 0, none⟩) 1 1] 27))
  have HB0 := Aside0.mk (below_alloc (below_alloc (Below.refl _ w) (.cells #[.int .i64 0, .int .i64 4, .string ⟨#[]⟩] 38)) (.cells #[.string ⟨#[97]⟩, .int .i64 0, .slice (some ⟨w.heap.size, 0, none⟩) 1 1] 27))
  go_enter Try.func11, Try.ntmps11
  go_wp2_with fail
  generalize (w.alloc (.cells #[.int .i64 0, .int .i64 4, .string ⟨#[]⟩] 38)).alloc (.cells #[.string ⟨#[97]⟩, .int .i64 0, .slice (some ⟨w.heap.size, 0, none⟩) 1 1] 27) = W0 at HV HE HB0 ⊢
  go_at_call 30
  refine (below_told 5 _).mono ?_
  rintro e w1 ⟨v1, rfl, ho1, hb1⟩
  obtain ⟨A1, c1, hv1, hc1, hr1⟩ := Kd.R_reads ho1
  subst hv1
  have HR1 := Aside0.mk hr1
  have HC1 := Aside0.mk hc1
  have HBY := Aside0.mk hb1
  clear ho1 hr1 hc1 hb1
  go_wp2_with fail
  go_at_call 19
  refine (HPUT.out _ A1 c1 HR1.out HC1.out).mono ?_
  rintro e w2 ⟨v2, rfl, ho2, hb2⟩
  obtain ⟨A2, c2, hv2, hc2, hr2⟩ := Own8.reads ho2
  subst hv2
  have HR2 := Aside0.mk hr2
  have HC2 := Aside0.mk hc2
  have HBY := Aside0.mk (below_step HBY.out hb2)
  clear ho2 hr2 hc2 hb2
  go_wp2_with fail
  go_at_call 21
  refine (getO_told _ A2 c2 [3, 1, 0, 0, 0, 10, 5] HR2.out HC2.out (by decide) (by decide) ex8_get).mono ?_
  rintro e w3 ⟨A3, c3, ⟨rfl, hc3, hr3⟩, hb3⟩
  have HC3 := Aside0.mk hc3
  have HF := Aside0.mk (show Kd.C kField (w3.alloc (.cells #[.string ⟨#[120]⟩, .int .i64 0] 63)) (some ⟨w3.heap.size, 0, none⟩) 1 ex8S.f2 from C_sole (T := 63) (cs := [.string ⟨#[120]⟩, .int .i64 0]) (blk_new w3 _) (kField_mk _ ⟨⟨#[120]⟩, 0⟩) rfl)
  have HBY := Aside0.mk (below_alloc (below_step HBY.out hb3) (.cells #[.string ⟨#[120]⟩, .int .i64 0] 63))
  have HL3 := Aside0.mk (Kd.C_alloc hr3 (.cells #[.string ⟨#[120]⟩, .int .i64 0] 63))
  clear hr3 hc3 hb3
  go_wp2_with fail
  generalize w3.alloc (.cells #[.string ⟨#[120]⟩, .int .i64 0] 63) = W3 at HF HBY HL3 ⊢
  go_at_call 30
  refine (below_told 5 _).mono ?_
  rintro e w4 ⟨v4, rfl, ho4, hb4⟩
  obtain ⟨A4, c4, hv4, hc4, hr4⟩ := Kd.R_reads ho4
  subst hv4
  have HR4 := Aside0.mk hr4
  have HC4 := Aside0.mk hc4
  have HBY := Aside0.mk (below_step HBY.out hb4)
  have HL3 := Aside0.mk (Kd.C_below HL3.out hb4)
  have HF := Aside0.mk (Kd.C_below HF.out hb4)
  clear ho4 hr4 hc4 hb4
  go_wp2_with fail
  go_at_call 15
  refine (kind_told ex8S (some ⟨w3.heap.size, 0, none⟩) 1 (belowL 5) A4 c4 _ HF.out (by decide) HR4.out HC4.out five_i64 ex8_kind).mono ?_
  rintro e w5 ⟨rfl, hb5⟩
  have HBY := Aside0.mk (below_step HBY.out hb5)
  have HL3 := Aside0.mk (Kd.C_below HL3.out hb5)
  have HE5 := Aside0.mk (blk_below HE.out HBY.out)
  have he0 := blk_cell HE5.out 0
  have he1 := blk_cell HE5.out 1
  have he2 := blk_cell HE5.out 2
  have HBY := Aside0.mk (below_drew HBY.out)
  have HL3 := Aside0.mk (Kd.C_drew HL3.out)
  clear hb5
  go_wp2_with fail
  go_region_held3 (fun w' => w'.cell? ⟨w.heap.size + 1, 0, none⟩ = some (.string ⟨#[97]⟩) ∧ w'.cell? ⟨w.heap.size + 1, 1, none⟩ = some (.int .i64 0) ∧ w'.cell? ⟨w.heap.size + 1, 2, none⟩ = some (.slice (some ⟨w.heap.size, 0, none⟩) 1 1))
    (first | go_keep | (go_split_ands; refine ⟨?_, ?_, ?_⟩ <;> (first | assumption | (exact blk_cell (blk_below HE.out HBY.out) 0) | (exact blk_cell (blk_below HE.out HBY.out) 1) | (exact blk_cell (blk_below HE.out HBY.out) 2))))
    (first
      | (go_at_call_of 30 (Value.int .i64 5); refine (below_told 5 _).mono ?_; rintro e w6 ⟨v6, rfl, ho6, hb6⟩; obtain ⟨A6, c6, hv6, hc6, hr6⟩ := Kd.R_reads ho6; subst hv6; have HR6 := Aside0.mk hr6; have HC6 := Aside0.mk hc6; have HBY := Aside0.mk (below_step HBY.out hb6); have HL3 := Aside0.mk (Kd.C_below HL3.out hb6); clear ho6 hr6 hc6)
      | (go_at_call_of 30 (Value.int .i64 4); refine (below_told 4 _).mono ?_; rintro e w8 ⟨v8, rfl, ho8, hb8⟩; obtain ⟨A8, c8, hv8, hc8, hr8⟩ := Kd.R_reads ho8; subst hv8; have HR8 := Aside0.mk hr8; have HC8 := Aside0.mk hc8; have HBY := Aside0.mk (below_step HBY.out hb8); have HL3 := Aside0.mk (Kd.C_below HL3.out hb8); clear ho8 hr8 hc8)
      | (go_at_call 25; refine (holds_told ex8E (some ⟨w.heap.size, 0, none⟩) 1 (belowL 5) A6 c6 _ (Kd.C_below HV.out HBY.out) (by decide) ex8_vals HR6.out HC6.out five_i64 ex8_five).mono ?_; rintro e w7 ⟨rfl, hb7⟩; have HBY := Aside0.mk (below_step HBY.out hb7); have HL3 := Aside0.mk (Kd.C_below HL3.out hb7))
      | (go_at_call 25; refine (holds_told ex8E (some ⟨w.heap.size, 0, none⟩) 1 (belowL 4) A8 c8 _ (Kd.C_below HV.out HBY.out) (by decide) ex8_vals HR8.out HC8.out four_i64 ex8_four).mono ?_; rintro e w9 ⟨rfl, hb9⟩; have HBY := Aside0.mk (below_step HBY.out hb9); have HL3 := Aside0.mk (Kd.C_below HL3.out hb9))
      | (go_at_call 26; refine (sameO_told (belowL 5) (belowL 5) A3 c3 A6 c6 _ HL3.out HC3.out HR6.out HC6.out (eqO_iff.2 rfl)).mono ?_; rintro e w11 ⟨rfl, hb11⟩; have HBY := Aside0.mk (below_step HBY.out hb11); have HL3 := Aside0.mk (Kd.C_below HL3.out hb11)))
  all_goals
    go_wp2_with fail
    go_ret
    exact ⟨rfl, below_step HB0.out HBY.out⟩
end Go.Proofs.Ytncllbokeofdjaa.P

namespace Go.Proofs.Ytncllbokeofdjaa.P
open Go.RowKit Go.Proofs.YtncllbokeofdjaaW.PrintWords Go.Proofs.YtncllbokeofdjaaW.PrintLast Go.Proofs.YtncllbokeofdjaaW.PrintMore
set_option linter.unusedVariables false
def alikeL (p q : List SValue) : Prop := p.map (·.f0) = q.map (·.f0)
theorem alikeL_len {p q : List SValue} (h : alikeL p q) : p.length = q.length := by
  have := congrArg List.length h
  simpa using this
theorem alikeL_at {p q : List SValue} (h : alikeL p q) (i : Nat) : (p.getD i zValue).f0 = (q.getD i zValue).f0 := by
  have := congrArg (fun l => l.getD i 0) h
  simp only [List.getD_eq_getElem?_getD, List.getElem?_map] at this ⊢
  cases h1 : p[i]? <;> cases h2 : q[i]? <;> rw [h1, h2] at this <;> simp only [Option.map_none, Option.map_some, Option.getD_none, Option.getD_some] at this ⊢
  · exact this.trans rfl
  · exact this
  · exact this
theorem alikeL_snoc {p q : List SValue} {x y : SValue} (h : alikeL p q) (hx : x.f0 = y.f0) : alikeL (p ++ [x]) (q ++ [y]) := by
  unfold alikeL at *
  simp only [List.map_append, List.map_cons, List.map_nil, h, hx]
theorem alikeL_take {p q : List SValue} (h : alikeL p q) (n : Nat) : alikeL (p.take n) (q.take n) := by
  unfold alikeL at *
  rw [List.map_take, List.map_take, h]
theorem twoV_alike {c : Int} {a b a' b' : SValue} (ha : a.f0 = a'.f0) (hb : b.f0 = b'.f0) : match twoV c a' b' with
    | .ok y => (∃ x, twoV c a b = .ok x ∧ x.f0 = y.f0) ∨ (twoV c a b = .error 6 ∧ y.f0 = 0)
    | .error e => e = 6 ∨ (twoV c a b = .error e ∧ e = 5) := by
  unfold twoV
  rw [ha, hb]
  by_cases h1 : a'.f0 ≠ b'.f0
  · rw [if_pos h1, if_pos h1]; exact .inr ⟨rfl, rfl⟩
  rw [if_neg h1, if_neg h1]
  by_cases h2 : c = 6
  · rw [if_pos h2, if_pos h2]; exact .inl ⟨_, rfl, rfl⟩
  rw [if_neg h2, if_neg h2]
  by_cases h3 : c = 5
  · rw [if_pos h3, if_pos h3]
    by_cases h4 : a'.f0 = 1
    · rw [if_pos h4, if_pos h4]; exact .inr ⟨rfl, rfl⟩
    · rw [if_neg h4, if_neg h4]; exact .inl ⟨_, rfl, rfl⟩
  rw [if_neg h3, if_neg h3]
  by_cases h5 : c = 7 ∨ c = 8
  · rw [if_pos h5, if_pos h5]
    by_cases h4 : a'.f0 = 1
    · rw [if_pos h4, if_pos h4]; exact .inl ⟨_, rfl, rfl⟩
    · rw [if_neg h4, if_neg h4]; exact .inr ⟨rfl, rfl⟩
  rw [if_neg h5, if_neg h5]
  by_cases h6 : a'.f0 = 0
  · rw [if_pos h6, if_pos h6]
    cases sumV c a'.f1 b'.f1 with
    | none => exact .inl rfl
    | some n =>
      cases sumV c a.f1 b.f1 with
      | none => exact .inr ⟨rfl, rfl⟩
      | some m => exact .inl ⟨_, rfl, rfl⟩
  · rw [if_neg h6, if_neg h6]; exact .inr ⟨rfl, rfl⟩
theorem stepV_alike {vk v p q : List SValue} (x : SOp) (hv : alikeL vk v) (h : alikeL p q) : match stepV v false x q with
    | .ok q' => ∃ p', stepV vk true x p = .ok p' ∧ alikeL p' q'
    | .error e => e = 6 ∨ (stepV vk true x p = .error e ∧ e ≠ 0) := by
  unfold stepV
  have hl := alikeL_len h
  rw [hl]
  by_cases c0 : x.f0 = 0
  · rw [if_pos c0, if_pos c0]; exact ⟨_, rfl, alikeL_snoc h rfl⟩
  rw [if_neg c0, if_neg c0]
  by_cases c1 : x.f0 = 1
  · rw [if_pos c1, if_pos c1, alikeL_len hv]
    by_cases hi : x.f1.toNat < v.length
    · rw [if_pos hi, if_pos hi]; exact ⟨_, rfl, alikeL_snoc h (alikeL_at hv _)⟩
    · rw [if_neg hi, if_neg hi]; exact .inr ⟨rfl, by decide⟩
  rw [if_neg c1, if_neg c1]
  by_cases c9 : x.f0 = 9
  · rw [if_pos c9, if_pos c9]
    by_cases hn : q.length < 1
    · rw [if_pos hn, if_pos hn]; exact .inr ⟨rfl, by decide⟩
    rw [if_neg hn, if_neg hn, alikeL_at h]
    by_cases hb : (q.getD (q.length - 1) zValue).f0 = 1
    · rw [if_pos hb, if_pos hb]; exact ⟨_, rfl, alikeL_snoc (alikeL_take h _) rfl⟩
    · rw [if_neg hb, if_neg hb]; exact .inr ⟨rfl, by decide⟩
  rw [if_neg c9, if_neg c9]
  by_cases hn : q.length < 2
  · rw [if_pos hn, if_pos hn]; exact .inr ⟨rfl, by decide⟩
  rw [if_neg hn, if_neg hn]
  have ht := twoV_alike (c := x.f0) (alikeL_at h (q.length - 2)) (alikeL_at h (q.length - 1))
  cases h1 : twoV x.f0 (q.getD (q.length - 2) zValue) (q.getD (q.length - 1) zValue) with
  | ok y =>
    rw [h1] at ht
    rcases ht with ⟨z, h2, h3⟩ | ⟨h2, h3⟩
    · rw [h2]; exact ⟨_, rfl, alikeL_snoc (alikeL_take h _) h3⟩
    · rw [h2]
      exact ⟨_, if_pos ⟨rfl, rfl⟩, alikeL_snoc (alikeL_take h _) (show (0 : Int) = y.f0 from h3.symm)⟩
  | error e =>
    rw [h1] at ht
    simp only [Bool.false_eq_true, false_and, if_false]
    rcases ht with h2 | ⟨h2, h3⟩
    · exact .inl h2
    · rw [h2]
      subst h3
      exact .inr ⟨if_neg (fun hh => absurd hh.2 (by decide)), by decide⟩
theorem runV_alike {vk v : List SValue} (hv : alikeL vk v) : ∀ (l : List SOp) {p q : List SValue}, alikeL p q → match runV v false l q with
    | .ok q' => ∃ p', runV vk true l p = .ok p' ∧ alikeL p' q'
    | .error e => e = 6 ∨ (runV vk true l p = .error e ∧ e ≠ 0)
  | [], p, q, h => ⟨p, rfl, h⟩
  | x :: l, p, q, h => by
    have hs := stepV_alike x hv h
    cases h1 : stepV v false x q with
    | ok q' =>
      rw [h1] at hs
      obtain ⟨p', h2, h3⟩ := hs
      rw [runV_cons h1, runV_cons h2]
      exact runV_alike hv l h3
    | error e =>
      rw [h1] at hs
      rw [runV_stop h1]
      rcases hs with h2 | ⟨h2, h3⟩
      · exact .inl h2
      · exact .inr ⟨runV_stop h2, h3⟩
theorem kindsOf_alike {s : SSchema} {x : SEvent} (hl : s.f2.length = x.f2.length) (hk : kindsB s.f2 x.f2 = true) : alikeL (kindsOf s) x.f2 := by
  unfold alikeL kindsOf
  rw [List.map_map]
  refine List.ext_getElem (by simp [hl]) fun i h1 h2 => ?_
  rw [List.getElem_map, List.getElem_map]
  have h3 : i < s.f2.length := by simpa using h1
  have h4 : i < x.f2.length := hl ▸ h3
  unfold kindsB at hk
  have := List.all_eq_true.1 hk i (List.mem_range.2 h3)
  simp only [beq_iff_eq, List.getD, List.getElem?_eq_getElem h3, List.getElem?_eq_getElem h4, Option.getD_some] at this
  exact this
theorem kinds_law {s : SSchema} {x : SEvent} {l : List SOp} (h : validE s x = 0) {k f g : Int} {v : SValue} (hk : kindV s l = (k, f)) (hv : evalV x l = (v, g)) :
    (f ≠ 0 ∧ k = 0 ∧ (g = f ∨ g = 6)) ∨ (f = 0 ∧ ((g = 6 ∧ v = zeroV) ∨ (g = 0 ∧ v.f0 = k))) := by
  unfold validE at h
  by_cases h1 : mayS s = true ∧ mayE x = true
  · rw [if_pos h1] at h
    by_cases h2 : s.f0.toList = x.f0.toList
    · rw [if_pos h2] at h
      by_cases h3 : s.f2.length = x.f2.length
      · rw [if_pos h3] at h
        by_cases h4 : kindsB s.f2 x.f2 = true
        · have ha := kindsOf_alike h3 h4
          unfold kindV at hk
          unfold evalV at hv
          by_cases h5 : mayO l = true
          · rw [if_pos ⟨h1.1, h5⟩] at hk
            rw [if_pos ⟨h5, h1.2⟩] at hv
            have hr := runV_alike ha l (p := []) (q := []) rfl
            cases h6 : runV x.f2 false l [] with
            | ok q =>
              rw [h6] at hr hv
              obtain ⟨p, h7, h8⟩ := hr
              rw [h7] at hk
              have hl := alikeL_len h8
              match p, q, hl, h8, hk, hv with
              | [], [], _, _, hk, hv =>
                simp only [endV, Prod.mk.injEq] at hk hv
                obtain ⟨rfl, rfl⟩ := hk
                obtain ⟨_, rfl⟩ := hv
                exact .inl ⟨by decide, rfl, .inl rfl⟩
              | [a], [b], _, h8, hk, hv =>
                simp only [endV, Prod.mk.injEq] at hk hv
                obtain ⟨rfl, rfl⟩ := hk
                obtain ⟨rfl, rfl⟩ := hv
                refine .inr ⟨rfl, .inr ⟨rfl, ?_⟩⟩
                simp only [alikeL, List.map_cons, List.map_nil, List.cons.injEq, and_true] at h8
                exact h8.symm
              | a :: b :: p, c :: d :: q, _, _, hk, hv =>
                simp only [endV, Prod.mk.injEq] at hk hv
                obtain ⟨rfl, rfl⟩ := hk
                obtain ⟨_, rfl⟩ := hv
                exact .inl ⟨by decide, rfl, .inl rfl⟩
            | error e =>
              rw [h6] at hr hv
              simp only [endV, Prod.mk.injEq] at hv
              obtain ⟨rfl, rfl⟩ := hv
              rcases hr with rfl | ⟨h7, h8⟩
              · by_cases hf : f = 0
                · exact .inr ⟨hf, .inl ⟨rfl, rfl⟩⟩
                · refine .inl ⟨hf, ?_, .inr rfl⟩
                  simp only [Prod.mk.injEq] at hk
                  obtain ⟨rfl, rfl⟩ := hk
                  cases hz : runV (kindsOf s) true l [] with
                  | error e => rfl
                  | ok p =>
                    rw [hz] at hf
                    match p with
                    | [] => rfl
                    | [a] => exact absurd rfl hf
                    | a :: b :: p => rfl
              · rw [h7] at hk
                simp only [endV, Prod.mk.injEq] at hk
                obtain ⟨rfl, rfl⟩ := hk
                exact .inl ⟨h8, rfl, .inl rfl⟩
          · rw [if_neg (fun hh => h5 hh.2)] at hk
            rw [if_neg (fun hh => h5 hh.1)] at hv
            simp only [Prod.mk.injEq] at hk hv
            obtain ⟨rfl, rfl⟩ := hk
            obtain ⟨rfl, rfl⟩ := hv
            exact .inl ⟨by decide, rfl, .inl rfl⟩
        · rw [if_neg h4] at h; cases h
      · rw [if_neg h3] at h; cases h
    · rw [if_neg h2] at h; cases h
  · rw [if_neg h1] at h; cases h
end Go.Proofs.Ytncllbokeofdjaa.P

namespace Go.Proofs.Ytncllbokeofdjaa.P
open Go.RowKit Go.Proofs.YtncllbokeofdjaaW.PrintWords Go.Proofs.YtncllbokeofdjaaW.PrintLast Go.Proofs.YtncllbokeofdjaaW.PrintMore
set_option linter.unusedVariables false
theorem wfE_vals {x : SEvent} (h : wfEvent x) : ∀ v ∈ x.f2, i64V v := fun v hv => i64V_of (h.2.2.2 v hv)
theorem wfE_few {x : SEvent} (h : wfEvent x) : x.f2.length < 4611686018427387904 := by have := h.2.2.1; omega
end Go.Proofs.Ytncllbokeofdjaa.P

namespace Go.Proofs.Ytncllbokeofdjaa.P
open Go.RowKit Go.Proofs.YtncllbokeofdjaaW.PrintWords Go.Proofs.YtncllbokeofdjaaW.PrintLast Go.Proofs.YtncllbokeofdjaaW.PrintMore
attribute [local go_sem] max2_int min2_int max_two min_two max_three min_three max_four min_four   -- for this text's walks alone
set_option linter.unusedVariables false
set_option linter.unusedSimpArgs false
theorem openArg0_ExprKinds : Opens Try.prog 24 kSchema wfSchema := openSchema
theorem openArg1_ExprKinds : Opens Try.prog 27 kEvent wfEvent := openEvent
theorem openArg2_ExprKinds : Opens Try.prog 28 (Kd.slice 50 kOp) (fun x_ : List (SOp) => x_.length * 48 ≤ 140737488351232 ∧ ∀ y_ ∈ x_, wfOp y_) := (opens_slice Try.underlying28 openOp (by kernel_rfl) (by kernel_rfl))
def ExprKinds.Stmt : Prop := ∀ (W : World) (x0 : SSchema) (cs0 : List Value) (K0 : kSchema.K W x0 cs0) (w0 : wfSchema x0) (x1 : SEvent) (cs1 : List Value) (K1 : kEvent.K W x1 cs1) (w1 : wfEvent x1) (x2 : List (SOp)) (A2 : Option Addr) (c2 : Nat) (hc2 : x2.length ≤ c2) (hr2 : Kd.C kOp W A2 x2.length x2) (w2 : x2.length * 48 ≤ 140737488351232 ∧ ∀ y_ ∈ x2, wfOp y_),
    Calls Try.prog 10 #[.agg cs0.toArray, .agg cs1.toArray, .slice A2 x2.length c2] W fun e w' => e = .returned (.bool true) ∧ Below W.heap.size W w'
end Go.Proofs.Ytncllbokeofdjaa.P

namespace Go.Proofs.Ytncllbokeofdjaa.P
open Go.RowKit Go.Proofs.YtncllbokeofdjaaW.PrintWords Go.Proofs.YtncllbokeofdjaaW.PrintLast Go.Proofs.YtncllbokeofdjaaW.PrintMore
set_option linter.unusedVariables false
set_option linter.unusedSimpArgs false
attribute [local go_sem high] eqAValue
set_option maxHeartbeats 40000000 in
set_option maxRecDepth 100000 in
theorem ExprKinds.walk : ExprKinds.Stmt := by
  intro W x0 cs0 K0 w0 x1 cs1 K1 w1 x2 A2 c2 hc2 hr2 w2
  obtain ⟨A1, c1, rfl, hc1, hr1⟩ := kEvent_open K1
  have HR1 := Aside0.mk hr1
  have HC1 := Aside0.mk hc1
  have HV1 := Aside0.mk (wfE_vals w1)
  have HL1 := Aside0.mk (wfE_few w1)
  obtain ⟨q, hq10, hqC⟩ := few6_told x1
  have HQC := Aside0.mk hqC
  obtain ⟨A0, c0, rfl, hc0, hr0⟩ := kSchema_open K0
  have HR0 := Aside0.mk hr0
  have HC0 := Aside0.mk hc0
  obtain ⟨p, hp10, hpC⟩ := few5_told x0
  have HPC := Aside0.mk hpC
  have HR2 := Aside0.mk hr2
  have HC2 := Aside0.mk hc2
  have HI2 := Aside0.mk (show ∀ x ∈ x2, i64V x.f2 from fun x hx => i64V_of (w2.2 x hx).2.2)
  obtain ⟨r, hr20, hrC⟩ := few8_told x2
  have HRC := Aside0.mk hrC
  obtain ⟨vd, hvd⟩ : ∃ b, validE x0 x1 = b := ⟨_, rfl⟩
  have HVD := Aside0.mk hvd
  clear hr0 hc0 w0 K0 hr1 hc1 w1 K1 hr2 hc2 w2 hpC hp10 hqC hq10 hrC hr20
  by_cases hgo : p = true ∧ q = true ∧ r = true ∧ vd = 0
  · obtain ⟨rfl, rfl, rfl, rfl⟩ := hgo
    obtain ⟨k, f, hk⟩ : ∃ k f, kindV x0 x2 = (k, f) := ⟨_, _, rfl⟩
    obtain ⟨y, g, hy⟩ : ∃ y g, evalV x1 x2 = (y, g) := ⟨_, _, rfl⟩
    have HKD := Aside0.mk hk
    have HEV := Aside0.mk hy
    have hlaw := kinds_law hvd hk hy
    clear hvd hk hy
    rcases hlaw with ⟨hf, rfl, hg⟩ | ⟨rfl, ⟨rfl, hy⟩ | ⟨rfl, hy⟩⟩
    · have j1 : (f != 0) = true := bne_iff_ne.2 hf
      have hcl : g = f ∨ (g = 6 ∧ g ≠ f) := by omega
      clear hf hg
      rcases hcl with hgf | ⟨rfl, h2⟩
      · have j2 : (g == f) = true := beq_iff_eq.2 hgf
        clear hgf
        go_enter Try.func10, Try.ntmps10
        go_wp2_with fail
        go_at_call 11
        refine (awake8_told _).mono ?_
        rintro e w1_ ⟨rfl, hb1_⟩
        have HB1_ := Aside0.mk (below_step (below_alloc (below_alloc (Below.refl _ _) _) _) hb1_)
        have HKx01_ := Aside0.mk (blk_below (blk_alloc (blk_new _ _) _) hb1_)
        obtain ⟨kx01a_, kx01b_, kx01c_, kx01d_⟩ := know HKx01_.out
        have HKx11_ := Aside0.mk (blk_below (blk_new2 _ _ _) hb1_)
        obtain ⟨kx11a_, kx11b_, kx11c_, kx11d_⟩ := know HKx11_.out
        clear hb1_
        go_wp2_with fail
        go_at_call_of 12 (Value.agg #[.string x0.f0, .int .i64 x0.f1, .slice A0 x0.f2.length c0])
        refine (HPC.out A0 c0 _ (Kd.C_below HR0.out (HB1_.out)) HC0.out).mono ?_
        rintro e w2_ ⟨rfl, hb2_⟩
        have HB2_ := Aside0.mk (below_step (HB1_.out) hb2_)
        have HKx02_ := Aside0.mk (blk_below (HKx01_.out) hb2_)
        obtain ⟨kx02a_, kx02b_, kx02c_, kx02d_⟩ := know HKx02_.out
        have HKx12_ := Aside0.mk (blk_below (HKx11_.out) hb2_)
        obtain ⟨kx12a_, kx12b_, kx12c_, kx12d_⟩ := know HKx12_.out
        clear kx01a_ kx01b_ kx01c_ kx01d_ kx11a_ kx11b_ kx11c_ kx11d_
        clear hb2_
        go_wp2_with fail
        go_at_call_of 13 (Value.agg #[.string x1.f0, .int .i64 x1.f1, .slice A1 x1.f2.length c1])
        refine (HQC.out A1 c1 _ (Kd.C_below HR1.out (HB2_.out)) HC1.out).mono ?_
        rintro e w3_ ⟨rfl, hb3_⟩
        have HB3_ := Aside0.mk (below_step (HB2_.out) hb3_)
        have HKx03_ := Aside0.mk (blk_below (HKx02_.out) hb3_)
        obtain ⟨kx03a_, kx03b_, kx03c_, kx03d_⟩ := know HKx03_.out
        have HKx13_ := Aside0.mk (blk_below (HKx12_.out) hb3_)
        obtain ⟨kx13a_, kx13b_, kx13c_, kx13d_⟩ := know HKx13_.out
        clear kx02a_ kx02b_ kx02c_ kx02d_ kx12a_ kx12b_ kx12c_ kx12d_
        clear hb3_
        go_wp2_with fail
        go_at_call 14
        refine (HRC.out A2 c2 _ (Kd.C_below HR2.out (HB3_.out)) HC2.out).mono ?_
        rintro e w4_ ⟨rfl, hb4_⟩
        have HB4_ := Aside0.mk (below_step (HB3_.out) hb4_)
        have HKx04_ := Aside0.mk (blk_below (HKx03_.out) hb4_)
        obtain ⟨kx04a_, kx04b_, kx04c_, kx04d_⟩ := know HKx04_.out
        have HKx14_ := Aside0.mk (blk_below (HKx13_.out) hb4_)
        obtain ⟨kx14a_, kx14b_, kx14c_, kx14d_⟩ := know HKx14_.out
        clear kx03a_ kx03b_ kx03c_ kx03d_ kx13a_ kx13b_ kx13c_ kx13d_
        clear hb4_
        go_wp2_with fail
        go_at_call 29
        refine (event_Valid.told x0 x1 A0 c0 A1 c1 _ (Kd.C_below HR0.out (HB4_.out)) HC0.out (Kd.C_below HR1.out (HB4_.out)) HC1.out HV1.out HVD.out).mono ?_
        rintro e w5_ ⟨rfl, hb5_⟩
        have HB5_ := Aside0.mk (below_step (HB4_.out) hb5_)
        have HKx05_ := Aside0.mk (blk_below (HKx04_.out) hb5_)
        obtain ⟨kx05a_, kx05b_, kx05c_, kx05d_⟩ := know HKx05_.out
        have HKx15_ := Aside0.mk (blk_below (HKx14_.out) hb5_)
        obtain ⟨kx15a_, kx15b_, kx15c_, kx15d_⟩ := know HKx15_.out
        clear kx04a_ kx04b_ kx04c_ kx04d_ kx14a_ kx14b_ kx14c_ kx14d_
        clear hb5_
        go_wp2_with fail
        go_at_call 15
        refine (kind_told x0 A0 c0 x2 A2 c2 _ (Kd.C_below HR0.out (HB5_.out)) HC0.out (Kd.C_below HR2.out (HB5_.out)) HC2.out HI2.out HKD.out).mono ?_
        rintro e w6_ ⟨rfl, hb6_⟩
        have HB6_ := Aside0.mk (below_step (HB5_.out) hb6_)
        have HKx06_ := Aside0.mk (blk_below (HKx05_.out) hb6_)
        obtain ⟨kx06a_, kx06b_, kx06c_, kx06d_⟩ := know HKx06_.out
        have HKx16_ := Aside0.mk (blk_below (HKx15_.out) hb6_)
        obtain ⟨kx16a_, kx16b_, kx16c_, kx16d_⟩ := know HKx16_.out
        clear kx05a_ kx05b_ kx05c_ kx05d_ kx15a_ kx15b_ kx15c_ kx15d_
        clear hb6_
        go_wp2_with fail
        go_at_call 17
        refine (eval_told x1 A1 c1 x2 A2 c2 _ (Kd.C_below HR1.out (HB6_.out)) HC1.out HV1.out (Kd.C_below HR2.out (HB6_.out)) HC2.out HI2.out HEV.out).mono ?_
        rintro e w7_ ⟨rfl, hb7_⟩
        have HB7_ := Aside0.mk (below_step (HB6_.out) hb7_)
        have HKx07_ := Aside0.mk (blk_below (HKx06_.out) hb7_)
        obtain ⟨kx07a_, kx07b_, kx07c_, kx07d_⟩ := know HKx07_.out
        have HKx17_ := Aside0.mk (blk_below (HKx16_.out) hb7_)
        obtain ⟨kx17a_, kx17b_, kx17c_, kx17d_⟩ := know HKx17_.out
        clear kx06a_ kx06b_ kx06c_ kx06d_ kx16a_ kx16b_ kx16c_ kx16d_
        clear hb7_
        obtain ⟨q1_, q2_, q3_, q4_⟩ := know (blk_new w7_ (.cells #[.int .i64 y.f0, .int .i64 y.f1, .string y.f2] 38))
        go_wp2_with fail
        go_ret
        exact ⟨by first | rfl | simp [*], below_alloc (HB7_.out) _⟩
      · have j2 : ((6 : Int) == f) = false := beq_eq_false_iff_ne.2 h2
        clear h2
        go_enter Try.func10, Try.ntmps10
        go_wp2_with fail
        go_at_call 11
        refine (awake8_told _).mono ?_
        rintro e w1_ ⟨rfl, hb1_⟩
        have HB1_ := Aside0.mk (below_step (below_alloc (below_alloc (Below.refl _ _) _) _) hb1_)
        have HKx01_ := Aside0.mk (blk_below (blk_alloc (blk_new _ _) _) hb1_)
        obtain ⟨kx01a_, kx01b_, kx01c_, kx01d_⟩ := know HKx01_.out
        have HKx11_ := Aside0.mk (blk_below (blk_new2 _ _ _) hb1_)
        obtain ⟨kx11a_, kx11b_, kx11c_, kx11d_⟩ := know HKx11_.out
        clear hb1_
        go_wp2_with fail
        go_at_call_of 12 (Value.agg #[.string x0.f0, .int .i64 x0.f1, .slice A0 x0.f2.length c0])
        refine (HPC.out A0 c0 _ (Kd.C_below HR0.out (HB1_.out)) HC0.out).mono ?_
        rintro e w2_ ⟨rfl, hb2_⟩
        have HB2_ := Aside0.mk (below_step (HB1_.out) hb2_)
        have HKx02_ := Aside0.mk (blk_below (HKx01_.out) hb2_)
        obtain ⟨kx02a_, kx02b_, kx02c_, kx02d_⟩ := know HKx02_.out
        have HKx12_ := Aside0.mk (blk_below (HKx11_.out) hb2_)
        obtain ⟨kx12a_, kx12b_, kx12c_, kx12d_⟩ := know HKx12_.out
        clear kx01a_ kx01b_ kx01c_ kx01d_ kx11a_ kx11b_ kx11c_ kx11d_
        clear hb2_
        go_wp2_with fail
        go_at_call_of 13 (Value.agg #[.string x1.f0, .int .i64 x1.f1, .slice A1 x1.f2.length c1])
        refine (HQC.out A1 c1 _ (Kd.C_below HR1.out (HB2_.out)) HC1.out).mono ?_
        rintro e w3_ ⟨rfl, hb3_⟩
        have HB3_ := Aside0.mk (below_step (HB2_.out) hb3_)
        have HKx03_ := Aside0.mk (blk_below (HKx02_.out) hb3_)
        obtain ⟨kx03a_, kx03b_, kx03c_, kx03d_⟩ := know HKx03_.out
        have HKx13_ := Aside0.mk (blk_below (HKx12_.out) hb3_)
        obtain ⟨kx13a_, kx13b_, kx13c_, kx13d_⟩ := know HKx13_.out
        clear kx02a_ kx02b_ kx02c_ kx02d_ kx12a_ kx12b_ kx12c_ kx12d_
        clear hb3_
        go_wp2_with fail
        go_at_call 14
        refine (HRC.out A2 c2 _ (Kd.C_below HR2.out (HB3_.out)) HC2.out).mono ?_
        rintro e w4_ ⟨rfl, hb4_⟩
        have HB4_ := Aside0.mk (below_step (HB3_.out) hb4_)
        have HKx04_ := Aside0.mk (blk_below (HKx03_.out) hb4_)
        obtain ⟨kx04a_, kx04b_, kx04c_, kx04d_⟩ := know HKx04_.out
        have HKx14_ := Aside0.mk (blk_below (HKx13_.out) hb4_)
        obtain ⟨kx14a_, kx14b_, kx14c_, kx14d_⟩ := know HKx14_.out
        clear kx03a_ kx03b_ kx03c_ kx03d_ kx13a_ kx13b_ kx13c_ kx13d_
        clear hb4_
        go_wp2_with fail
        go_at_call 29
        refine (event_Valid.told x0 x1 A0 c0 A1 c1 _ (Kd.C_below HR0.out (HB4_.out)) HC0.out (Kd.C_below HR1.out (HB4_.out)) HC1.out HV1.out HVD.out).mono ?_
        rintro e w5_ ⟨rfl, hb5_⟩
        have HB5_ := Aside0.mk (below_step (HB4_.out) hb5_)
        have HKx05_ := Aside0.mk (blk_below (HKx04_.out) hb5_)
        obtain ⟨kx05a_, kx05b_, kx05c_, kx05d_⟩ := know HKx05_.out
        have HKx15_ := Aside0.mk (blk_below (HKx14_.out) hb5_)
        obtain ⟨kx15a_, kx15b_, kx15c_, kx15d_⟩ := know HKx15_.out
        clear kx04a_ kx04b_ kx04c_ kx04d_ kx14a_ kx14b_ kx14c_ kx14d_
        clear hb5_
        go_wp2_with fail
        go_at_call 15
        refine (kind_told x0 A0 c0 x2 A2 c2 _ (Kd.C_below HR0.out (HB5_.out)) HC0.out (Kd.C_below HR2.out (HB5_.out)) HC2.out HI2.out HKD.out).mono ?_
        rintro e w6_ ⟨rfl, hb6_⟩
        have HB6_ := Aside0.mk (below_step (HB5_.out) hb6_)
        have HKx06_ := Aside0.mk (blk_below (HKx05_.out) hb6_)
        obtain ⟨kx06a_, kx06b_, kx06c_, kx06d_⟩ := know HKx06_.out
        have HKx16_ := Aside0.mk (blk_below (HKx15_.out) hb6_)
        obtain ⟨kx16a_, kx16b_, kx16c_, kx16d_⟩ := know HKx16_.out
        clear kx05a_ kx05b_ kx05c_ kx05d_ kx15a_ kx15b_ kx15c_ kx15d_
        clear hb6_
        go_wp2_with fail
        go_at_call 17
        refine (eval_told x1 A1 c1 x2 A2 c2 _ (Kd.C_below HR1.out (HB6_.out)) HC1.out HV1.out (Kd.C_below HR2.out (HB6_.out)) HC2.out HI2.out HEV.out).mono ?_
        rintro e w7_ ⟨rfl, hb7_⟩
        have HB7_ := Aside0.mk (below_step (HB6_.out) hb7_)
        have HKx07_ := Aside0.mk (blk_below (HKx06_.out) hb7_)
        obtain ⟨kx07a_, kx07b_, kx07c_, kx07d_⟩ := know HKx07_.out
        have HKx17_ := Aside0.mk (blk_below (HKx16_.out) hb7_)
        obtain ⟨kx17a_, kx17b_, kx17c_, kx17d_⟩ := know HKx17_.out
        clear kx06a_ kx06b_ kx06c_ kx06d_ kx16a_ kx16b_ kx16c_ kx16d_
        clear hb7_
        obtain ⟨q1_, q2_, q3_, q4_⟩ := know (blk_new w7_ (.cells #[.int .i64 y.f0, .int .i64 y.f1, .string y.f2] 38))
        go_wp2_with fail
        go_ret
        exact ⟨by first | rfl | simp [*], below_alloc (HB7_.out) _⟩
    · have heq : (y.f0 == 0 && (y.f1 == 0 && y.f2.toList.isEmpty)) = true := by rw [hy]; decide +kernel
      clear hy
      go_enter Try.func10, Try.ntmps10
      go_wp2_with fail
      go_at_call 11
      refine (awake8_told _).mono ?_
      rintro e w1_ ⟨rfl, hb1_⟩
      have HB1_ := Aside0.mk (below_step (below_alloc (below_alloc (Below.refl _ _) _) _) hb1_)
      have HKx01_ := Aside0.mk (blk_below (blk_alloc (blk_new _ _) _) hb1_)
      obtain ⟨kx01a_, kx01b_, kx01c_, kx01d_⟩ := know HKx01_.out
      have HKx11_ := Aside0.mk (blk_below (blk_new2 _ _ _) hb1_)
      obtain ⟨kx11a_, kx11b_, kx11c_, kx11d_⟩ := know HKx11_.out
      clear hb1_
      go_wp2_with fail
      go_at_call_of 12 (Value.agg #[.string x0.f0, .int .i64 x0.f1, .slice A0 x0.f2.length c0])
      refine (HPC.out A0 c0 _ (Kd.C_below HR0.out (HB1_.out)) HC0.out).mono ?_
      rintro e w2_ ⟨rfl, hb2_⟩
      have HB2_ := Aside0.mk (below_step (HB1_.out) hb2_)
      have HKx02_ := Aside0.mk (blk_below (HKx01_.out) hb2_)
      obtain ⟨kx02a_, kx02b_, kx02c_, kx02d_⟩ := know HKx02_.out
      have HKx12_ := Aside0.mk (blk_below (HKx11_.out) hb2_)
      obtain ⟨kx12a_, kx12b_, kx12c_, kx12d_⟩ := know HKx12_.out
      clear kx01a_ kx01b_ kx01c_ kx01d_ kx11a_ kx11b_ kx11c_ kx11d_
      clear hb2_
      go_wp2_with fail
      go_at_call_of 13 (Value.agg #[.string x1.f0, .int .i64 x1.f1, .slice A1 x1.f2.length c1])
      refine (HQC.out A1 c1 _ (Kd.C_below HR1.out (HB2_.out)) HC1.out).mono ?_
      rintro e w3_ ⟨rfl, hb3_⟩
      have HB3_ := Aside0.mk (below_step (HB2_.out) hb3_)
      have HKx03_ := Aside0.mk (blk_below (HKx02_.out) hb3_)
      obtain ⟨kx03a_, kx03b_, kx03c_, kx03d_⟩ := know HKx03_.out
      have HKx13_ := Aside0.mk (blk_below (HKx12_.out) hb3_)
      obtain ⟨kx13a_, kx13b_, kx13c_, kx13d_⟩ := know HKx13_.out
      clear kx02a_ kx02b_ kx02c_ kx02d_ kx12a_ kx12b_ kx12c_ kx12d_
      clear hb3_
      go_wp2_with fail
      go_at_call 14
      refine (HRC.out A2 c2 _ (Kd.C_below HR2.out (HB3_.out)) HC2.out).mono ?_
      rintro e w4_ ⟨rfl, hb4_⟩
      have HB4_ := Aside0.mk (below_step (HB3_.out) hb4_)
      have HKx04_ := Aside0.mk (blk_below (HKx03_.out) hb4_)
      obtain ⟨kx04a_, kx04b_, kx04c_, kx04d_⟩ := know HKx04_.out
      have HKx14_ := Aside0.mk (blk_below (HKx13_.out) hb4_)
      obtain ⟨kx14a_, kx14b_, kx14c_, kx14d_⟩ := know HKx14_.out
      clear kx03a_ kx03b_ kx03c_ kx03d_ kx13a_ kx13b_ kx13c_ kx13d_
      clear hb4_
      go_wp2_with fail
      go_at_call 29
      refine (event_Valid.told x0 x1 A0 c0 A1 c1 _ (Kd.C_below HR0.out (HB4_.out)) HC0.out (Kd.C_below HR1.out (HB4_.out)) HC1.out HV1.out HVD.out).mono ?_
      rintro e w5_ ⟨rfl, hb5_⟩
      have HB5_ := Aside0.mk (below_step (HB4_.out) hb5_)
      have HKx05_ := Aside0.mk (blk_below (HKx04_.out) hb5_)
      obtain ⟨kx05a_, kx05b_, kx05c_, kx05d_⟩ := know HKx05_.out
      have HKx15_ := Aside0.mk (blk_below (HKx14_.out) hb5_)
      obtain ⟨kx15a_, kx15b_, kx15c_, kx15d_⟩ := know HKx15_.out
      clear kx04a_ kx04b_ kx04c_ kx04d_ kx14a_ kx14b_ kx14c_ kx14d_
      clear hb5_
      go_wp2_with fail
      go_at_call 15
      refine (kind_told x0 A0 c0 x2 A2 c2 _ (Kd.C_below HR0.out (HB5_.out)) HC0.out (Kd.C_below HR2.out (HB5_.out)) HC2.out HI2.out HKD.out).mono ?_
      rintro e w6_ ⟨rfl, hb6_⟩
      have HB6_ := Aside0.mk (below_step (HB5_.out) hb6_)
      have HKx06_ := Aside0.mk (blk_below (HKx05_.out) hb6_)
      obtain ⟨kx06a_, kx06b_, kx06c_, kx06d_⟩ := know HKx06_.out
      have HKx16_ := Aside0.mk (blk_below (HKx15_.out) hb6_)
      obtain ⟨kx16a_, kx16b_, kx16c_, kx16d_⟩ := know HKx16_.out
      clear kx05a_ kx05b_ kx05c_ kx05d_ kx15a_ kx15b_ kx15c_ kx15d_
      clear hb6_
      go_wp2_with fail
      go_at_call 17
      refine (eval_told x1 A1 c1 x2 A2 c2 _ (Kd.C_below HR1.out (HB6_.out)) HC1.out HV1.out (Kd.C_below HR2.out (HB6_.out)) HC2.out HI2.out HEV.out).mono ?_
      rintro e w7_ ⟨rfl, hb7_⟩
      have HB7_ := Aside0.mk (below_step (HB6_.out) hb7_)
      have HKx07_ := Aside0.mk (blk_below (HKx06_.out) hb7_)
      obtain ⟨kx07a_, kx07b_, kx07c_, kx07d_⟩ := know HKx07_.out
      have HKx17_ := Aside0.mk (blk_below (HKx16_.out) hb7_)
      obtain ⟨kx17a_, kx17b_, kx17c_, kx17d_⟩ := know HKx17_.out
      clear kx06a_ kx06b_ kx06c_ kx06d_ kx16a_ kx16b_ kx16c_ kx16d_
      clear hb7_
      obtain ⟨q1_, q2_, q3_, q4_⟩ := know (blk_new w7_ (.cells #[.int .i64 y.f0, .int .i64 y.f1, .string y.f2] 38))
      go_wp2_with fail
      go_ret
      exact ⟨by first | rfl | simp [*], below_alloc (HB7_.out) _⟩
    · have heq : (y.f0 == k) = true := beq_iff_eq.2 hy
      clear hy
      go_enter Try.func10, Try.ntmps10
      go_wp2_with fail
      go_at_call 11
      refine (awake8_told _).mono ?_
      rintro e w1_ ⟨rfl, hb1_⟩
      have HB1_ := Aside0.mk (below_step (below_alloc (below_alloc (Below.refl _ _) _) _) hb1_)
      have HKx01_ := Aside0.mk (blk_below (blk_alloc (blk_new _ _) _) hb1_)
      obtain ⟨kx01a_, kx01b_, kx01c_, kx01d_⟩ := know HKx01_.out
      have HKx11_ := Aside0.mk (blk_below (blk_new2 _ _ _) hb1_)
      obtain ⟨kx11a_, kx11b_, kx11c_, kx11d_⟩ := know HKx11_.out
      clear hb1_
      go_wp2_with fail
      go_at_call_of 12 (Value.agg #[.string x0.f0, .int .i64 x0.f1, .slice A0 x0.f2.length c0])
      refine (HPC.out A0 c0 _ (Kd.C_below HR0.out (HB1_.out)) HC0.out).mono ?_
      rintro e w2_ ⟨rfl, hb2_⟩
      have HB2_ := Aside0.mk (below_step (HB1_.out) hb2_)
      have HKx02_ := Aside0.mk (blk_below (HKx01_.out) hb2_)
      obtain ⟨kx02a_, kx02b_, kx02c_, kx02d_⟩ := know HKx02_.out
      have HKx12_ := Aside0.mk (blk_below (HKx11_.out) hb2_)
      obtain ⟨kx12a_, kx12b_, kx12c_, kx12d_⟩ := know HKx12_.out
      clear kx01a_ kx01b_ kx01c_ kx01d_ kx11a_ kx11b_ kx11c_ kx11d_
      clear hb2_
      go_wp2_with fail
      go_at_call_of 13 (Value.agg #[.string x1.f0, .int .i64 x1.f1, .slice A1 x1.f2.length c1])
      refine (HQC.out A1 c1 _ (Kd.C_below HR1.out (HB2_.out)) HC1.out).mono ?_
      rintro e w3_ ⟨rfl, hb3_⟩
      have HB3_ := Aside0.mk (below_step (HB2_.out) hb3_)
      have HKx03_ := Aside0.mk (blk_below (HKx02_.out) hb3_)
      obtain ⟨kx03a_, kx03b_, kx03c_, kx03d_⟩ := know HKx03_.out
      have HKx13_ := Aside0.mk (blk_below (HKx12_.out) hb3_)
      obtain ⟨kx13a_, kx13b_, kx13c_, kx13d_⟩ := know HKx13_.out
      clear kx02a_ kx02b_ kx02c_ kx02d_ kx12a_ kx12b_ kx12c_ kx12d_
      clear hb3_
      go_wp2_with fail
      go_at_call 14
      refine (HRC.out A2 c2 _ (Kd.C_below HR2.out (HB3_.out)) HC2.out).mono ?_
      rintro e w4_ ⟨rfl, hb4_⟩
      have HB4_ := Aside0.mk (below_step (HB3_.out) hb4_)
      have HKx04_ := Aside0.mk (blk_below (HKx03_.out) hb4_)
      obtain ⟨kx04a_, kx04b_, kx04c_, kx04d_⟩ := know HKx04_.out
      have HKx14_ := Aside0.mk (blk_below (HKx13_.out) hb4_)
      obtain ⟨kx14a_, kx14b_, kx14c_, kx14d_⟩ := know HKx14_.out
      clear kx03a_ kx03b_ kx03c_ kx03d_ kx13a_ kx13b_ kx13c_ kx13d_
      clear hb4_
      go_wp2_with fail
      go_at_call 29
      refine (event_Valid.told x0 x1 A0 c0 A1 c1 _ (Kd.C_below HR0.out (HB4_.out)) HC0.out (Kd.C_below HR1.out (HB4_.out)) HC1.out HV1.out HVD.out).mono ?_
      rintro e w5_ ⟨rfl, hb5_⟩
      have HB5_ := Aside0.mk (below_step (HB4_.out) hb5_)
      have HKx05_ := Aside0.mk (blk_below (HKx04_.out) hb5_)
      obtain ⟨kx05a_, kx05b_, kx05c_, kx05d_⟩ := know HKx05_.out
      have HKx15_ := Aside0.mk (blk_below (HKx14_.out) hb5_)
      obtain ⟨kx15a_, kx15b_, kx15c_, kx15d_⟩ := know HKx15_.out
      clear kx04a_ kx04b_ kx04c_ kx04d_ kx14a_ kx14b_ kx14c_ kx14d_
      clear hb5_
      go_wp2_with fail
      go_at_call 15
      refine (kind_told x0 A0 c0 x2 A2 c2 _ (Kd.C_below HR0.out (HB5_.out)) HC0.out (Kd.C_below HR2.out (HB5_.out)) HC2.out HI2.out HKD.out).mono ?_
      rintro e w6_ ⟨rfl, hb6_⟩
      have HB6_ := Aside0.mk (below_step (HB5_.out) hb6_)
      have HKx06_ := Aside0.mk (blk_below (HKx05_.out) hb6_)
      obtain ⟨kx06a_, kx06b_, kx06c_, kx06d_⟩ := know HKx06_.out
      have HKx16_ := Aside0.mk (blk_below (HKx15_.out) hb6_)
      obtain ⟨kx16a_, kx16b_, kx16c_, kx16d_⟩ := know HKx16_.out
      clear kx05a_ kx05b_ kx05c_ kx05d_ kx15a_ kx15b_ kx15c_ kx15d_
      clear hb6_
      go_wp2_with fail
      go_at_call 17
      refine (eval_told x1 A1 c1 x2 A2 c2 _ (Kd.C_below HR1.out (HB6_.out)) HC1.out HV1.out (Kd.C_below HR2.out (HB6_.out)) HC2.out HI2.out HEV.out).mono ?_
      rintro e w7_ ⟨rfl, hb7_⟩
      have HB7_ := Aside0.mk (below_step (HB6_.out) hb7_)
      have HKx07_ := Aside0.mk (blk_below (HKx06_.out) hb7_)
      obtain ⟨kx07a_, kx07b_, kx07c_, kx07d_⟩ := know HKx07_.out
      have HKx17_ := Aside0.mk (blk_below (HKx16_.out) hb7_)
      obtain ⟨kx17a_, kx17b_, kx17c_, kx17d_⟩ := know HKx17_.out
      clear kx06a_ kx06b_ kx06c_ kx06d_ kx16a_ kx16b_ kx16c_ kx16d_
      clear hb7_
      obtain ⟨q1_, q2_, q3_, q4_⟩ := know (blk_new w7_ (.cells #[.int .i64 y.f0, .int .i64 y.f1, .string y.f2] 38))
      go_wp2_with fail
      go_ret
      exact ⟨by first | rfl | simp [*], below_alloc (HB7_.out) _⟩
  · have HNO := Aside0.mk hgo
    clear hgo hvd
    by_cases hall : p = true ∧ q = true ∧ r = true
    · obtain ⟨rfl, rfl, rfl⟩ := hall
      have hv0 : (vd == 0) = false := by
        rw [beq_eq_false_iff_ne]
        exact fun h => HNO.out ⟨rfl, rfl, rfl, h⟩
      have hv1 : (vd != 0) = true := by rw [bne, hv0]; rfl
      go_enter Try.func10, Try.ntmps10
      go_wp2_with fail
      go_at_call 11
      refine (awake8_told _).mono ?_
      rintro e w1_ ⟨rfl, hb1_⟩
      have HB1_ := Aside0.mk (below_step (below_alloc (below_alloc (Below.refl _ _) _) _) hb1_)
      have HKx01_ := Aside0.mk (blk_below (blk_alloc (blk_new _ _) _) hb1_)
      obtain ⟨kx01a_, kx01b_, kx01c_, kx01d_⟩ := know HKx01_.out
      have HKx11_ := Aside0.mk (blk_below (blk_new2 _ _ _) hb1_)
      obtain ⟨kx11a_, kx11b_, kx11c_, kx11d_⟩ := know HKx11_.out
      clear hb1_
      go_wp2_with fail
      go_at_call_of 12 (Value.agg #[.string x0.f0, .int .i64 x0.f1, .slice A0 x0.f2.length c0])
      refine (HPC.out A0 c0 _ (Kd.C_below HR0.out (HB1_.out)) HC0.out).mono ?_
      rintro e w2_ ⟨rfl, hb2_⟩
      have HB2_ := Aside0.mk (below_step (HB1_.out) hb2_)
      have HKx02_ := Aside0.mk (blk_below (HKx01_.out) hb2_)
      obtain ⟨kx02a_, kx02b_, kx02c_, kx02d_⟩ := know HKx02_.out
      have HKx12_ := Aside0.mk (blk_below (HKx11_.out) hb2_)
      obtain ⟨kx12a_, kx12b_, kx12c_, kx12d_⟩ := know HKx12_.out
      clear kx01a_ kx01b_ kx01c_ kx01d_ kx11a_ kx11b_ kx11c_ kx11d_
      clear hb2_
      go_wp2_with fail
      go_at_call_of 13 (Value.agg #[.string x1.f0, .int .i64 x1.f1, .slice A1 x1.f2.length c1])
      refine (HQC.out A1 c1 _ (Kd.C_below HR1.out (HB2_.out)) HC1.out).mono ?_
      rintro e w3_ ⟨rfl, hb3_⟩
      have HB3_ := Aside0.mk (below_step (HB2_.out) hb3_)
      have HKx03_ := Aside0.mk (blk_below (HKx02_.out) hb3_)
      obtain ⟨kx03a_, kx03b_, kx03c_, kx03d_⟩ := know HKx03_.out
      have HKx13_ := Aside0.mk (blk_below (HKx12_.out) hb3_)
      obtain ⟨kx13a_, kx13b_, kx13c_, kx13d_⟩ := know HKx13_.out
      clear kx02a_ kx02b_ kx02c_ kx02d_ kx12a_ kx12b_ kx12c_ kx12d_
      clear hb3_
      go_wp2_with fail
      go_at_call 14
      refine (HRC.out A2 c2 _ (Kd.C_below HR2.out (HB3_.out)) HC2.out).mono ?_
      rintro e w4_ ⟨rfl, hb4_⟩
      have HB4_ := Aside0.mk (below_step (HB3_.out) hb4_)
      have HKx04_ := Aside0.mk (blk_below (HKx03_.out) hb4_)
      obtain ⟨kx04a_, kx04b_, kx04c_, kx04d_⟩ := know HKx04_.out
      have HKx14_ := Aside0.mk (blk_below (HKx13_.out) hb4_)
      obtain ⟨kx14a_, kx14b_, kx14c_, kx14d_⟩ := know HKx14_.out
      clear kx03a_ kx03b_ kx03c_ kx03d_ kx13a_ kx13b_ kx13c_ kx13d_
      clear hb4_
      go_wp2_with fail
      go_at_call 29
      refine (event_Valid.told x0 x1 A0 c0 A1 c1 _ (Kd.C_below HR0.out (HB4_.out)) HC0.out (Kd.C_below HR1.out (HB4_.out)) HC1.out HV1.out HVD.out).mono ?_
      rintro e w5_ ⟨rfl, hb5_⟩
      have HB5_ := Aside0.mk (below_step (HB4_.out) hb5_)
      have HKx05_ := Aside0.mk (blk_below (HKx04_.out) hb5_)
      obtain ⟨kx05a_, kx05b_, kx05c_, kx05d_⟩ := know HKx05_.out
      have HKx15_ := Aside0.mk (blk_below (HKx14_.out) hb5_)
      obtain ⟨kx15a_, kx15b_, kx15c_, kx15d_⟩ := know HKx15_.out
      clear kx04a_ kx04b_ kx04c_ kx04d_ kx14a_ kx14b_ kx14c_ kx14d_
      clear hb5_
      go_wp2_with fail
      go_ret
      exact ⟨rfl, HB5_.out⟩
    · have HNA := Aside0.mk hall
      clear hall
      cases p <;> cases q <;> cases r
      all_goals first
        | (exfalso; exact HNA.out ⟨rfl, rfl, rfl⟩)
        | skip
      all_goals
      go_enter Try.func10, Try.ntmps10
      go_wp2_with fail
      go_at_call 11
      refine (awake8_told _).mono ?_
      rintro e w1_ ⟨rfl, hb1_⟩
      have HB1_ := Aside0.mk (below_step (below_alloc (below_alloc (Below.refl _ _) _) _) hb1_)
      have HKx01_ := Aside0.mk (blk_below (blk_alloc (blk_new _ _) _) hb1_)
      obtain ⟨kx01a_, kx01b_, kx01c_, kx01d_⟩ := know HKx01_.out
      have HKx11_ := Aside0.mk (blk_below (blk_new2 _ _ _) hb1_)
      obtain ⟨kx11a_, kx11b_, kx11c_, kx11d_⟩ := know HKx11_.out
      clear hb1_
      go_wp2_with fail
      go_at_call_of 12 (Value.agg #[.string x0.f0, .int .i64 x0.f1, .slice A0 x0.f2.length c0])
      refine (HPC.out A0 c0 _ (Kd.C_below HR0.out (HB1_.out)) HC0.out).mono ?_
      rintro e w2_ ⟨rfl, hb2_⟩
      have HB2_ := Aside0.mk (below_step (HB1_.out) hb2_)
      have HKx02_ := Aside0.mk (blk_below (HKx01_.out) hb2_)
      obtain ⟨kx02a_, kx02b_, kx02c_, kx02d_⟩ := know HKx02_.out
      have HKx12_ := Aside0.mk (blk_below (HKx11_.out) hb2_)
      obtain ⟨kx12a_, kx12b_, kx12c_, kx12d_⟩ := know HKx12_.out
      clear kx01a_ kx01b_ kx01c_ kx01d_ kx11a_ kx11b_ kx11c_ kx11d_
      clear hb2_
      go_wp2_with fail
      go_at_call_of 13 (Value.agg #[.string x1.f0, .int .i64 x1.f1, .slice A1 x1.f2.length c1])
      refine (HQC.out A1 c1 _ (Kd.C_below HR1.out (HB2_.out)) HC1.out).mono ?_
      rintro e w3_ ⟨rfl, hb3_⟩
      have HB3_ := Aside0.mk (below_step (HB2_.out) hb3_)
      have HKx03_ := Aside0.mk (blk_below (HKx02_.out) hb3_)
      obtain ⟨kx03a_, kx03b_, kx03c_, kx03d_⟩ := know HKx03_.out
      have HKx13_ := Aside0.mk (blk_below (HKx12_.out) hb3_)
      obtain ⟨kx13a_, kx13b_, kx13c_, kx13d_⟩ := know HKx13_.out
      clear kx02a_ kx02b_ kx02c_ kx02d_ kx12a_ kx12b_ kx12c_ kx12d_
      clear hb3_
      go_wp2_with fail
      go_at_call 14
      refine (HRC.out A2 c2 _ (Kd.C_below HR2.out (HB3_.out)) HC2.out).mono ?_
      rintro e w4_ ⟨rfl, hb4_⟩
      have HB4_ := Aside0.mk (below_step (HB3_.out) hb4_)
      have HKx04_ := Aside0.mk (blk_below (HKx03_.out) hb4_)
      obtain ⟨kx04a_, kx04b_, kx04c_, kx04d_⟩ := know HKx04_.out
      have HKx14_ := Aside0.mk (blk_below (HKx13_.out) hb4_)
      obtain ⟨kx14a_, kx14b_, kx14c_, kx14d_⟩ := know HKx14_.out
      clear kx03a_ kx03b_ kx03c_ kx03d_ kx13a_ kx13b_ kx13c_ kx13d_
      clear hb4_
      go_wp2_with fail
      go_ret
      exact ⟨rfl, HB4_.out⟩
end Go.Proofs.Ytncllbokeofdjaa.P
