/- The functions that the laws of this seat reach, as plain Lean functions, and for each the contract of its call: no condition but those that each theorem names. -/
import Derived.Test.YtbgdamlidohfhaaProg
import Derived.Test.YtbgdamlidohfhaaB
import Derived.Below
import Derived.Deep.Draws
import Derived.Deep.AppendLies
import Derived.Maps.AppendAt
import Derived.OwnWalk
import Derived.Laws.BytesArg
import Derived.Laws.MakeOwn
import Derived.Laws.OwnMore
import Derived.Deep.OwnRows
import Derived.Tactics
import Derived.Lib.ConvBytes
import Derived.Laws.Slices
import Derived.WalkKit
import Derived.KernelRfl
import Derived.RowKit3
import Derived.Deep.LoopGhost
import Derived.Deep.QuietTactic
import Derived.BigQuiet
import Derived.WideLaws
import Derived.Deep.DeepCutAuto
import Derived.Deep.CutBlock
import Derived.Deep.RegionHeld3
import Derived.Laws.Rows
import Derived.Lib.AppendStr
import Derived.ArgAppend
import Derived.Laws.IdiomCopy
import Derived.OrdersHeld
import Derived.Laws.BitsLemmas
import Derived.RowKit
import Derived.Shelf.Abstract
import Derived.Laws.Cells
import Derived.Laws.EntriesVeiled
import Derived.Test.YtbgdamlidohfhaaWWords
import Derived.Test.YtbgdamlidohfhaaWLast
import Derived.Test.YtbgdamlidohfhaaWTab
import Derived.Test.YtbgdamlidohfhaaWFour
import Derived.Test.YtbgdamlidohfhaaWQPut
import Derived.Test.YtbgdamlidohfhaaWApart
import Derived.Test.YtbgdamlidohfhaaWArr
import Derived.Test.YtbgdamlidohfhaaWZeros
import Derived.Test.YtbgdamlidohfhaaWFoot
import Derived.Test.YtbgdamlidohfhaaWKept
import Derived.Test.YtbgdamlidohfhaaWShare
import Derived.Test.YtbgdamlidohfhaaWN
import Derived.Test.YtbgdamlidohfhaaWFootNe
import Derived.Test.YtbgdamlidohfhaaWAt
import Derived.Test.YtbgdamlidohfhaaWEqStruct
import Derived.Test.YtbgdamlidohfhaaWRepsOne
import Derived.Test.YtbgdamlidohfhaaWInv
import Derived.Test.YtbgdamlidohfhaaWInvWords
import Derived.Test.YtbgdamlidohfhaaWGuard
import Derived.Test.YtbgdamlidohfhaaWNEv
import Derived.Test.YtbgdamlidohfhaaWMore
namespace Go.Proofs.Ytbgdamlidohfhaa.P
open Go.RowKit Go.Proofs.YtbgdamlidohfhaaW.PrintWords Go.Proofs.YtbgdamlidohfhaaW.PrintLast Go.Proofs.YtbgdamlidohfhaaW.PrintMore
attribute [local go_sem] max2_int min2_int max_two min_two max_three min_three max_four min_four   -- for this text's walks alone
set_option linter.unusedVariables false
set_option linter.unusedSimpArgs false



def errW : Option Int → Value
  | none => .nilIface
  | some c => .iface 0 (.int .i64 c)
theorem errW_none : errW none = .nilIface := rfl
theorem errW_some (c : Int) : errW (some c) = .iface 0 (.int .i64 c) := rfl

theorem info5 : (Try.prog.info? 5).map (fun i => (i.zero, i.size, i.bytes)) = some (some (.int .u8 0), 1, 1) := by kernel_rfl
theorem infoSchema : (Try.prog.info? 25).map (fun i => (i.zero, i.size, i.bytes)) = some (some (.agg #[(.string ⟨#[]⟩), (.int .i64 0), (.slice none 0 0)]), 3, 48) := by kernel_rfl
theorem infoField : (Try.prog.info? 39).map (fun i => (i.zero, i.size, i.bytes)) = some (some (.agg #[(.string ⟨#[]⟩), (.int .i64 0)]), 2, 24) := by kernel_rfl
-- the values' own types
/-! #### struct type 39 -/
structure SField where
  f0 : ByteArray
  f1 : Int
def zField : SField := ⟨(⟨#[]⟩ : ByteArray), (0 : Int)⟩
def kField : Kd SField := Kd.iso (Kd.pair Kd.string (Kd.int .i64)) (fun x : SField => (x.f0, x.f1))
theorem kField_heap : Kd.Heap kField := Kd.heap_iso _ (Kd.heap_pair Kd.heap_string (Kd.heap_int .i64))
theorem kField_open {w : World} {x : SField} {cs : List Value} (h : kField.K w x cs) : cs = [.string x.f0, .int .i64 x.f1] := by
  obtain ⟨_, _, rfl, rfl, rfl⟩ := h
  exact rfl
theorem kField_openM {w : World} {base : Nat} {ok : Nat → Prop} {x : SField} {cs : List Value} (h : kField.M w base ok x cs) : cs = [.string x.f0, .int .i64 x.f1] := by
  obtain ⟨_, _, rfl, rfl, rfl⟩ := h
  exact rfl
theorem kField_mk (w : World) (x : SField)  : kField.K w x [.string x.f0, .int .i64 x.f1] := ⟨[.string x.f0], [.int .i64 x.f1], rfl, rfl, rfl⟩
theorem kField_mkM (w : World) (base : Nat) (ok : Nat → Prop) (x : SField)  : kField.M w base ok x [.string x.f0, .int .i64 x.f1] := ⟨[.string x.f0], [.int .i64 x.f1], rfl, rfl, rfl⟩
theorem kField_mkF (W : World) (ok : Nat → Prop) (x : SField) : Kd.FK kField W ok x [.string x.f0, .int .i64 x.f1] := fun W2 _ => kField_mk W2 x
def rd_TField (xs : List SField) (i : Int) : SField := xs.getD i.toNat zField
theorem at_TField {w : World} {A : Option Addr} {n : Nat} {xs : List SField} (h : Kd.C kField w A n xs) (i : Int) (h0 : 0 ≤ i) (h1 : i < n) : ∃ ad , A = some ad ∧ w.cell? (ad.add (i.toNat * 2)) = some (.string (rd_TField xs i).f0) ∧ w.cell? ⟨(ad.add (i.toNat * 2)).block, (ad.add (i.toNat * 2)).off + 1, none⟩ = some (.int .i64 (rd_TField xs i).f1) := by
  obtain ⟨ad, c, e, _, hK, hc0⟩ := Kd.C_get h zField i h0 h1
  have hc : ∀ j u, c[j]? = some u → w.cell? (ad.add (i.toNat * 2 + j)) = some u := hc0
  obtain rfl := kField_open hK
  exact ⟨ad, e, hc 0 _ rfl, by rw [← add_field _ _ 1 (by omega)]; exact hc 1 _ rfl⟩

def rd_L4 (xs : List (List SField)) (i : Int) : (List SField) := xs.getD i.toNat ([] : List SField)
theorem at_L4 {w : World} {A : Option Addr} {n : Nat} {xs : List (List SField)} (h : Kd.C (Kd.slice 39 kField) w A n xs) (i : Int) (h0 : 0 ≤ i) (h1 : i < n) : ∃ ad A0 c0, A = some ad ∧ w.cell? (ad.add i.toNat) = some (.slice A0 (rd_L4 xs i).length c0) ∧ (rd_L4 xs i).length ≤ c0 ∧ kField.C w A0 (rd_L4 xs i).length (rd_L4 xs i) := by
  obtain ⟨ad, c, e, _, hK, hc0⟩ := Kd.C_get h ([] : List SField) i h0 h1
  have hc : ∀ j u, c[j]? = some u → w.cell? (ad.add (i.toNat * 1 + j)) = some u := hc0
  obtain ⟨A0, c0, rfl, l0, g0⟩ := hK
  exact ⟨ad, A0, c0, e, by have hq := hc 0 _ rfl; rwa [Nat.mul_one, Nat.add_zero] at hq, l0, g0⟩

/-! #### struct type 25 -/
structure SSchema where
  f0 : ByteArray
  f1 : Int
  f2 : (List SField)
def zSchema : SSchema := ⟨(⟨#[]⟩ : ByteArray), (0 : Int), ([] : List SField)⟩
def kSchema : Kd SSchema := Kd.iso (Kd.pair Kd.string (Kd.pair (Kd.int .i64) (Kd.slice 39 kField))) (fun x : SSchema => (x.f0, x.f1, x.f2))
theorem kSchema_heap : Kd.Heap kSchema := Kd.heap_iso _ (Kd.heap_pair Kd.heap_string (Kd.heap_pair (Kd.heap_int .i64) (Kd.heap_slice 39 kField_heap)))
theorem kSchema_open {w : World} {x : SSchema} {cs : List Value} (h : kSchema.K w x cs) : ∃ A2 c2, cs = [.string x.f0, .int .i64 x.f1, .slice A2 x.f2.length c2] ∧ x.f2.length ≤ c2 ∧ kField.C w A2 x.f2.length x.f2 := by
  obtain ⟨_, _, rfl, rfl, ⟨_, _, rfl, rfl, ⟨A2, c2, rfl, l2, g2⟩⟩⟩ := h
  exact ⟨A2, c2, rfl, l2, g2⟩
theorem kSchema_openM {w : World} {base : Nat} {ok : Nat → Prop} {x : SSchema} {cs : List Value} (h : kSchema.M w base ok x cs) : ∃ v2, cs = [.string x.f0, .int .i64 x.f1, v2] ∧ kField.R 39 w base ok v2 x.f2 := by
  obtain ⟨_, _, rfl, rfl, ⟨_, _, rfl, rfl, ⟨v2, rfl, g2⟩⟩⟩ := h
  exact ⟨v2, rfl, g2⟩
theorem kSchema_mk (w : World) (x : SSchema) {A2 : Option Addr} {c2 : Nat} (l2 : x.f2.length ≤ c2) (g2 : kField.C w A2 x.f2.length x.f2) : kSchema.K w x [.string x.f0, .int .i64 x.f1, .slice A2 x.f2.length c2] := ⟨[.string x.f0], [.int .i64 x.f1, .slice A2 x.f2.length c2], rfl, rfl, ⟨[.int .i64 x.f1], [.slice A2 x.f2.length c2], rfl, rfl, ⟨A2, c2, rfl, l2, g2⟩⟩⟩
theorem kSchema_mkM (w : World) (base : Nat) (ok : Nat → Prop) (x : SSchema) {v2 : Value} (g2 : kField.R 39 w base ok v2 x.f2) : kSchema.M w base ok x [.string x.f0, .int .i64 x.f1, v2] := ⟨[.string x.f0], [.int .i64 x.f1, v2], rfl, rfl, ⟨[.int .i64 x.f1], [v2], rfl, rfl, ⟨v2, rfl, g2⟩⟩⟩
theorem kSchema_openF {W : World} {ok : Nat → Prop} {x : SSchema} {cs : List Value} (h : Kd.FK kSchema W ok x cs) : ∃ A2 c2, cs = [.string x.f0, .int .i64 x.f1, .slice A2 x.f2.length c2] ∧ x.f2.length ≤ c2 ∧ Kd.F kField W ok A2 x.f2.length x.f2 := by
  obtain ⟨A2, c2, rfl, l2, _⟩ := kSchema_open (Kd.FK_now h)
  exact ⟨A2, c2, rfl, l2, (fun W' hW => by obtain ⟨A2_, c2_, he, l2_, g2_⟩ := kSchema_open (h W' hW); injection (Option.some.inj (show some (Value.slice A2 x.f2.length c2) = some (Value.slice A2_ x.f2.length c2_) from congrArg (fun l => l[2]?) he)) with ha_ _ _; rw [ha_]; exact g2_)⟩
theorem kSchema_mkF (W : World) (ok : Nat → Prop) (x : SSchema) {A2 : Option Addr} {c2 : Nat} (l2 : x.f2.length ≤ c2) (g2 : Kd.F kField W ok A2 x.f2.length x.f2) : Kd.FK kSchema W ok x [.string x.f0, .int .i64 x.f1, .slice A2 x.f2.length c2] := fun W2 hW => kSchema_mk W2 x l2 (g2 W2 hW)
def rd_TSchema (xs : List SSchema) (i : Int) : SSchema := xs.getD i.toNat zSchema
theorem at_TSchema {w : World} {A : Option Addr} {n : Nat} {xs : List SSchema} (h : Kd.C kSchema w A n xs) (i : Int) (h0 : 0 ≤ i) (h1 : i < n) : ∃ ad A2 c2, A = some ad ∧ w.cell? (ad.add (i.toNat * 3)) = some (.string (rd_TSchema xs i).f0) ∧ w.cell? ⟨(ad.add (i.toNat * 3)).block, (ad.add (i.toNat * 3)).off + 1, none⟩ = some (.int .i64 (rd_TSchema xs i).f1) ∧ w.cell? ⟨(ad.add (i.toNat * 3)).block, (ad.add (i.toNat * 3)).off + 2, none⟩ = some (.slice A2 (rd_TSchema xs i).f2.length c2) ∧ (rd_TSchema xs i).f2.length ≤ c2 ∧ kField.C w A2 (rd_TSchema xs i).f2.length (rd_TSchema xs i).f2 := by
  obtain ⟨ad, c, e, _, hK, hc0⟩ := Kd.C_get h zSchema i h0 h1
  have hc : ∀ j u, c[j]? = some u → w.cell? (ad.add (i.toNat * 3 + j)) = some u := hc0
  obtain ⟨A2, c2, rfl, l2, g2⟩ := kSchema_open hK
  exact ⟨ad, A2, c2, e, hc 0 _ rfl, by rw [← add_field _ _ 1 (by omega)]; exact hc 1 _ rfl, by rw [← add_field _ _ 2 (by omega)]; exact hc 2 _ rfl, l2, g2⟩

def rd_L6 (xs : List (List SSchema)) (i : Int) : (List SSchema) := xs.getD i.toNat ([] : List SSchema)
theorem at_L6 {w : World} {A : Option Addr} {n : Nat} {xs : List (List SSchema)} (h : Kd.C (Kd.slice 25 kSchema) w A n xs) (i : Int) (h0 : 0 ≤ i) (h1 : i < n) : ∃ ad A0 c0, A = some ad ∧ w.cell? (ad.add i.toNat) = some (.slice A0 (rd_L6 xs i).length c0) ∧ (rd_L6 xs i).length ≤ c0 ∧ kSchema.C w A0 (rd_L6 xs i).length (rd_L6 xs i) := by
  obtain ⟨ad, c, e, _, hK, hc0⟩ := Kd.C_get h ([] : List SSchema) i h0 h1
  have hc : ∀ j u, c[j]? = some u → w.cell? (ad.add (i.toNat * 1 + j)) = some u := hc0
  obtain ⟨A0, c0, rfl, l0, g0⟩ := hK
  exact ⟨ad, A0, c0, e, by have hq := hc 0 _ rfl; rwa [Nat.mul_one, Nat.add_zero] at hq, l0, g0⟩

def rd_L8 (xs : List (List Int)) (i : Int) : (List Int) := xs.getD i.toNat ([] : List Int)
theorem at_L8 {w : World} {A : Option Addr} {n : Nat} {xs : List (List Int)} (h : Kd.C (Kd.slice 5 (Kd.int .u8)) w A n xs) (i : Int) (h0 : 0 ≤ i) (h1 : i < n) : ∃ ad A0 c0, A = some ad ∧ w.cell? (ad.add i.toNat) = some (.slice A0 (rd_L8 xs i).length c0) ∧ (rd_L8 xs i).length ≤ c0 ∧ (Kd.int .u8).C w A0 (rd_L8 xs i).length (rd_L8 xs i) := by
  obtain ⟨ad, c, e, _, hK, hc0⟩ := Kd.C_get h ([] : List Int) i h0 h1
  have hc : ∀ j u, c[j]? = some u → w.cell? (ad.add (i.toNat * 1 + j)) = some u := hc0
  obtain ⟨A0, c0, rfl, l0, g0⟩ := hK
  exact ⟨ad, A0, c0, e, by have hq := hc 0 _ rfl; rwa [Nat.mul_one, Nat.add_zero] at hq, l0, g0⟩

end Go.Proofs.Ytbgdamlidohfhaa.P
