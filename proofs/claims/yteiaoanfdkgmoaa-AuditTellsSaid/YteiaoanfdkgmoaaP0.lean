/- The functions that the laws of this seat reach, as plain Lean functions, and for each the contract of its call: no condition but those that each theorem names. -/
import Derived.Test.YteiaoanfdkgmoaaProg
import Derived.Test.YteiaoanfdkgmoaaB
import Derived.Below
import Derived.Deep.Draws
import Derived.Deep.AppendLies
import Derived.Maps.AppendAt
import Derived.OwnWalk
import Derived.Laws.BytesArg
import Derived.Laws.MakeOwn
import Derived.Laws.OwnMore
import Derived.Deep.OwnRows
import Derived.Tactics
import Derived.Lib.ConvBytes
import Derived.Laws.Slices
import Derived.WalkKit
import Derived.KernelRfl
import Derived.RowKit3
import Derived.Deep.LoopGhost
import Derived.Deep.QuietTactic
import Derived.BigQuiet
import Derived.WideLaws
import Derived.Deep.DeepCutAuto
import Derived.Deep.CutBlock
import Derived.Deep.RegionHeld3
import Derived.Laws.Rows
import Derived.Lib.AppendStr
import Derived.ArgAppend
import Derived.Laws.IdiomCopy
import Derived.OrdersHeld
import Derived.Laws.BitsLemmas
import Derived.RowKit
import Derived.Shelf.Abstract
import Derived.Laws.Cells
import Derived.Laws.EntriesVeiled
import Derived.Test.YteiaoanfdkgmoaaWWords
import Derived.Test.YteiaoanfdkgmoaaWLast
import Derived.Test.YteiaoanfdkgmoaaWTab
import Derived.Test.YteiaoanfdkgmoaaWFour
import Derived.Test.YteiaoanfdkgmoaaWQPut
import Derived.Test.YteiaoanfdkgmoaaWApart
import Derived.Test.YteiaoanfdkgmoaaWArr
import Derived.Test.YteiaoanfdkgmoaaWZeros
import Derived.Test.YteiaoanfdkgmoaaWFoot
import Derived.Test.YteiaoanfdkgmoaaWKept
import Derived.Test.YteiaoanfdkgmoaaWShare
import Derived.Test.YteiaoanfdkgmoaaWN
import Derived.Test.YteiaoanfdkgmoaaWFootNe
import Derived.Test.YteiaoanfdkgmoaaWAt
import Derived.Test.YteiaoanfdkgmoaaWEqStruct
import Derived.Test.YteiaoanfdkgmoaaWRepsOne
import Derived.Test.YteiaoanfdkgmoaaWInv
import Derived.Test.YteiaoanfdkgmoaaWInvWords
import Derived.Test.YteiaoanfdkgmoaaWGuard
import Derived.Test.YteiaoanfdkgmoaaWNEv
import Derived.Test.YteiaoanfdkgmoaaWMore
namespace Go.Proofs.Yteiaoanfdkgmoaa.P
open Go.RowKit Go.Proofs.YteiaoanfdkgmoaaW.PrintWords Go.Proofs.YteiaoanfdkgmoaaW.PrintLast Go.Proofs.YteiaoanfdkgmoaaW.PrintMore
attribute [local go_sem] max2_int min2_int max_two min_two max_three min_three max_four min_four   -- for this text's walks alone
set_option linter.unusedVariables false
set_option linter.unusedSimpArgs false



def errW : Option Int → Value
  | none => .nilIface
  | some c => .iface 0 (.int .i64 c)
theorem errW_none : errW none = .nilIface := rfl
theorem errW_some (c : Int) : errW (some c) = .iface 0 (.int .i64 c) := rfl

theorem infoMatch : (Try.prog.info? 25).map (fun i => (i.zero, i.size, i.bytes)) = some (some (.agg #[(.int .i64 0), (.int .i64 0), (.int .i64 0), (.bool false)]), 4, 32) := by kernel_rfl
theorem infoNote : (Try.prog.info? 27).map (fun i => (i.zero, i.size, i.bytes)) = some (some (.agg #[(.int .i64 0), (.int .i64 0), (.int .i64 0), (.int .i64 0), (.int .i64 0), (.int .i64 0), (.bool false)]), 7, 56) := by kernel_rfl
theorem infoRes : (Try.prog.info? 43).map (fun i => (i.zero, i.size, i.bytes)) = some (some (.agg #[(.bool false), (.int .i64 0), (.int .i64 0), (.int .u64 0), (.int .i64 0), (.int .i64 0), (.int .i64 0), (.int .i64 0), (.int .i64 0), (.int .i64 0), (.bool false)]), 11, 88) := by kernel_rfl
theorem infoEvent : (Try.prog.info? 52).map (fun i => (i.zero, i.size, i.bytes)) = some (some (.agg #[(.string ⟨#[]⟩), (.int .i64 0), (.slice none 0 0)]), 3, 48) := by kernel_rfl
theorem infoReq : (Try.prog.info? 57).map (fun i => (i.zero, i.size, i.bytes)) = some (some (.agg #[(.int .i64 0), (.int .i64 0), (.int .i64 0), (.int .u64 0), (.string ⟨#[]⟩), (.int .i64 0), (.slice none 0 0), (.string ⟨#[]⟩), (.int .i64 0), (.slice none 0 0), (.slice none 0 0), (.int .i64 0), (.int .i64 0), (.int .i64 0), (.int .i64 0)]), 15, 184) := by kernel_rfl
theorem infoValue : (Try.prog.info? 74).map (fun i => (i.zero, i.size, i.bytes)) = some (some (.agg #[(.int .i64 0), (.int .i64 0), (.string ⟨#[]⟩)]), 3, 32) := by kernel_rfl
-- the values' own types
/-! #### struct type 25 -/
structure SMatch where
  f0 : Int
  f1 : Int
  f2 : Int
  f3 : Bool
def zMatch : SMatch := ⟨(0 : Int), (0 : Int), (0 : Int), false⟩
def kMatch : Kd SMatch := Kd.iso (Kd.pair (Kd.int .i64) (Kd.pair (Kd.int .i64) (Kd.pair (Kd.int .i64) Kd.bool))) (fun x : SMatch => (x.f0, x.f1, x.f2, x.f3))
theorem kMatch_heap : Kd.Heap kMatch := Kd.heap_iso _ (Kd.heap_pair (Kd.heap_int .i64) (Kd.heap_pair (Kd.heap_int .i64) (Kd.heap_pair (Kd.heap_int .i64) Kd.heap_bool)))
theorem kMatch_open {w : World} {x : SMatch} {cs : List Value} (h : kMatch.K w x cs) : cs = [.int .i64 x.f0, .int .i64 x.f1, .int .i64 x.f2, .bool x.f3] := by
  obtain ⟨_, _, rfl, rfl, ⟨_, _, rfl, rfl, ⟨_, _, rfl, rfl, rfl⟩⟩⟩ := h
  exact rfl
theorem kMatch_openM {w : World} {base : Nat} {ok : Nat → Prop} {x : SMatch} {cs : List Value} (h : kMatch.M w base ok x cs) : cs = [.int .i64 x.f0, .int .i64 x.f1, .int .i64 x.f2, .bool x.f3] := by
  obtain ⟨_, _, rfl, rfl, ⟨_, _, rfl, rfl, ⟨_, _, rfl, rfl, rfl⟩⟩⟩ := h
  exact rfl
theorem kMatch_mk (w : World) (x : SMatch)  : kMatch.K w x [.int .i64 x.f0, .int .i64 x.f1, .int .i64 x.f2, .bool x.f3] := ⟨[.int .i64 x.f0], [.int .i64 x.f1, .int .i64 x.f2, .bool x.f3], rfl, rfl, ⟨[.int .i64 x.f1], [.int .i64 x.f2, .bool x.f3], rfl, rfl, ⟨[.int .i64 x.f2], [.bool x.f3], rfl, rfl, rfl⟩⟩⟩
theorem kMatch_mkM (w : World) (base : Nat) (ok : Nat → Prop) (x : SMatch)  : kMatch.M w base ok x [.int .i64 x.f0, .int .i64 x.f1, .int .i64 x.f2, .bool x.f3] := ⟨[.int .i64 x.f0], [.int .i64 x.f1, .int .i64 x.f2, .bool x.f3], rfl, rfl, ⟨[.int .i64 x.f1], [.int .i64 x.f2, .bool x.f3], rfl, rfl, ⟨[.int .i64 x.f2], [.bool x.f3], rfl, rfl, rfl⟩⟩⟩
theorem kMatch_mkF (W : World) (ok : Nat → Prop) (x : SMatch) : Kd.FK kMatch W ok x [.int .i64 x.f0, .int .i64 x.f1, .int .i64 x.f2, .bool x.f3] := fun W2 _ => kMatch_mk W2 x
def rd_TMatch (xs : List SMatch) (i : Int) : SMatch := xs.getD i.toNat zMatch
theorem at_TMatch {w : World} {A : Option Addr} {n : Nat} {xs : List SMatch} (h : Kd.C kMatch w A n xs) (i : Int) (h0 : 0 ≤ i) (h1 : i < n) : ∃ ad , A = some ad ∧ w.cell? (ad.add (i.toNat * 4)) = some (.int .i64 (rd_TMatch xs i).f0) ∧ w.cell? ⟨(ad.add (i.toNat * 4)).block, (ad.add (i.toNat * 4)).off + 1, none⟩ = some (.int .i64 (rd_TMatch xs i).f1) ∧ w.cell? ⟨(ad.add (i.toNat * 4)).block, (ad.add (i.toNat * 4)).off + 2, none⟩ = some (.int .i64 (rd_TMatch xs i).f2) ∧ w.cell? ⟨(ad.add (i.toNat * 4)).block, (ad.add (i.toNat * 4)).off + 3, none⟩ = some (.bool (rd_TMatch xs i).f3) := by
  obtain ⟨ad, c, e, _, hK, hc0⟩ := Kd.C_get h zMatch i h0 h1
  have hc : ∀ j u, c[j]? = some u → w.cell? (ad.add (i.toNat * 4 + j)) = some u := hc0
  obtain rfl := kMatch_open hK
  exact ⟨ad, e, hc 0 _ rfl, by rw [← add_field _ _ 1 (by omega)]; exact hc 1 _ rfl, by rw [← add_field _ _ 2 (by omega)]; exact hc 2 _ rfl, by rw [← add_field _ _ 3 (by omega)]; exact hc 3 _ rfl⟩

/-! #### struct type 27 -/
structure SNote where
  f0 : Int
  f1 : Int
  f2 : Int
  f3 : SMatch
def zNote : SNote := ⟨(0 : Int), (0 : Int), (0 : Int), zMatch⟩
def kNote : Kd SNote := Kd.iso (Kd.pair (Kd.int .i64) (Kd.pair (Kd.int .i64) (Kd.pair (Kd.int .i64) kMatch))) (fun x : SNote => (x.f0, x.f1, x.f2, x.f3))
theorem kNote_heap : Kd.Heap kNote := Kd.heap_iso _ (Kd.heap_pair (Kd.heap_int .i64) (Kd.heap_pair (Kd.heap_int .i64) (Kd.heap_pair (Kd.heap_int .i64) kMatch_heap)))
theorem kNote_open {w : World} {x : SNote} {cs : List Value} (h : kNote.K w x cs) : cs = [.int .i64 x.f0, .int .i64 x.f1, .int .i64 x.f2, .int .i64 x.f3.f0, .int .i64 x.f3.f1, .int .i64 x.f3.f2, .bool x.f3.f3] := by
  obtain ⟨_, _, rfl, rfl, ⟨_, _, rfl, rfl, ⟨_, _, rfl, rfl, s3⟩⟩⟩ := h
  obtain rfl := kMatch_open s3
  exact rfl
theorem kNote_openM {w : World} {base : Nat} {ok : Nat → Prop} {x : SNote} {cs : List Value} (h : kNote.M w base ok x cs) : cs = [.int .i64 x.f0, .int .i64 x.f1, .int .i64 x.f2, .int .i64 x.f3.f0, .int .i64 x.f3.f1, .int .i64 x.f3.f2, .bool x.f3.f3] := by
  obtain ⟨_, _, rfl, rfl, ⟨_, _, rfl, rfl, ⟨_, _, rfl, rfl, s3⟩⟩⟩ := h
  obtain rfl := kMatch_openM s3
  exact rfl
theorem kNote_mk (w : World) (x : SNote)  : kNote.K w x [.int .i64 x.f0, .int .i64 x.f1, .int .i64 x.f2, .int .i64 x.f3.f0, .int .i64 x.f3.f1, .int .i64 x.f3.f2, .bool x.f3.f3] := ⟨[.int .i64 x.f0], [.int .i64 x.f1, .int .i64 x.f2, .int .i64 x.f3.f0, .int .i64 x.f3.f1, .int .i64 x.f3.f2, .bool x.f3.f3], rfl, rfl, ⟨[.int .i64 x.f1], [.int .i64 x.f2, .int .i64 x.f3.f0, .int .i64 x.f3.f1, .int .i64 x.f3.f2, .bool x.f3.f3], rfl, rfl, ⟨[.int .i64 x.f2], [.int .i64 x.f3.f0, .int .i64 x.f3.f1, .int .i64 x.f3.f2, .bool x.f3.f3], rfl, rfl, (kMatch_mk w x.f3 )⟩⟩⟩
theorem kNote_mkM (w : World) (base : Nat) (ok : Nat → Prop) (x : SNote)  : kNote.M w base ok x [.int .i64 x.f0, .int .i64 x.f1, .int .i64 x.f2, .int .i64 x.f3.f0, .int .i64 x.f3.f1, .int .i64 x.f3.f2, .bool x.f3.f3] := ⟨[.int .i64 x.f0], [.int .i64 x.f1, .int .i64 x.f2, .int .i64 x.f3.f0, .int .i64 x.f3.f1, .int .i64 x.f3.f2, .bool x.f3.f3], rfl, rfl, ⟨[.int .i64 x.f1], [.int .i64 x.f2, .int .i64 x.f3.f0, .int .i64 x.f3.f1, .int .i64 x.f3.f2, .bool x.f3.f3], rfl, rfl, ⟨[.int .i64 x.f2], [.int .i64 x.f3.f0, .int .i64 x.f3.f1, .int .i64 x.f3.f2, .bool x.f3.f3], rfl, rfl, (kMatch_mkM w base ok x.f3 )⟩⟩⟩
theorem kNote_mkF (W : World) (ok : Nat → Prop) (x : SNote) : Kd.FK kNote W ok x [.int .i64 x.f0, .int .i64 x.f1, .int .i64 x.f2, .int .i64 x.f3.f0, .int .i64 x.f3.f1, .int .i64 x.f3.f2, .bool x.f3.f3] := fun W2 _ => kNote_mk W2 x
def rd_TNote (xs : List SNote) (i : Int) : SNote := xs.getD i.toNat zNote
theorem at_TNote {w : World} {A : Option Addr} {n : Nat} {xs : List SNote} (h : Kd.C kNote w A n xs) (i : Int) (h0 : 0 ≤ i) (h1 : i < n) : ∃ ad , A = some ad ∧ w.cell? (ad.add (i.toNat * 7)) = some (.int .i64 (rd_TNote xs i).f0) ∧ w.cell? ⟨(ad.add (i.toNat * 7)).block, (ad.add (i.toNat * 7)).off + 1, none⟩ = some (.int .i64 (rd_TNote xs i).f1) ∧ w.cell? ⟨(ad.add (i.toNat * 7)).block, (ad.add (i.toNat * 7)).off + 2, none⟩ = some (.int .i64 (rd_TNote xs i).f2) ∧ w.cell? ⟨(ad.add (i.toNat * 7)).block, (ad.add (i.toNat * 7)).off + 3, none⟩ = some (.int .i64 (rd_TNote xs i).f3.f0) ∧ w.cell? ⟨(ad.add (i.toNat * 7)).block, (ad.add (i.toNat * 7)).off + 4, none⟩ = some (.int .i64 (rd_TNote xs i).f3.f1) ∧ w.cell? ⟨(ad.add (i.toNat * 7)).block, (ad.add (i.toNat * 7)).off + 5, none⟩ = some (.int .i64 (rd_TNote xs i).f3.f2) ∧ w.cell? ⟨(ad.add (i.toNat * 7)).block, (ad.add (i.toNat * 7)).off + 6, none⟩ = some (.bool (rd_TNote xs i).f3.f3) := by
  obtain ⟨ad, c, e, _, hK, hc0⟩ := Kd.C_get h zNote i h0 h1
  have hc : ∀ j u, c[j]? = some u → w.cell? (ad.add (i.toNat * 7 + j)) = some u := hc0
  obtain rfl := kNote_open hK
  exact ⟨ad, e, hc 0 _ rfl, by rw [← add_field _ _ 1 (by omega)]; exact hc 1 _ rfl, by rw [← add_field _ _ 2 (by omega)]; exact hc 2 _ rfl, by rw [← add_field _ _ 3 (by omega)]; exact hc 3 _ rfl, by rw [← add_field _ _ 4 (by omega)]; exact hc 4 _ rfl, by rw [← add_field _ _ 5 (by omega)]; exact hc 5 _ rfl, by rw [← add_field _ _ 6 (by omega)]; exact hc 6 _ rfl⟩

def rd_L4 (xs : List (List SNote)) (i : Int) : (List SNote) := xs.getD i.toNat ([] : List SNote)
theorem at_L4 {w : World} {A : Option Addr} {n : Nat} {xs : List (List SNote)} (h : Kd.C (Kd.slice 27 kNote) w A n xs) (i : Int) (h0 : 0 ≤ i) (h1 : i < n) : ∃ ad A0 c0, A = some ad ∧ w.cell? (ad.add i.toNat) = some (.slice A0 (rd_L4 xs i).length c0) ∧ (rd_L4 xs i).length ≤ c0 ∧ kNote.C w A0 (rd_L4 xs i).length (rd_L4 xs i) := by
  obtain ⟨ad, c, e, _, hK, hc0⟩ := Kd.C_get h ([] : List SNote) i h0 h1
  have hc : ∀ j u, c[j]? = some u → w.cell? (ad.add (i.toNat * 1 + j)) = some u := hc0
  obtain ⟨A0, c0, rfl, l0, g0⟩ := hK
  exact ⟨ad, A0, c0, e, by have hq := hc 0 _ rfl; rwa [Nat.mul_one, Nat.add_zero] at hq, l0, g0⟩

/-! #### struct type 43 -/
structure SRes where
  f0 : Bool
  f1 : Int
  f2 : Int
  f3 : Int
  f4 : SNote
def zRes : SRes := ⟨false, (0 : Int), (0 : Int), (0 : Int), zNote⟩
def kRes : Kd SRes := Kd.iso (Kd.pair Kd.bool (Kd.pair (Kd.int .i64) (Kd.pair (Kd.int .i64) (Kd.pair (Kd.int .u64) kNote)))) (fun x : SRes => (x.f0, x.f1, x.f2, x.f3, x.f4))
theorem kRes_heap : Kd.Heap kRes := Kd.heap_iso _ (Kd.heap_pair Kd.heap_bool (Kd.heap_pair (Kd.heap_int .i64) (Kd.heap_pair (Kd.heap_int .i64) (Kd.heap_pair (Kd.heap_int .u64) kNote_heap))))
theorem kRes_open {w : World} {x : SRes} {cs : List Value} (h : kRes.K w x cs) : cs = [.bool x.f0, .int .i64 x.f1, .int .i64 x.f2, .int .u64 x.f3, .int .i64 x.f4.f0, .int .i64 x.f4.f1, .int .i64 x.f4.f2, .int .i64 x.f4.f3.f0, .int .i64 x.f4.f3.f1, .int .i64 x.f4.f3.f2, .bool x.f4.f3.f3] := by
  obtain ⟨_, _, rfl, rfl, ⟨_, _, rfl, rfl, ⟨_, _, rfl, rfl, ⟨_, _, rfl, rfl, s4⟩⟩⟩⟩ := h
  obtain rfl := kNote_open s4
  exact rfl
theorem kRes_openM {w : World} {base : Nat} {ok : Nat → Prop} {x : SRes} {cs : List Value} (h : kRes.M w base ok x cs) : cs = [.bool x.f0, .int .i64 x.f1, .int .i64 x.f2, .int .u64 x.f3, .int .i64 x.f4.f0, .int .i64 x.f4.f1, .int .i64 x.f4.f2, .int .i64 x.f4.f3.f0, .int .i64 x.f4.f3.f1, .int .i64 x.f4.f3.f2, .bool x.f4.f3.f3] := by
  obtain ⟨_, _, rfl, rfl, ⟨_, _, rfl, rfl, ⟨_, _, rfl, rfl, ⟨_, _, rfl, rfl, s4⟩⟩⟩⟩ := h
  obtain rfl := kNote_openM s4
  exact rfl
theorem kRes_mk (w : World) (x : SRes)  : kRes.K w x [.bool x.f0, .int .i64 x.f1, .int .i64 x.f2, .int .u64 x.f3, .int .i64 x.f4.f0, .int .i64 x.f4.f1, .int .i64 x.f4.f2, .int .i64 x.f4.f3.f0, .int .i64 x.f4.f3.f1, .int .i64 x.f4.f3.f2, .bool x.f4.f3.f3] := ⟨[.bool x.f0], [.int .i64 x.f1, .int .i64 x.f2, .int .u64 x.f3, .int .i64 x.f4.f0, .int .i64 x.f4.f1, .int .i64 x.f4.f2, .int .i64 x.f4.f3.f0, .int .i64 x.f4.f3.f1, .int .i64 x.f4.f3.f2, .bool x.f4.f3.f3], rfl, rfl, ⟨[.int .i64 x.f1], [.int .i64 x.f2, .int .u64 x.f3, .int .i64 x.f4.f0, .int .i64 x.f4.f1, .int .i64 x.f4.f2, .int .i64 x.f4.f3.f0, .int .i64 x.f4.f3.f1, .int .i64 x.f4.f3.f2, .bool x.f4.f3.f3], rfl, rfl, ⟨[.int .i64 x.f2], [.int .u64 x.f3, .int .i64 x.f4.f0, .int .i64 x.f4.f1, .int .i64 x.f4.f2, .int .i64 x.f4.f3.f0, .int .i64 x.f4.f3.f1, .int .i64 x.f4.f3.f2, .bool x.f4.f3.f3], rfl, rfl, ⟨[.int .u64 x.f3], [.int .i64 x.f4.f0, .int .i64 x.f4.f1, .int .i64 x.f4.f2, .int .i64 x.f4.f3.f0, .int .i64 x.f4.f3.f1, .int .i64 x.f4.f3.f2, .bool x.f4.f3.f3], rfl, rfl, (kNote_mk w x.f4 )⟩⟩⟩⟩
theorem kRes_mkM (w : World) (base : Nat) (ok : Nat → Prop) (x : SRes)  : kRes.M w base ok x [.bool x.f0, .int .i64 x.f1, .int .i64 x.f2, .int .u64 x.f3, .int .i64 x.f4.f0, .int .i64 x.f4.f1, .int .i64 x.f4.f2, .int .i64 x.f4.f3.f0, .int .i64 x.f4.f3.f1, .int .i64 x.f4.f3.f2, .bool x.f4.f3.f3] := ⟨[.bool x.f0], [.int .i64 x.f1, .int .i64 x.f2, .int .u64 x.f3, .int .i64 x.f4.f0, .int .i64 x.f4.f1, .int .i64 x.f4.f2, .int .i64 x.f4.f3.f0, .int .i64 x.f4.f3.f1, .int .i64 x.f4.f3.f2, .bool x.f4.f3.f3], rfl, rfl, ⟨[.int .i64 x.f1], [.int .i64 x.f2, .int .u64 x.f3, .int .i64 x.f4.f0, .int .i64 x.f4.f1, .int .i64 x.f4.f2, .int .i64 x.f4.f3.f0, .int .i64 x.f4.f3.f1, .int .i64 x.f4.f3.f2, .bool x.f4.f3.f3], rfl, rfl, ⟨[.int .i64 x.f2], [.int .u64 x.f3, .int .i64 x.f4.f0, .int .i64 x.f4.f1, .int .i64 x.f4.f2, .int .i64 x.f4.f3.f0, .int .i64 x.f4.f3.f1, .int .i64 x.f4.f3.f2, .bool x.f4.f3.f3], rfl, rfl, ⟨[.int .u64 x.f3], [.int .i64 x.f4.f0, .int .i64 x.f4.f1, .int .i64 x.f4.f2, .int .i64 x.f4.f3.f0, .int .i64 x.f4.f3.f1, .int .i64 x.f4.f3.f2, .bool x.f4.f3.f3], rfl, rfl, (kNote_mkM w base ok x.f4 )⟩⟩⟩⟩
theorem kRes_mkF (W : World) (ok : Nat → Prop) (x : SRes) : Kd.FK kRes W ok x [.bool x.f0, .int .i64 x.f1, .int .i64 x.f2, .int .u64 x.f3, .int .i64 x.f4.f0, .int .i64 x.f4.f1, .int .i64 x.f4.f2, .int .i64 x.f4.f3.f0, .int .i64 x.f4.f3.f1, .int .i64 x.f4.f3.f2, .bool x.f4.f3.f3] := fun W2 _ => kRes_mk W2 x
def rd_TRes (xs : List SRes) (i : Int) : SRes := xs.getD i.toNat zRes
theorem at_TRes {w : World} {A : Option Addr} {n : Nat} {xs : List SRes} (h : Kd.C kRes w A n xs) (i : Int) (h0 : 0 ≤ i) (h1 : i < n) : ∃ ad , A = some ad ∧ w.cell? (ad.add (i.toNat * 11)) = some (.bool (rd_TRes xs i).f0) ∧ w.cell? ⟨(ad.add (i.toNat * 11)).block, (ad.add (i.toNat * 11)).off + 1, none⟩ = some (.int .i64 (rd_TRes xs i).f1) ∧ w.cell? ⟨(ad.add (i.toNat * 11)).block, (ad.add (i.toNat * 11)).off + 2, none⟩ = some (.int .i64 (rd_TRes xs i).f2) ∧ w.cell? ⟨(ad.add (i.toNat * 11)).block, (ad.add (i.toNat * 11)).off + 3, none⟩ = some (.int .u64 (rd_TRes xs i).f3) ∧ w.cell? ⟨(ad.add (i.toNat * 11)).block, (ad.add (i.toNat * 11)).off + 4, none⟩ = some (.int .i64 (rd_TRes xs i).f4.f0) ∧ w.cell? ⟨(ad.add (i.toNat * 11)).block, (ad.add (i.toNat * 11)).off + 5, none⟩ = some (.int .i64 (rd_TRes xs i).f4.f1) ∧ w.cell? ⟨(ad.add (i.toNat * 11)).block, (ad.add (i.toNat * 11)).off + 6, none⟩ = some (.int .i64 (rd_TRes xs i).f4.f2) ∧ w.cell? ⟨(ad.add (i.toNat * 11)).block, (ad.add (i.toNat * 11)).off + 7, none⟩ = some (.int .i64 (rd_TRes xs i).f4.f3.f0) ∧ w.cell? ⟨(ad.add (i.toNat * 11)).block, (ad.add (i.toNat * 11)).off + 8, none⟩ = some (.int .i64 (rd_TRes xs i).f4.f3.f1) ∧ w.cell? ⟨(ad.add (i.toNat * 11)).block, (ad.add (i.toNat * 11)).off + 9, none⟩ = some (.int .i64 (rd_TRes xs i).f4.f3.f2) ∧ w.cell? ⟨(ad.add (i.toNat * 11)).block, (ad.add (i.toNat * 11)).off + 10, none⟩ = some (.bool (rd_TRes xs i).f4.f3.f3) := by
  obtain ⟨ad, c, e, _, hK, hc0⟩ := Kd.C_get h zRes i h0 h1
  have hc : ∀ j u, c[j]? = some u → w.cell? (ad.add (i.toNat * 11 + j)) = some u := hc0
  obtain rfl := kRes_open hK
  exact ⟨ad, e, hc 0 _ rfl, by rw [← add_field _ _ 1 (by omega)]; exact hc 1 _ rfl, by rw [← add_field _ _ 2 (by omega)]; exact hc 2 _ rfl, by rw [← add_field _ _ 3 (by omega)]; exact hc 3 _ rfl, by rw [← add_field _ _ 4 (by omega)]; exact hc 4 _ rfl, by rw [← add_field _ _ 5 (by omega)]; exact hc 5 _ rfl, by rw [← add_field _ _ 6 (by omega)]; exact hc 6 _ rfl, by rw [← add_field _ _ 7 (by omega)]; exact hc 7 _ rfl, by rw [← add_field _ _ 8 (by omega)]; exact hc 8 _ rfl, by rw [← add_field _ _ 9 (by omega)]; exact hc 9 _ rfl, by rw [← add_field _ _ 10 (by omega)]; exact hc 10 _ rfl⟩

def rd_L7 (xs : List (List SRes)) (i : Int) : (List SRes) := xs.getD i.toNat ([] : List SRes)
theorem at_L7 {w : World} {A : Option Addr} {n : Nat} {xs : List (List SRes)} (h : Kd.C (Kd.slice 43 kRes) w A n xs) (i : Int) (h0 : 0 ≤ i) (h1 : i < n) : ∃ ad A0 c0, A = some ad ∧ w.cell? (ad.add i.toNat) = some (.slice A0 (rd_L7 xs i).length c0) ∧ (rd_L7 xs i).length ≤ c0 ∧ kRes.C w A0 (rd_L7 xs i).length (rd_L7 xs i) := by
  obtain ⟨ad, c, e, _, hK, hc0⟩ := Kd.C_get h ([] : List SRes) i h0 h1
  have hc : ∀ j u, c[j]? = some u → w.cell? (ad.add (i.toNat * 1 + j)) = some u := hc0
  obtain ⟨A0, c0, rfl, l0, g0⟩ := hK
  exact ⟨ad, A0, c0, e, by have hq := hc 0 _ rfl; rwa [Nat.mul_one, Nat.add_zero] at hq, l0, g0⟩

def rd_L8 (xs : List (List SMatch)) (i : Int) : (List SMatch) := xs.getD i.toNat ([] : List SMatch)
theorem at_L8 {w : World} {A : Option Addr} {n : Nat} {xs : List (List SMatch)} (h : Kd.C (Kd.slice 25 kMatch) w A n xs) (i : Int) (h0 : 0 ≤ i) (h1 : i < n) : ∃ ad A0 c0, A = some ad ∧ w.cell? (ad.add i.toNat) = some (.slice A0 (rd_L8 xs i).length c0) ∧ (rd_L8 xs i).length ≤ c0 ∧ kMatch.C w A0 (rd_L8 xs i).length (rd_L8 xs i) := by
  obtain ⟨ad, c, e, _, hK, hc0⟩ := Kd.C_get h ([] : List SMatch) i h0 h1
  have hc : ∀ j u, c[j]? = some u → w.cell? (ad.add (i.toNat * 1 + j)) = some u := hc0
  obtain ⟨A0, c0, rfl, l0, g0⟩ := hK
  exact ⟨ad, A0, c0, e, by have hq := hc 0 _ rfl; rwa [Nat.mul_one, Nat.add_zero] at hq, l0, g0⟩

/-! #### struct type 74 -/
structure SValue where
  f0 : Int
  f1 : Int
  f2 : ByteArray
def zValue : SValue := ⟨(0 : Int), (0 : Int), (⟨#[]⟩ : ByteArray)⟩
def kValue : Kd SValue := Kd.iso (Kd.pair (Kd.int .i64) (Kd.pair (Kd.int .i64) Kd.string)) (fun x : SValue => (x.f0, x.f1, x.f2))
theorem kValue_heap : Kd.Heap kValue := Kd.heap_iso _ (Kd.heap_pair (Kd.heap_int .i64) (Kd.heap_pair (Kd.heap_int .i64) Kd.heap_string))
theorem kValue_open {w : World} {x : SValue} {cs : List Value} (h : kValue.K w x cs) : cs = [.int .i64 x.f0, .int .i64 x.f1, .string x.f2] := by
  obtain ⟨_, _, rfl, rfl, ⟨_, _, rfl, rfl, rfl⟩⟩ := h
  exact rfl
theorem kValue_openM {w : World} {base : Nat} {ok : Nat → Prop} {x : SValue} {cs : List Value} (h : kValue.M w base ok x cs) : cs = [.int .i64 x.f0, .int .i64 x.f1, .string x.f2] := by
  obtain ⟨_, _, rfl, rfl, ⟨_, _, rfl, rfl, rfl⟩⟩ := h
  exact rfl
theorem kValue_mk (w : World) (x : SValue)  : kValue.K w x [.int .i64 x.f0, .int .i64 x.f1, .string x.f2] := ⟨[.int .i64 x.f0], [.int .i64 x.f1, .string x.f2], rfl, rfl, ⟨[.int .i64 x.f1], [.string x.f2], rfl, rfl, rfl⟩⟩
theorem kValue_mkM (w : World) (base : Nat) (ok : Nat → Prop) (x : SValue)  : kValue.M w base ok x [.int .i64 x.f0, .int .i64 x.f1, .string x.f2] := ⟨[.int .i64 x.f0], [.int .i64 x.f1, .string x.f2], rfl, rfl, ⟨[.int .i64 x.f1], [.string x.f2], rfl, rfl, rfl⟩⟩
theorem kValue_mkF (W : World) (ok : Nat → Prop) (x : SValue) : Kd.FK kValue W ok x [.int .i64 x.f0, .int .i64 x.f1, .string x.f2] := fun W2 _ => kValue_mk W2 x
def rd_TValue (xs : List SValue) (i : Int) : SValue := xs.getD i.toNat zValue
theorem at_TValue {w : World} {A : Option Addr} {n : Nat} {xs : List SValue} (h : Kd.C kValue w A n xs) (i : Int) (h0 : 0 ≤ i) (h1 : i < n) : ∃ ad , A = some ad ∧ w.cell? (ad.add (i.toNat * 3)) = some (.int .i64 (rd_TValue xs i).f0) ∧ w.cell? ⟨(ad.add (i.toNat * 3)).block, (ad.add (i.toNat * 3)).off + 1, none⟩ = some (.int .i64 (rd_TValue xs i).f1) ∧ w.cell? ⟨(ad.add (i.toNat * 3)).block, (ad.add (i.toNat * 3)).off + 2, none⟩ = some (.string (rd_TValue xs i).f2) := by
  obtain ⟨ad, c, e, _, hK, hc0⟩ := Kd.C_get h zValue i h0 h1
  have hc : ∀ j u, c[j]? = some u → w.cell? (ad.add (i.toNat * 3 + j)) = some u := hc0
  obtain rfl := kValue_open hK
  exact ⟨ad, e, hc 0 _ rfl, by rw [← add_field _ _ 1 (by omega)]; exact hc 1 _ rfl, by rw [← add_field _ _ 2 (by omega)]; exact hc 2 _ rfl⟩

def rd_L11 (xs : List (List SValue)) (i : Int) : (List SValue) := xs.getD i.toNat ([] : List SValue)
theorem at_L11 {w : World} {A : Option Addr} {n : Nat} {xs : List (List SValue)} (h : Kd.C (Kd.slice 74 kValue) w A n xs) (i : Int) (h0 : 0 ≤ i) (h1 : i < n) : ∃ ad A0 c0, A = some ad ∧ w.cell? (ad.add i.toNat) = some (.slice A0 (rd_L11 xs i).length c0) ∧ (rd_L11 xs i).length ≤ c0 ∧ kValue.C w A0 (rd_L11 xs i).length (rd_L11 xs i) := by
  obtain ⟨ad, c, e, _, hK, hc0⟩ := Kd.C_get h ([] : List SValue) i h0 h1
  have hc : ∀ j u, c[j]? = some u → w.cell? (ad.add (i.toNat * 1 + j)) = some u := hc0
  obtain ⟨A0, c0, rfl, l0, g0⟩ := hK
  exact ⟨ad, A0, c0, e, by have hq := hc 0 _ rfl; rwa [Nat.mul_one, Nat.add_zero] at hq, l0, g0⟩

/-! #### struct type 52 -/
structure SEvent where
  f0 : ByteArray
  f1 : Int
  f2 : (List SValue)
def zEvent : SEvent := ⟨(⟨#[]⟩ : ByteArray), (0 : Int), ([] : List SValue)⟩
def kEvent : Kd SEvent := Kd.iso (Kd.pair Kd.string (Kd.pair (Kd.int .i64) (Kd.slice 74 kValue))) (fun x : SEvent => (x.f0, x.f1, x.f2))
theorem kEvent_heap : Kd.Heap kEvent := Kd.heap_iso _ (Kd.heap_pair Kd.heap_string (Kd.heap_pair (Kd.heap_int .i64) (Kd.heap_slice 74 kValue_heap)))
theorem kEvent_open {w : World} {x : SEvent} {cs : List Value} (h : kEvent.K w x cs) : ∃ A2 c2, cs = [.string x.f0, .int .i64 x.f1, .slice A2 x.f2.length c2] ∧ x.f2.length ≤ c2 ∧ kValue.C w A2 x.f2.length x.f2 := by
  obtain ⟨_, _, rfl, rfl, ⟨_, _, rfl, rfl, ⟨A2, c2, rfl, l2, g2⟩⟩⟩ := h
  exact ⟨A2, c2, rfl, l2, g2⟩
theorem kEvent_openM {w : World} {base : Nat} {ok : Nat → Prop} {x : SEvent} {cs : List Value} (h : kEvent.M w base ok x cs) : ∃ v2, cs = [.string x.f0, .int .i64 x.f1, v2] ∧ kValue.R 74 w base ok v2 x.f2 := by
  obtain ⟨_, _, rfl, rfl, ⟨_, _, rfl, rfl, ⟨v2, rfl, g2⟩⟩⟩ := h
  exact ⟨v2, rfl, g2⟩
theorem kEvent_mk (w : World) (x : SEvent) {A2 : Option Addr} {c2 : Nat} (l2 : x.f2.length ≤ c2) (g2 : kValue.C w A2 x.f2.length x.f2) : kEvent.K w x [.string x.f0, .int .i64 x.f1, .slice A2 x.f2.length c2] := ⟨[.string x.f0], [.int .i64 x.f1, .slice A2 x.f2.length c2], rfl, rfl, ⟨[.int .i64 x.f1], [.slice A2 x.f2.length c2], rfl, rfl, ⟨A2, c2, rfl, l2, g2⟩⟩⟩
theorem kEvent_mkM (w : World) (base : Nat) (ok : Nat → Prop) (x : SEvent) {v2 : Value} (g2 : kValue.R 74 w base ok v2 x.f2) : kEvent.M w base ok x [.string x.f0, .int .i64 x.f1, v2] := ⟨[.string x.f0], [.int .i64 x.f1, v2], rfl, rfl, ⟨[.int .i64 x.f1], [v2], rfl, rfl, ⟨v2, rfl, g2⟩⟩⟩
theorem kEvent_openF {W : World} {ok : Nat → Prop} {x : SEvent} {cs : List Value} (h : Kd.FK kEvent W ok x cs) : ∃ A2 c2, cs = [.string x.f0, .int .i64 x.f1, .slice A2 x.f2.length c2] ∧ x.f2.length ≤ c2 ∧ Kd.F kValue W ok A2 x.f2.length x.f2 := by
  obtain ⟨A2, c2, rfl, l2, _⟩ := kEvent_open (Kd.FK_now h)
  exact ⟨A2, c2, rfl, l2, (fun W' hW => by obtain ⟨A2_, c2_, he, l2_, g2_⟩ := kEvent_open (h W' hW); injection (Option.some.inj (show some (Value.slice A2 x.f2.length c2) = some (Value.slice A2_ x.f2.length c2_) from congrArg (fun l => l[2]?) he)) with ha_ _ _; rw [ha_]; exact g2_)⟩
theorem kEvent_mkF (W : World) (ok : Nat → Prop) (x : SEvent) {A2 : Option Addr} {c2 : Nat} (l2 : x.f2.length ≤ c2) (g2 : Kd.F kValue W ok A2 x.f2.length x.f2) : Kd.FK kEvent W ok x [.string x.f0, .int .i64 x.f1, .slice A2 x.f2.length c2] := fun W2 hW => kEvent_mk W2 x l2 (g2 W2 hW)
def rd_TEvent (xs : List SEvent) (i : Int) : SEvent := xs.getD i.toNat zEvent
theorem at_TEvent {w : World} {A : Option Addr} {n : Nat} {xs : List SEvent} (h : Kd.C kEvent w A n xs) (i : Int) (h0 : 0 ≤ i) (h1 : i < n) : ∃ ad A2 c2, A = some ad ∧ w.cell? (ad.add (i.toNat * 3)) = some (.string (rd_TEvent xs i).f0) ∧ w.cell? ⟨(ad.add (i.toNat * 3)).block, (ad.add (i.toNat * 3)).off + 1, none⟩ = some (.int .i64 (rd_TEvent xs i).f1) ∧ w.cell? ⟨(ad.add (i.toNat * 3)).block, (ad.add (i.toNat * 3)).off + 2, none⟩ = some (.slice A2 (rd_TEvent xs i).f2.length c2) ∧ (rd_TEvent xs i).f2.length ≤ c2 ∧ kValue.C w A2 (rd_TEvent xs i).f2.length (rd_TEvent xs i).f2 := by
  obtain ⟨ad, c, e, _, hK, hc0⟩ := Kd.C_get h zEvent i h0 h1
  have hc : ∀ j u, c[j]? = some u → w.cell? (ad.add (i.toNat * 3 + j)) = some u := hc0
  obtain ⟨A2, c2, rfl, l2, g2⟩ := kEvent_open hK
  exact ⟨ad, A2, c2, e, hc 0 _ rfl, by rw [← add_field _ _ 1 (by omega)]; exact hc 1 _ rfl, by rw [← add_field _ _ 2 (by omega)]; exact hc 2 _ rfl, l2, g2⟩

/-! #### struct type 92 -/
structure SField where
  f0 : ByteArray
  f1 : Int
def zField : SField := ⟨(⟨#[]⟩ : ByteArray), (0 : Int)⟩
def kField : Kd SField := Kd.iso (Kd.pair Kd.string (Kd.int .i64)) (fun x : SField => (x.f0, x.f1))
theorem kField_heap : Kd.Heap kField := Kd.heap_iso _ (Kd.heap_pair Kd.heap_string (Kd.heap_int .i64))
theorem kField_open {w : World} {x : SField} {cs : List Value} (h : kField.K w x cs) : cs = [.string x.f0, .int .i64 x.f1] := by
  obtain ⟨_, _, rfl, rfl, rfl⟩ := h
  exact rfl
theorem kField_openM {w : World} {base : Nat} {ok : Nat → Prop} {x : SField} {cs : List Value} (h : kField.M w base ok x cs) : cs = [.string x.f0, .int .i64 x.f1] := by
  obtain ⟨_, _, rfl, rfl, rfl⟩ := h
  exact rfl
theorem kField_mk (w : World) (x : SField)  : kField.K w x [.string x.f0, .int .i64 x.f1] := ⟨[.string x.f0], [.int .i64 x.f1], rfl, rfl, rfl⟩
theorem kField_mkM (w : World) (base : Nat) (ok : Nat → Prop) (x : SField)  : kField.M w base ok x [.string x.f0, .int .i64 x.f1] := ⟨[.string x.f0], [.int .i64 x.f1], rfl, rfl, rfl⟩
theorem kField_mkF (W : World) (ok : Nat → Prop) (x : SField) : Kd.FK kField W ok x [.string x.f0, .int .i64 x.f1] := fun W2 _ => kField_mk W2 x
def rd_TField (xs : List SField) (i : Int) : SField := xs.getD i.toNat zField
theorem at_TField {w : World} {A : Option Addr} {n : Nat} {xs : List SField} (h : Kd.C kField w A n xs) (i : Int) (h0 : 0 ≤ i) (h1 : i < n) : ∃ ad , A = some ad ∧ w.cell? (ad.add (i.toNat * 2)) = some (.string (rd_TField xs i).f0) ∧ w.cell? ⟨(ad.add (i.toNat * 2)).block, (ad.add (i.toNat * 2)).off + 1, none⟩ = some (.int .i64 (rd_TField xs i).f1) := by
  obtain ⟨ad, c, e, _, hK, hc0⟩ := Kd.C_get h zField i h0 h1
  have hc : ∀ j u, c[j]? = some u → w.cell? (ad.add (i.toNat * 2 + j)) = some u := hc0
  obtain rfl := kField_open hK
  exact ⟨ad, e, hc 0 _ rfl, by rw [← add_field _ _ 1 (by omega)]; exact hc 1 _ rfl⟩

def rd_L14 (xs : List (List SField)) (i : Int) : (List SField) := xs.getD i.toNat ([] : List SField)
theorem at_L14 {w : World} {A : Option Addr} {n : Nat} {xs : List (List SField)} (h : Kd.C (Kd.slice 92 kField) w A n xs) (i : Int) (h0 : 0 ≤ i) (h1 : i < n) : ∃ ad A0 c0, A = some ad ∧ w.cell? (ad.add i.toNat) = some (.slice A0 (rd_L14 xs i).length c0) ∧ (rd_L14 xs i).length ≤ c0 ∧ kField.C w A0 (rd_L14 xs i).length (rd_L14 xs i) := by
  obtain ⟨ad, c, e, _, hK, hc0⟩ := Kd.C_get h ([] : List SField) i h0 h1
  have hc : ∀ j u, c[j]? = some u → w.cell? (ad.add (i.toNat * 1 + j)) = some u := hc0
  obtain ⟨A0, c0, rfl, l0, g0⟩ := hK
  exact ⟨ad, A0, c0, e, by have hq := hc 0 _ rfl; rwa [Nat.mul_one, Nat.add_zero] at hq, l0, g0⟩

/-! #### struct type 49 -/
structure SSchema where
  f0 : ByteArray
  f1 : Int
  f2 : (List SField)
def zSchema : SSchema := ⟨(⟨#[]⟩ : ByteArray), (0 : Int), ([] : List SField)⟩
def kSchema : Kd SSchema := Kd.iso (Kd.pair Kd.string (Kd.pair (Kd.int .i64) (Kd.slice 92 kField))) (fun x : SSchema => (x.f0, x.f1, x.f2))
theorem kSchema_heap : Kd.Heap kSchema := Kd.heap_iso _ (Kd.heap_pair Kd.heap_string (Kd.heap_pair (Kd.heap_int .i64) (Kd.heap_slice 92 kField_heap)))
theorem kSchema_open {w : World} {x : SSchema} {cs : List Value} (h : kSchema.K w x cs) : ∃ A2 c2, cs = [.string x.f0, .int .i64 x.f1, .slice A2 x.f2.length c2] ∧ x.f2.length ≤ c2 ∧ kField.C w A2 x.f2.length x.f2 := by
  obtain ⟨_, _, rfl, rfl, ⟨_, _, rfl, rfl, ⟨A2, c2, rfl, l2, g2⟩⟩⟩ := h
  exact ⟨A2, c2, rfl, l2, g2⟩
theorem kSchema_openM {w : World} {base : Nat} {ok : Nat → Prop} {x : SSchema} {cs : List Value} (h : kSchema.M w base ok x cs) : ∃ v2, cs = [.string x.f0, .int .i64 x.f1, v2] ∧ kField.R 92 w base ok v2 x.f2 := by
  obtain ⟨_, _, rfl, rfl, ⟨_, _, rfl, rfl, ⟨v2, rfl, g2⟩⟩⟩ := h
  exact ⟨v2, rfl, g2⟩
theorem kSchema_mk (w : World) (x : SSchema) {A2 : Option Addr} {c2 : Nat} (l2 : x.f2.length ≤ c2) (g2 : kField.C w A2 x.f2.length x.f2) : kSchema.K w x [.string x.f0, .int .i64 x.f1, .slice A2 x.f2.length c2] := ⟨[.string x.f0], [.int .i64 x.f1, .slice A2 x.f2.length c2], rfl, rfl, ⟨[.int .i64 x.f1], [.slice A2 x.f2.length c2], rfl, rfl, ⟨A2, c2, rfl, l2, g2⟩⟩⟩
theorem kSchema_mkM (w : World) (base : Nat) (ok : Nat → Prop) (x : SSchema) {v2 : Value} (g2 : kField.R 92 w base ok v2 x.f2) : kSchema.M w base ok x [.string x.f0, .int .i64 x.f1, v2] := ⟨[.string x.f0], [.int .i64 x.f1, v2], rfl, rfl, ⟨[.int .i64 x.f1], [v2], rfl, rfl, ⟨v2, rfl, g2⟩⟩⟩
theorem kSchema_openF {W : World} {ok : Nat → Prop} {x : SSchema} {cs : List Value} (h : Kd.FK kSchema W ok x cs) : ∃ A2 c2, cs = [.string x.f0, .int .i64 x.f1, .slice A2 x.f2.length c2] ∧ x.f2.length ≤ c2 ∧ Kd.F kField W ok A2 x.f2.length x.f2 := by
  obtain ⟨A2, c2, rfl, l2, _⟩ := kSchema_open (Kd.FK_now h)
  exact ⟨A2, c2, rfl, l2, (fun W' hW => by obtain ⟨A2_, c2_, he, l2_, g2_⟩ := kSchema_open (h W' hW); injection (Option.some.inj (show some (Value.slice A2 x.f2.length c2) = some (Value.slice A2_ x.f2.length c2_) from congrArg (fun l => l[2]?) he)) with ha_ _ _; rw [ha_]; exact g2_)⟩
theorem kSchema_mkF (W : World) (ok : Nat → Prop) (x : SSchema) {A2 : Option Addr} {c2 : Nat} (l2 : x.f2.length ≤ c2) (g2 : Kd.F kField W ok A2 x.f2.length x.f2) : Kd.FK kSchema W ok x [.string x.f0, .int .i64 x.f1, .slice A2 x.f2.length c2] := fun W2 hW => kSchema_mk W2 x l2 (g2 W2 hW)
def rd_TSchema (xs : List SSchema) (i : Int) : SSchema := xs.getD i.toNat zSchema
theorem at_TSchema {w : World} {A : Option Addr} {n : Nat} {xs : List SSchema} (h : Kd.C kSchema w A n xs) (i : Int) (h0 : 0 ≤ i) (h1 : i < n) : ∃ ad A2 c2, A = some ad ∧ w.cell? (ad.add (i.toNat * 3)) = some (.string (rd_TSchema xs i).f0) ∧ w.cell? ⟨(ad.add (i.toNat * 3)).block, (ad.add (i.toNat * 3)).off + 1, none⟩ = some (.int .i64 (rd_TSchema xs i).f1) ∧ w.cell? ⟨(ad.add (i.toNat * 3)).block, (ad.add (i.toNat * 3)).off + 2, none⟩ = some (.slice A2 (rd_TSchema xs i).f2.length c2) ∧ (rd_TSchema xs i).f2.length ≤ c2 ∧ kField.C w A2 (rd_TSchema xs i).f2.length (rd_TSchema xs i).f2 := by
  obtain ⟨ad, c, e, _, hK, hc0⟩ := Kd.C_get h zSchema i h0 h1
  have hc : ∀ j u, c[j]? = some u → w.cell? (ad.add (i.toNat * 3 + j)) = some u := hc0
  obtain ⟨A2, c2, rfl, l2, g2⟩ := kSchema_open hK
  exact ⟨ad, A2, c2, e, hc 0 _ rfl, by rw [← add_field _ _ 1 (by omega)]; exact hc 1 _ rfl, by rw [← add_field _ _ 2 (by omega)]; exact hc 2 _ rfl, l2, g2⟩

/-! #### struct type 98 -/
structure SOp where
  f0 : Int
  f1 : Int
  f2 : SValue
def zOp : SOp := ⟨(0 : Int), (0 : Int), zValue⟩
def kOp : Kd SOp := Kd.iso (Kd.pair (Kd.int .i64) (Kd.pair (Kd.int .i64) kValue)) (fun x : SOp => (x.f0, x.f1, x.f2))
theorem kOp_heap : Kd.Heap kOp := Kd.heap_iso _ (Kd.heap_pair (Kd.heap_int .i64) (Kd.heap_pair (Kd.heap_int .i64) kValue_heap))
theorem kOp_open {w : World} {x : SOp} {cs : List Value} (h : kOp.K w x cs) : cs = [.int .i64 x.f0, .int .i64 x.f1, .int .i64 x.f2.f0, .int .i64 x.f2.f1, .string x.f2.f2] := by
  obtain ⟨_, _, rfl, rfl, ⟨_, _, rfl, rfl, s2⟩⟩ := h
  obtain rfl := kValue_open s2
  exact rfl
theorem kOp_openM {w : World} {base : Nat} {ok : Nat → Prop} {x : SOp} {cs : List Value} (h : kOp.M w base ok x cs) : cs = [.int .i64 x.f0, .int .i64 x.f1, .int .i64 x.f2.f0, .int .i64 x.f2.f1, .string x.f2.f2] := by
  obtain ⟨_, _, rfl, rfl, ⟨_, _, rfl, rfl, s2⟩⟩ := h
  obtain rfl := kValue_openM s2
  exact rfl
theorem kOp_mk (w : World) (x : SOp)  : kOp.K w x [.int .i64 x.f0, .int .i64 x.f1, .int .i64 x.f2.f0, .int .i64 x.f2.f1, .string x.f2.f2] := ⟨[.int .i64 x.f0], [.int .i64 x.f1, .int .i64 x.f2.f0, .int .i64 x.f2.f1, .string x.f2.f2], rfl, rfl, ⟨[.int .i64 x.f1], [.int .i64 x.f2.f0, .int .i64 x.f2.f1, .string x.f2.f2], rfl, rfl, (kValue_mk w x.f2 )⟩⟩
theorem kOp_mkM (w : World) (base : Nat) (ok : Nat → Prop) (x : SOp)  : kOp.M w base ok x [.int .i64 x.f0, .int .i64 x.f1, .int .i64 x.f2.f0, .int .i64 x.f2.f1, .string x.f2.f2] := ⟨[.int .i64 x.f0], [.int .i64 x.f1, .int .i64 x.f2.f0, .int .i64 x.f2.f1, .string x.f2.f2], rfl, rfl, ⟨[.int .i64 x.f1], [.int .i64 x.f2.f0, .int .i64 x.f2.f1, .string x.f2.f2], rfl, rfl, (kValue_mkM w base ok x.f2 )⟩⟩
theorem kOp_mkF (W : World) (ok : Nat → Prop) (x : SOp) : Kd.FK kOp W ok x [.int .i64 x.f0, .int .i64 x.f1, .int .i64 x.f2.f0, .int .i64 x.f2.f1, .string x.f2.f2] := fun W2 _ => kOp_mk W2 x
def rd_TOp (xs : List SOp) (i : Int) : SOp := xs.getD i.toNat zOp
theorem at_TOp {w : World} {A : Option Addr} {n : Nat} {xs : List SOp} (h : Kd.C kOp w A n xs) (i : Int) (h0 : 0 ≤ i) (h1 : i < n) : ∃ ad , A = some ad ∧ w.cell? (ad.add (i.toNat * 5)) = some (.int .i64 (rd_TOp xs i).f0) ∧ w.cell? ⟨(ad.add (i.toNat * 5)).block, (ad.add (i.toNat * 5)).off + 1, none⟩ = some (.int .i64 (rd_TOp xs i).f1) ∧ w.cell? ⟨(ad.add (i.toNat * 5)).block, (ad.add (i.toNat * 5)).off + 2, none⟩ = some (.int .i64 (rd_TOp xs i).f2.f0) ∧ w.cell? ⟨(ad.add (i.toNat * 5)).block, (ad.add (i.toNat * 5)).off + 3, none⟩ = some (.int .i64 (rd_TOp xs i).f2.f1) ∧ w.cell? ⟨(ad.add (i.toNat * 5)).block, (ad.add (i.toNat * 5)).off + 4, none⟩ = some (.string (rd_TOp xs i).f2.f2) := by
  obtain ⟨ad, c, e, _, hK, hc0⟩ := Kd.C_get h zOp i h0 h1
  have hc : ∀ j u, c[j]? = some u → w.cell? (ad.add (i.toNat * 5 + j)) = some u := hc0
  obtain rfl := kOp_open hK
  exact ⟨ad, e, hc 0 _ rfl, by rw [← add_field _ _ 1 (by omega)]; exact hc 1 _ rfl, by rw [← add_field _ _ 2 (by omega)]; exact hc 2 _ rfl, by rw [← add_field _ _ 3 (by omega)]; exact hc 3 _ rfl, by rw [← add_field _ _ 4 (by omega)]; exact hc 4 _ rfl⟩

def rd_L17 (xs : List (List SOp)) (i : Int) : (List SOp) := xs.getD i.toNat ([] : List SOp)
theorem at_L17 {w : World} {A : Option Addr} {n : Nat} {xs : List (List SOp)} (h : Kd.C (Kd.slice 98 kOp) w A n xs) (i : Int) (h0 : 0 ≤ i) (h1 : i < n) : ∃ ad A0 c0, A = some ad ∧ w.cell? (ad.add i.toNat) = some (.slice A0 (rd_L17 xs i).length c0) ∧ (rd_L17 xs i).length ≤ c0 ∧ kOp.C w A0 (rd_L17 xs i).length (rd_L17 xs i) := by
  obtain ⟨ad, c, e, _, hK, hc0⟩ := Kd.C_get h ([] : List SOp) i h0 h1
  have hc : ∀ j u, c[j]? = some u → w.cell? (ad.add (i.toNat * 1 + j)) = some u := hc0
  obtain ⟨A0, c0, rfl, l0, g0⟩ := hK
  exact ⟨ad, A0, c0, e, by have hq := hc 0 _ rfl; rwa [Nat.mul_one, Nat.add_zero] at hq, l0, g0⟩

/-! #### struct type 95 -/
structure SStep where
  f0 : ByteArray
  f1 : (List SOp)
  f2 : Int
  f3 : Int
  f4 : Bool
  f5 : ByteArray
  f6 : (List SOp)
def zStep : SStep := ⟨(⟨#[]⟩ : ByteArray), ([] : List SOp), (0 : Int), (0 : Int), false, (⟨#[]⟩ : ByteArray), ([] : List SOp)⟩
def kStep : Kd SStep := Kd.iso (Kd.pair Kd.string (Kd.pair (Kd.slice 98 kOp) (Kd.pair (Kd.int .i64) (Kd.pair (Kd.int .i64) (Kd.pair Kd.bool (Kd.pair Kd.string (Kd.slice 98 kOp))))))) (fun x : SStep => (x.f0, x.f1, x.f2, x.f3, x.f4, x.f5, x.f6))
theorem kStep_heap : Kd.Heap kStep := Kd.heap_iso _ (Kd.heap_pair Kd.heap_string (Kd.heap_pair (Kd.heap_slice 98 kOp_heap) (Kd.heap_pair (Kd.heap_int .i64) (Kd.heap_pair (Kd.heap_int .i64) (Kd.heap_pair Kd.heap_bool (Kd.heap_pair Kd.heap_string (Kd.heap_slice 98 kOp_heap)))))))
theorem kStep_open {w : World} {x : SStep} {cs : List Value} (h : kStep.K w x cs) : ∃ A1 c1 A6 c6, cs = [.string x.f0, .slice A1 x.f1.length c1, .int .i64 x.f2, .int .i64 x.f3, .bool x.f4, .string x.f5, .slice A6 x.f6.length c6] ∧ x.f1.length ≤ c1 ∧ kOp.C w A1 x.f1.length x.f1 ∧ x.f6.length ≤ c6 ∧ kOp.C w A6 x.f6.length x.f6 := by
  obtain ⟨_, _, rfl, rfl, ⟨_, _, rfl, ⟨A1, c1, rfl, l1, g1⟩, ⟨_, _, rfl, rfl, ⟨_, _, rfl, rfl, ⟨_, _, rfl, rfl, ⟨_, _, rfl, rfl, ⟨A6, c6, rfl, l6, g6⟩⟩⟩⟩⟩⟩⟩ := h
  exact ⟨A1, c1, A6, c6, rfl, l1, g1, l6, g6⟩
theorem kStep_openM {w : World} {base : Nat} {ok : Nat → Prop} {x : SStep} {cs : List Value} (h : kStep.M w base ok x cs) : ∃ v1 v6, cs = [.string x.f0, v1, .int .i64 x.f2, .int .i64 x.f3, .bool x.f4, .string x.f5, v6] ∧ kOp.R 98 w base ok v1 x.f1 ∧ kOp.R 98 w base ok v6 x.f6 := by
  obtain ⟨_, _, rfl, rfl, ⟨_, _, rfl, ⟨v1, rfl, g1⟩, ⟨_, _, rfl, rfl, ⟨_, _, rfl, rfl, ⟨_, _, rfl, rfl, ⟨_, _, rfl, rfl, ⟨v6, rfl, g6⟩⟩⟩⟩⟩⟩⟩ := h
  exact ⟨v1, v6, rfl, g1, g6⟩
theorem kStep_mk (w : World) (x : SStep) {A1 : Option Addr} {c1 : Nat} (l1 : x.f1.length ≤ c1) (g1 : kOp.C w A1 x.f1.length x.f1) {A6 : Option Addr} {c6 : Nat} (l6 : x.f6.length ≤ c6) (g6 : kOp.C w A6 x.f6.length x.f6) : kStep.K w x [.string x.f0, .slice A1 x.f1.length c1, .int .i64 x.f2, .int .i64 x.f3, .bool x.f4, .string x.f5, .slice A6 x.f6.length c6] := ⟨[.string x.f0], [.slice A1 x.f1.length c1, .int .i64 x.f2, .int .i64 x.f3, .bool x.f4, .string x.f5, .slice A6 x.f6.length c6], rfl, rfl, ⟨[.slice A1 x.f1.length c1], [.int .i64 x.f2, .int .i64 x.f3, .bool x.f4, .string x.f5, .slice A6 x.f6.length c6], rfl, ⟨A1, c1, rfl, l1, g1⟩, ⟨[.int .i64 x.f2], [.int .i64 x.f3, .bool x.f4, .string x.f5, .slice A6 x.f6.length c6], rfl, rfl, ⟨[.int .i64 x.f3], [.bool x.f4, .string x.f5, .slice A6 x.f6.length c6], rfl, rfl, ⟨[.bool x.f4], [.string x.f5, .slice A6 x.f6.length c6], rfl, rfl, ⟨[.string x.f5], [.slice A6 x.f6.length c6], rfl, rfl, ⟨A6, c6, rfl, l6, g6⟩⟩⟩⟩⟩⟩⟩
theorem kStep_mkM (w : World) (base : Nat) (ok : Nat → Prop) (x : SStep) {v1 : Value} (g1 : kOp.R 98 w base ok v1 x.f1) {v6 : Value} (g6 : kOp.R 98 w base ok v6 x.f6) : kStep.M w base ok x [.string x.f0, v1, .int .i64 x.f2, .int .i64 x.f3, .bool x.f4, .string x.f5, v6] := ⟨[.string x.f0], [v1, .int .i64 x.f2, .int .i64 x.f3, .bool x.f4, .string x.f5, v6], rfl, rfl, ⟨[v1], [.int .i64 x.f2, .int .i64 x.f3, .bool x.f4, .string x.f5, v6], rfl, ⟨v1, rfl, g1⟩, ⟨[.int .i64 x.f2], [.int .i64 x.f3, .bool x.f4, .string x.f5, v6], rfl, rfl, ⟨[.int .i64 x.f3], [.bool x.f4, .string x.f5, v6], rfl, rfl, ⟨[.bool x.f4], [.string x.f5, v6], rfl, rfl, ⟨[.string x.f5], [v6], rfl, rfl, ⟨v6, rfl, g6⟩⟩⟩⟩⟩⟩⟩
theorem kStep_openF {W : World} {ok : Nat → Prop} {x : SStep} {cs : List Value} (h : Kd.FK kStep W ok x cs) : ∃ A1 c1 A6 c6, cs = [.string x.f0, .slice A1 x.f1.length c1, .int .i64 x.f2, .int .i64 x.f3, .bool x.f4, .string x.f5, .slice A6 x.f6.length c6] ∧ x.f1.length ≤ c1 ∧ Kd.F kOp W ok A1 x.f1.length x.f1 ∧ x.f6.length ≤ c6 ∧ Kd.F kOp W ok A6 x.f6.length x.f6 := by
  obtain ⟨A1, c1, A6, c6, rfl, l1, _, l6, _⟩ := kStep_open (Kd.FK_now h)
  exact ⟨A1, c1, A6, c6, rfl, l1, (fun W' hW => by obtain ⟨A1_, c1_, A6_, c6_, he, l1_, g1_, l6_, g6_⟩ := kStep_open (h W' hW); injection (Option.some.inj (show some (Value.slice A1 x.f1.length c1) = some (Value.slice A1_ x.f1.length c1_) from congrArg (fun l => l[1]?) he)) with ha_ _ _; rw [ha_]; exact g1_), l6, (fun W' hW => by obtain ⟨A1_, c1_, A6_, c6_, he, l1_, g1_, l6_, g6_⟩ := kStep_open (h W' hW); injection (Option.some.inj (show some (Value.slice A6 x.f6.length c6) = some (Value.slice A6_ x.f6.length c6_) from congrArg (fun l => l[6]?) he)) with ha_ _ _; rw [ha_]; exact g6_)⟩
theorem kStep_mkF (W : World) (ok : Nat → Prop) (x : SStep) {A1 : Option Addr} {c1 : Nat} (l1 : x.f1.length ≤ c1) (g1 : Kd.F kOp W ok A1 x.f1.length x.f1) {A6 : Option Addr} {c6 : Nat} (l6 : x.f6.length ≤ c6) (g6 : Kd.F kOp W ok A6 x.f6.length x.f6) : Kd.FK kStep W ok x [.string x.f0, .slice A1 x.f1.length c1, .int .i64 x.f2, .int .i64 x.f3, .bool x.f4, .string x.f5, .slice A6 x.f6.length c6] := fun W2 hW => kStep_mk W2 x l1 (g1 W2 hW) l6 (g6 W2 hW)
def rd_TStep (xs : List SStep) (i : Int) : SStep := xs.getD i.toNat zStep
theorem at_TStep {w : World} {A : Option Addr} {n : Nat} {xs : List SStep} (h : Kd.C kStep w A n xs) (i : Int) (h0 : 0 ≤ i) (h1 : i < n) : ∃ ad A1 c1 A6 c6, A = some ad ∧ w.cell? (ad.add (i.toNat * 7)) = some (.string (rd_TStep xs i).f0) ∧ w.cell? ⟨(ad.add (i.toNat * 7)).block, (ad.add (i.toNat * 7)).off + 1, none⟩ = some (.slice A1 (rd_TStep xs i).f1.length c1) ∧ w.cell? ⟨(ad.add (i.toNat * 7)).block, (ad.add (i.toNat * 7)).off + 2, none⟩ = some (.int .i64 (rd_TStep xs i).f2) ∧ w.cell? ⟨(ad.add (i.toNat * 7)).block, (ad.add (i.toNat * 7)).off + 3, none⟩ = some (.int .i64 (rd_TStep xs i).f3) ∧ w.cell? ⟨(ad.add (i.toNat * 7)).block, (ad.add (i.toNat * 7)).off + 4, none⟩ = some (.bool (rd_TStep xs i).f4) ∧ w.cell? ⟨(ad.add (i.toNat * 7)).block, (ad.add (i.toNat * 7)).off + 5, none⟩ = some (.string (rd_TStep xs i).f5) ∧ w.cell? ⟨(ad.add (i.toNat * 7)).block, (ad.add (i.toNat * 7)).off + 6, none⟩ = some (.slice A6 (rd_TStep xs i).f6.length c6) ∧ (rd_TStep xs i).f1.length ≤ c1 ∧ kOp.C w A1 (rd_TStep xs i).f1.length (rd_TStep xs i).f1 ∧ (rd_TStep xs i).f6.length ≤ c6 ∧ kOp.C w A6 (rd_TStep xs i).f6.length (rd_TStep xs i).f6 := by
  obtain ⟨ad, c, e, _, hK, hc0⟩ := Kd.C_get h zStep i h0 h1
  have hc : ∀ j u, c[j]? = some u → w.cell? (ad.add (i.toNat * 7 + j)) = some u := hc0
  obtain ⟨A1, c1, A6, c6, rfl, l1, g1, l6, g6⟩ := kStep_open hK
  exact ⟨ad, A1, c1, A6, c6, e, hc 0 _ rfl, by rw [← add_field _ _ 1 (by omega)]; exact hc 1 _ rfl, by rw [← add_field _ _ 2 (by omega)]; exact hc 2 _ rfl, by rw [← add_field _ _ 3 (by omega)]; exact hc 3 _ rfl, by rw [← add_field _ _ 4 (by omega)]; exact hc 4 _ rfl, by rw [← add_field _ _ 5 (by omega)]; exact hc 5 _ rfl, by rw [← add_field _ _ 6 (by omega)]; exact hc 6 _ rfl, l1, g1, l6, g6⟩

def rd_L19 (xs : List (List SStep)) (i : Int) : (List SStep) := xs.getD i.toNat ([] : List SStep)
theorem at_L19 {w : World} {A : Option Addr} {n : Nat} {xs : List (List SStep)} (h : Kd.C (Kd.slice 95 kStep) w A n xs) (i : Int) (h0 : 0 ≤ i) (h1 : i < n) : ∃ ad A0 c0, A = some ad ∧ w.cell? (ad.add i.toNat) = some (.slice A0 (rd_L19 xs i).length c0) ∧ (rd_L19 xs i).length ≤ c0 ∧ kStep.C w A0 (rd_L19 xs i).length (rd_L19 xs i) := by
  obtain ⟨ad, c, e, _, hK, hc0⟩ := Kd.C_get h ([] : List SStep) i h0 h1
  have hc : ∀ j u, c[j]? = some u → w.cell? (ad.add (i.toNat * 1 + j)) = some u := hc0
  obtain ⟨A0, c0, rfl, l0, g0⟩ := hK
  exact ⟨ad, A0, c0, e, by have hq := hc 0 _ rfl; rwa [Nat.mul_one, Nat.add_zero] at hq, l0, g0⟩

/-! #### struct type 55 -/
structure SQuery where
  f0 : (List SStep)
  f1 : Int
  f2 : Int
  f3 : Int
  f4 : Int
def zQuery : SQuery := ⟨([] : List SStep), (0 : Int), (0 : Int), (0 : Int), (0 : Int)⟩
def kQuery : Kd SQuery := Kd.iso (Kd.pair (Kd.slice 95 kStep) (Kd.pair (Kd.int .i64) (Kd.pair (Kd.int .i64) (Kd.pair (Kd.int .i64) (Kd.int .i64))))) (fun x : SQuery => (x.f0, x.f1, x.f2, x.f3, x.f4))
theorem kQuery_heap : Kd.Heap kQuery := Kd.heap_iso _ (Kd.heap_pair (Kd.heap_slice 95 kStep_heap) (Kd.heap_pair (Kd.heap_int .i64) (Kd.heap_pair (Kd.heap_int .i64) (Kd.heap_pair (Kd.heap_int .i64) (Kd.heap_int .i64)))))
theorem kQuery_open {w : World} {x : SQuery} {cs : List Value} (h : kQuery.K w x cs) : ∃ A0 c0, cs = [.slice A0 x.f0.length c0, .int .i64 x.f1, .int .i64 x.f2, .int .i64 x.f3, .int .i64 x.f4] ∧ x.f0.length ≤ c0 ∧ kStep.C w A0 x.f0.length x.f0 := by
  obtain ⟨_, _, rfl, ⟨A0, c0, rfl, l0, g0⟩, ⟨_, _, rfl, rfl, ⟨_, _, rfl, rfl, ⟨_, _, rfl, rfl, rfl⟩⟩⟩⟩ := h
  exact ⟨A0, c0, rfl, l0, g0⟩
theorem kQuery_openM {w : World} {base : Nat} {ok : Nat → Prop} {x : SQuery} {cs : List Value} (h : kQuery.M w base ok x cs) : ∃ v0, cs = [v0, .int .i64 x.f1, .int .i64 x.f2, .int .i64 x.f3, .int .i64 x.f4] ∧ kStep.R 95 w base ok v0 x.f0 := by
  obtain ⟨_, _, rfl, ⟨v0, rfl, g0⟩, ⟨_, _, rfl, rfl, ⟨_, _, rfl, rfl, ⟨_, _, rfl, rfl, rfl⟩⟩⟩⟩ := h
  exact ⟨v0, rfl, g0⟩
theorem kQuery_mk (w : World) (x : SQuery) {A0 : Option Addr} {c0 : Nat} (l0 : x.f0.length ≤ c0) (g0 : kStep.C w A0 x.f0.length x.f0) : kQuery.K w x [.slice A0 x.f0.length c0, .int .i64 x.f1, .int .i64 x.f2, .int .i64 x.f3, .int .i64 x.f4] := ⟨[.slice A0 x.f0.length c0], [.int .i64 x.f1, .int .i64 x.f2, .int .i64 x.f3, .int .i64 x.f4], rfl, ⟨A0, c0, rfl, l0, g0⟩, ⟨[.int .i64 x.f1], [.int .i64 x.f2, .int .i64 x.f3, .int .i64 x.f4], rfl, rfl, ⟨[.int .i64 x.f2], [.int .i64 x.f3, .int .i64 x.f4], rfl, rfl, ⟨[.int .i64 x.f3], [.int .i64 x.f4], rfl, rfl, rfl⟩⟩⟩⟩
theorem kQuery_mkM (w : World) (base : Nat) (ok : Nat → Prop) (x : SQuery) {v0 : Value} (g0 : kStep.R 95 w base ok v0 x.f0) : kQuery.M w base ok x [v0, .int .i64 x.f1, .int .i64 x.f2, .int .i64 x.f3, .int .i64 x.f4] := ⟨[v0], [.int .i64 x.f1, .int .i64 x.f2, .int .i64 x.f3, .int .i64 x.f4], rfl, ⟨v0, rfl, g0⟩, ⟨[.int .i64 x.f1], [.int .i64 x.f2, .int .i64 x.f3, .int .i64 x.f4], rfl, rfl, ⟨[.int .i64 x.f2], [.int .i64 x.f3, .int .i64 x.f4], rfl, rfl, ⟨[.int .i64 x.f3], [.int .i64 x.f4], rfl, rfl, rfl⟩⟩⟩⟩
theorem kQuery_openF {W : World} {ok : Nat → Prop} {x : SQuery} {cs : List Value} (h : Kd.FK kQuery W ok x cs) : ∃ A0 c0, cs = [.slice A0 x.f0.length c0, .int .i64 x.f1, .int .i64 x.f2, .int .i64 x.f3, .int .i64 x.f4] ∧ x.f0.length ≤ c0 ∧ Kd.F kStep W ok A0 x.f0.length x.f0 := by
  obtain ⟨A0, c0, rfl, l0, _⟩ := kQuery_open (Kd.FK_now h)
  exact ⟨A0, c0, rfl, l0, (fun W' hW => by obtain ⟨A0_, c0_, he, l0_, g0_⟩ := kQuery_open (h W' hW); injection (Option.some.inj (show some (Value.slice A0 x.f0.length c0) = some (Value.slice A0_ x.f0.length c0_) from congrArg (fun l => l[0]?) he)) with ha_ _ _; rw [ha_]; exact g0_)⟩
theorem kQuery_mkF (W : World) (ok : Nat → Prop) (x : SQuery) {A0 : Option Addr} {c0 : Nat} (l0 : x.f0.length ≤ c0) (g0 : Kd.F kStep W ok A0 x.f0.length x.f0) : Kd.FK kQuery W ok x [.slice A0 x.f0.length c0, .int .i64 x.f1, .int .i64 x.f2, .int .i64 x.f3, .int .i64 x.f4] := fun W2 hW => kQuery_mk W2 x l0 (g0 W2 hW)
def rd_TQuery (xs : List SQuery) (i : Int) : SQuery := xs.getD i.toNat zQuery
theorem at_TQuery {w : World} {A : Option Addr} {n : Nat} {xs : List SQuery} (h : Kd.C kQuery w A n xs) (i : Int) (h0 : 0 ≤ i) (h1 : i < n) : ∃ ad A0 c0, A = some ad ∧ w.cell? (ad.add (i.toNat * 5)) = some (.slice A0 (rd_TQuery xs i).f0.length c0) ∧ w.cell? ⟨(ad.add (i.toNat * 5)).block, (ad.add (i.toNat * 5)).off + 1, none⟩ = some (.int .i64 (rd_TQuery xs i).f1) ∧ w.cell? ⟨(ad.add (i.toNat * 5)).block, (ad.add (i.toNat * 5)).off + 2, none⟩ = some (.int .i64 (rd_TQuery xs i).f2) ∧ w.cell? ⟨(ad.add (i.toNat * 5)).block, (ad.add (i.toNat * 5)).off + 3, none⟩ = some (.int .i64 (rd_TQuery xs i).f3) ∧ w.cell? ⟨(ad.add (i.toNat * 5)).block, (ad.add (i.toNat * 5)).off + 4, none⟩ = some (.int .i64 (rd_TQuery xs i).f4) ∧ (rd_TQuery xs i).f0.length ≤ c0 ∧ kStep.C w A0 (rd_TQuery xs i).f0.length (rd_TQuery xs i).f0 := by
  obtain ⟨ad, c, e, _, hK, hc0⟩ := Kd.C_get h zQuery i h0 h1
  have hc : ∀ j u, c[j]? = some u → w.cell? (ad.add (i.toNat * 5 + j)) = some u := hc0
  obtain ⟨A0, c0, rfl, l0, g0⟩ := kQuery_open hK
  exact ⟨ad, A0, c0, e, hc 0 _ rfl, by rw [← add_field _ _ 1 (by omega)]; exact hc 1 _ rfl, by rw [← add_field _ _ 2 (by omega)]; exact hc 2 _ rfl, by rw [← add_field _ _ 3 (by omega)]; exact hc 3 _ rfl, by rw [← add_field _ _ 4 (by omega)]; exact hc 4 _ rfl, l0, g0⟩

/-! #### struct type 57 -/
structure SReq where
  f0 : Int
  f1 : Int
  f2 : Int
  f3 : Int
  f4 : SSchema
  f5 : SEvent
  f6 : SQuery
def zReq : SReq := ⟨(0 : Int), (0 : Int), (0 : Int), (0 : Int), zSchema, zEvent, zQuery⟩
def kReq : Kd SReq := Kd.iso (Kd.pair (Kd.int .i64) (Kd.pair (Kd.int .i64) (Kd.pair (Kd.int .i64) (Kd.pair (Kd.int .u64) (Kd.pair kSchema (Kd.pair kEvent kQuery)))))) (fun x : SReq => (x.f0, x.f1, x.f2, x.f3, x.f4, x.f5, x.f6))
theorem kReq_heap : Kd.Heap kReq := Kd.heap_iso _ (Kd.heap_pair (Kd.heap_int .i64) (Kd.heap_pair (Kd.heap_int .i64) (Kd.heap_pair (Kd.heap_int .i64) (Kd.heap_pair (Kd.heap_int .u64) (Kd.heap_pair kSchema_heap (Kd.heap_pair kEvent_heap kQuery_heap))))))
theorem kReq_open {w : World} {x : SReq} {cs : List Value} (h : kReq.K w x cs) : ∃ A6 c6 A9 c9 A10 c10, cs = [.int .i64 x.f0, .int .i64 x.f1, .int .i64 x.f2, .int .u64 x.f3, .string x.f4.f0, .int .i64 x.f4.f1, .slice A6 x.f4.f2.length c6, .string x.f5.f0, .int .i64 x.f5.f1, .slice A9 x.f5.f2.length c9, .slice A10 x.f6.f0.length c10, .int .i64 x.f6.f1, .int .i64 x.f6.f2, .int .i64 x.f6.f3, .int .i64 x.f6.f4] ∧ x.f4.f2.length ≤ c6 ∧ kField.C w A6 x.f4.f2.length x.f4.f2 ∧ x.f5.f2.length ≤ c9 ∧ kValue.C w A9 x.f5.f2.length x.f5.f2 ∧ x.f6.f0.length ≤ c10 ∧ kStep.C w A10 x.f6.f0.length x.f6.f0 := by
  obtain ⟨_, _, rfl, rfl, ⟨_, _, rfl, rfl, ⟨_, _, rfl, rfl, ⟨_, _, rfl, rfl, ⟨_, _, rfl, s4, ⟨_, _, rfl, s7, s10⟩⟩⟩⟩⟩⟩ := h
  obtain ⟨A6, c6, rfl, l6, g6⟩ := kSchema_open s4
  obtain ⟨A9, c9, rfl, l9, g9⟩ := kEvent_open s7
  obtain ⟨A10, c10, rfl, l10, g10⟩ := kQuery_open s10
  exact ⟨A6, c6, A9, c9, A10, c10, rfl, l6, g6, l9, g9, l10, g10⟩
theorem kReq_openM {w : World} {base : Nat} {ok : Nat → Prop} {x : SReq} {cs : List Value} (h : kReq.M w base ok x cs) : ∃ v6 v9 v10, cs = [.int .i64 x.f0, .int .i64 x.f1, .int .i64 x.f2, .int .u64 x.f3, .string x.f4.f0, .int .i64 x.f4.f1, v6, .string x.f5.f0, .int .i64 x.f5.f1, v9, v10, .int .i64 x.f6.f1, .int .i64 x.f6.f2, .int .i64 x.f6.f3, .int .i64 x.f6.f4] ∧ kField.R 92 w base ok v6 x.f4.f2 ∧ kValue.R 74 w base ok v9 x.f5.f2 ∧ kStep.R 95 w base ok v10 x.f6.f0 := by
  obtain ⟨_, _, rfl, rfl, ⟨_, _, rfl, rfl, ⟨_, _, rfl, rfl, ⟨_, _, rfl, rfl, ⟨_, _, rfl, s4, ⟨_, _, rfl, s7, s10⟩⟩⟩⟩⟩⟩ := h
  obtain ⟨v6, rfl, g6⟩ := kSchema_openM s4
  obtain ⟨v9, rfl, g9⟩ := kEvent_openM s7
  obtain ⟨v10, rfl, g10⟩ := kQuery_openM s10
  exact ⟨v6, v9, v10, rfl, g6, g9, g10⟩
theorem kReq_mk (w : World) (x : SReq) {A6 : Option Addr} {c6 : Nat} (l6 : x.f4.f2.length ≤ c6) (g6 : kField.C w A6 x.f4.f2.length x.f4.f2) {A9 : Option Addr} {c9 : Nat} (l9 : x.f5.f2.length ≤ c9) (g9 : kValue.C w A9 x.f5.f2.length x.f5.f2) {A10 : Option Addr} {c10 : Nat} (l10 : x.f6.f0.length ≤ c10) (g10 : kStep.C w A10 x.f6.f0.length x.f6.f0) : kReq.K w x [.int .i64 x.f0, .int .i64 x.f1, .int .i64 x.f2, .int .u64 x.f3, .string x.f4.f0, .int .i64 x.f4.f1, .slice A6 x.f4.f2.length c6, .string x.f5.f0, .int .i64 x.f5.f1, .slice A9 x.f5.f2.length c9, .slice A10 x.f6.f0.length c10, .int .i64 x.f6.f1, .int .i64 x.f6.f2, .int .i64 x.f6.f3, .int .i64 x.f6.f4] := ⟨[.int .i64 x.f0], [.int .i64 x.f1, .int .i64 x.f2, .int .u64 x.f3, .string x.f4.f0, .int .i64 x.f4.f1, .slice A6 x.f4.f2.length c6, .string x.f5.f0, .int .i64 x.f5.f1, .slice A9 x.f5.f2.length c9, .slice A10 x.f6.f0.length c10, .int .i64 x.f6.f1, .int .i64 x.f6.f2, .int .i64 x.f6.f3, .int .i64 x.f6.f4], rfl, rfl, ⟨[.int .i64 x.f1], [.int .i64 x.f2, .int .u64 x.f3, .string x.f4.f0, .int .i64 x.f4.f1, .slice A6 x.f4.f2.length c6, .string x.f5.f0, .int .i64 x.f5.f1, .slice A9 x.f5.f2.length c9, .slice A10 x.f6.f0.length c10, .int .i64 x.f6.f1, .int .i64 x.f6.f2, .int .i64 x.f6.f3, .int .i64 x.f6.f4], rfl, rfl, ⟨[.int .i64 x.f2], [.int .u64 x.f3, .string x.f4.f0, .int .i64 x.f4.f1, .slice A6 x.f4.f2.length c6, .string x.f5.f0, .int .i64 x.f5.f1, .slice A9 x.f5.f2.length c9, .slice A10 x.f6.f0.length c10, .int .i64 x.f6.f1, .int .i64 x.f6.f2, .int .i64 x.f6.f3, .int .i64 x.f6.f4], rfl, rfl, ⟨[.int .u64 x.f3], [.string x.f4.f0, .int .i64 x.f4.f1, .slice A6 x.f4.f2.length c6, .string x.f5.f0, .int .i64 x.f5.f1, .slice A9 x.f5.f2.length c9, .slice A10 x.f6.f0.length c10, .int .i64 x.f6.f1, .int .i64 x.f6.f2, .int .i64 x.f6.f3, .int .i64 x.f6.f4], rfl, rfl, ⟨[.string x.f4.f0, .int .i64 x.f4.f1, .slice A6 x.f4.f2.length c6], [.string x.f5.f0, .int .i64 x.f5.f1, .slice A9 x.f5.f2.length c9, .slice A10 x.f6.f0.length c10, .int .i64 x.f6.f1, .int .i64 x.f6.f2, .int .i64 x.f6.f3, .int .i64 x.f6.f4], rfl, (kSchema_mk w x.f4 l6 g6), ⟨[.string x.f5.f0, .int .i64 x.f5.f1, .slice A9 x.f5.f2.length c9], [.slice A10 x.f6.f0.length c10, .int .i64 x.f6.f1, .int .i64 x.f6.f2, .int .i64 x.f6.f3, .int .i64 x.f6.f4], rfl, (kEvent_mk w x.f5 l9 g9), (kQuery_mk w x.f6 l10 g10)⟩⟩⟩⟩⟩⟩
theorem kReq_mkM (w : World) (base : Nat) (ok : Nat → Prop) (x : SReq) {v6 : Value} (g6 : kField.R 92 w base ok v6 x.f4.f2) {v9 : Value} (g9 : kValue.R 74 w base ok v9 x.f5.f2) {v10 : Value} (g10 : kStep.R 95 w base ok v10 x.f6.f0) : kReq.M w base ok x [.int .i64 x.f0, .int .i64 x.f1, .int .i64 x.f2, .int .u64 x.f3, .string x.f4.f0, .int .i64 x.f4.f1, v6, .string x.f5.f0, .int .i64 x.f5.f1, v9, v10, .int .i64 x.f6.f1, .int .i64 x.f6.f2, .int .i64 x.f6.f3, .int .i64 x.f6.f4] := ⟨[.int .i64 x.f0], [.int .i64 x.f1, .int .i64 x.f2, .int .u64 x.f3, .string x.f4.f0, .int .i64 x.f4.f1, v6, .string x.f5.f0, .int .i64 x.f5.f1, v9, v10, .int .i64 x.f6.f1, .int .i64 x.f6.f2, .int .i64 x.f6.f3, .int .i64 x.f6.f4], rfl, rfl, ⟨[.int .i64 x.f1], [.int .i64 x.f2, .int .u64 x.f3, .string x.f4.f0, .int .i64 x.f4.f1, v6, .string x.f5.f0, .int .i64 x.f5.f1, v9, v10, .int .i64 x.f6.f1, .int .i64 x.f6.f2, .int .i64 x.f6.f3, .int .i64 x.f6.f4], rfl, rfl, ⟨[.int .i64 x.f2], [.int .u64 x.f3, .string x.f4.f0, .int .i64 x.f4.f1, v6, .string x.f5.f0, .int .i64 x.f5.f1, v9, v10, .int .i64 x.f6.f1, .int .i64 x.f6.f2, .int .i64 x.f6.f3, .int .i64 x.f6.f4], rfl, rfl, ⟨[.int .u64 x.f3], [.string x.f4.f0, .int .i64 x.f4.f1, v6, .string x.f5.f0, .int .i64 x.f5.f1, v9, v10, .int .i64 x.f6.f1, .int .i64 x.f6.f2, .int .i64 x.f6.f3, .int .i64 x.f6.f4], rfl, rfl, ⟨[.string x.f4.f0, .int .i64 x.f4.f1, v6], [.string x.f5.f0, .int .i64 x.f5.f1, v9, v10, .int .i64 x.f6.f1, .int .i64 x.f6.f2, .int .i64 x.f6.f3, .int .i64 x.f6.f4], rfl, (kSchema_mkM w base ok x.f4 g6), ⟨[.string x.f5.f0, .int .i64 x.f5.f1, v9], [v10, .int .i64 x.f6.f1, .int .i64 x.f6.f2, .int .i64 x.f6.f3, .int .i64 x.f6.f4], rfl, (kEvent_mkM w base ok x.f5 g9), (kQuery_mkM w base ok x.f6 g10)⟩⟩⟩⟩⟩⟩
theorem kReq_openF {W : World} {ok : Nat → Prop} {x : SReq} {cs : List Value} (h : Kd.FK kReq W ok x cs) : ∃ A6 c6 A9 c9 A10 c10, cs = [.int .i64 x.f0, .int .i64 x.f1, .int .i64 x.f2, .int .u64 x.f3, .string x.f4.f0, .int .i64 x.f4.f1, .slice A6 x.f4.f2.length c6, .string x.f5.f0, .int .i64 x.f5.f1, .slice A9 x.f5.f2.length c9, .slice A10 x.f6.f0.length c10, .int .i64 x.f6.f1, .int .i64 x.f6.f2, .int .i64 x.f6.f3, .int .i64 x.f6.f4] ∧ x.f4.f2.length ≤ c6 ∧ Kd.F kField W ok A6 x.f4.f2.length x.f4.f2 ∧ x.f5.f2.length ≤ c9 ∧ Kd.F kValue W ok A9 x.f5.f2.length x.f5.f2 ∧ x.f6.f0.length ≤ c10 ∧ Kd.F kStep W ok A10 x.f6.f0.length x.f6.f0 := by
  obtain ⟨A6, c6, A9, c9, A10, c10, rfl, l6, _, l9, _, l10, _⟩ := kReq_open (Kd.FK_now h)
  exact ⟨A6, c6, A9, c9, A10, c10, rfl, l6, (fun W' hW => by obtain ⟨A6_, c6_, A9_, c9_, A10_, c10_, he, l6_, g6_, l9_, g9_, l10_, g10_⟩ := kReq_open (h W' hW); injection (Option.some.inj (show some (Value.slice A6 x.f4.f2.length c6) = some (Value.slice A6_ x.f4.f2.length c6_) from congrArg (fun l => l[6]?) he)) with ha_ _ _; rw [ha_]; exact g6_), l9, (fun W' hW => by obtain ⟨A6_, c6_, A9_, c9_, A10_, c10_, he, l6_, g6_, l9_, g9_, l10_, g10_⟩ := kReq_open (h W' hW); injection (Option.some.inj (show some (Value.slice A9 x.f5.f2.length c9) = some (Value.slice A9_ x.f5.f2.length c9_) from congrArg (fun l => l[9]?) he)) with ha_ _ _; rw [ha_]; exact g9_), l10, (fun W' hW => by obtain ⟨A6_, c6_, A9_, c9_, A10_, c10_, he, l6_, g6_, l9_, g9_, l10_, g10_⟩ := kReq_open (h W' hW); injection (Option.some.inj (show some (Value.slice A10 x.f6.f0.length c10) = some (Value.slice A10_ x.f6.f0.length c10_) from congrArg (fun l => l[10]?) he)) with ha_ _ _; rw [ha_]; exact g10_)⟩
theorem kReq_mkF (W : World) (ok : Nat → Prop) (x : SReq) {A6 : Option Addr} {c6 : Nat} (l6 : x.f4.f2.length ≤ c6) (g6 : Kd.F kField W ok A6 x.f4.f2.length x.f4.f2) {A9 : Option Addr} {c9 : Nat} (l9 : x.f5.f2.length ≤ c9) (g9 : Kd.F kValue W ok A9 x.f5.f2.length x.f5.f2) {A10 : Option Addr} {c10 : Nat} (l10 : x.f6.f0.length ≤ c10) (g10 : Kd.F kStep W ok A10 x.f6.f0.length x.f6.f0) : Kd.FK kReq W ok x [.int .i64 x.f0, .int .i64 x.f1, .int .i64 x.f2, .int .u64 x.f3, .string x.f4.f0, .int .i64 x.f4.f1, .slice A6 x.f4.f2.length c6, .string x.f5.f0, .int .i64 x.f5.f1, .slice A9 x.f5.f2.length c9, .slice A10 x.f6.f0.length c10, .int .i64 x.f6.f1, .int .i64 x.f6.f2, .int .i64 x.f6.f3, .int .i64 x.f6.f4] := fun W2 hW => kReq_mk W2 x l6 (g6 W2 hW) l9 (g9 W2 hW) l10 (g10 W2 hW)
def rd_TReq (xs : List SReq) (i : Int) : SReq := xs.getD i.toNat zReq
theorem at_TReq {w : World} {A : Option Addr} {n : Nat} {xs : List SReq} (h : Kd.C kReq w A n xs) (i : Int) (h0 : 0 ≤ i) (h1 : i < n) : ∃ ad A6 c6 A9 c9 A10 c10, A = some ad ∧ w.cell? (ad.add (i.toNat * 15)) = some (.int .i64 (rd_TReq xs i).f0) ∧ w.cell? ⟨(ad.add (i.toNat * 15)).block, (ad.add (i.toNat * 15)).off + 1, none⟩ = some (.int .i64 (rd_TReq xs i).f1) ∧ w.cell? ⟨(ad.add (i.toNat * 15)).block, (ad.add (i.toNat * 15)).off + 2, none⟩ = some (.int .i64 (rd_TReq xs i).f2) ∧ w.cell? ⟨(ad.add (i.toNat * 15)).block, (ad.add (i.toNat * 15)).off + 3, none⟩ = some (.int .u64 (rd_TReq xs i).f3) ∧ w.cell? ⟨(ad.add (i.toNat * 15)).block, (ad.add (i.toNat * 15)).off + 4, none⟩ = some (.string (rd_TReq xs i).f4.f0) ∧ w.cell? ⟨(ad.add (i.toNat * 15)).block, (ad.add (i.toNat * 15)).off + 5, none⟩ = some (.int .i64 (rd_TReq xs i).f4.f1) ∧ w.cell? ⟨(ad.add (i.toNat * 15)).block, (ad.add (i.toNat * 15)).off + 6, none⟩ = some (.slice A6 (rd_TReq xs i).f4.f2.length c6) ∧ w.cell? ⟨(ad.add (i.toNat * 15)).block, (ad.add (i.toNat * 15)).off + 7, none⟩ = some (.string (rd_TReq xs i).f5.f0) ∧ w.cell? ⟨(ad.add (i.toNat * 15)).block, (ad.add (i.toNat * 15)).off + 8, none⟩ = some (.int .i64 (rd_TReq xs i).f5.f1) ∧ w.cell? ⟨(ad.add (i.toNat * 15)).block, (ad.add (i.toNat * 15)).off + 9, none⟩ = some (.slice A9 (rd_TReq xs i).f5.f2.length c9) ∧ w.cell? ⟨(ad.add (i.toNat * 15)).block, (ad.add (i.toNat * 15)).off + 10, none⟩ = some (.slice A10 (rd_TReq xs i).f6.f0.length c10) ∧ w.cell? ⟨(ad.add (i.toNat * 15)).block, (ad.add (i.toNat * 15)).off + 11, none⟩ = some (.int .i64 (rd_TReq xs i).f6.f1) ∧ w.cell? ⟨(ad.add (i.toNat * 15)).block, (ad.add (i.toNat * 15)).off + 12, none⟩ = some (.int .i64 (rd_TReq xs i).f6.f2) ∧ w.cell? ⟨(ad.add (i.toNat * 15)).block, (ad.add (i.toNat * 15)).off + 13, none⟩ = some (.int .i64 (rd_TReq xs i).f6.f3) ∧ w.cell? ⟨(ad.add (i.toNat * 15)).block, (ad.add (i.toNat * 15)).off + 14, none⟩ = some (.int .i64 (rd_TReq xs i).f6.f4) ∧ (rd_TReq xs i).f4.f2.length ≤ c6 ∧ kField.C w A6 (rd_TReq xs i).f4.f2.length (rd_TReq xs i).f4.f2 ∧ (rd_TReq xs i).f5.f2.length ≤ c9 ∧ kValue.C w A9 (rd_TReq xs i).f5.f2.length (rd_TReq xs i).f5.f2 ∧ (rd_TReq xs i).f6.f0.length ≤ c10 ∧ kStep.C w A10 (rd_TReq xs i).f6.f0.length (rd_TReq xs i).f6.f0 := by
  obtain ⟨ad, c, e, _, hK, hc0⟩ := Kd.C_get h zReq i h0 h1
  have hc : ∀ j u, c[j]? = some u → w.cell? (ad.add (i.toNat * 15 + j)) = some u := hc0
  obtain ⟨A6, c6, A9, c9, A10, c10, rfl, l6, g6, l9, g9, l10, g10⟩ := kReq_open hK
  exact ⟨ad, A6, c6, A9, c9, A10, c10, e, hc 0 _ rfl, by rw [← add_field _ _ 1 (by omega)]; exact hc 1 _ rfl, by rw [← add_field _ _ 2 (by omega)]; exact hc 2 _ rfl, by rw [← add_field _ _ 3 (by omega)]; exact hc 3 _ rfl, by rw [← add_field _ _ 4 (by omega)]; exact hc 4 _ rfl, by rw [← add_field _ _ 5 (by omega)]; exact hc 5 _ rfl, by rw [← add_field _ _ 6 (by omega)]; exact hc 6 _ rfl, by rw [← add_field _ _ 7 (by omega)]; exact hc 7 _ rfl, by rw [← add_field _ _ 8 (by omega)]; exact hc 8 _ rfl, by rw [← add_field _ _ 9 (by omega)]; exact hc 9 _ rfl, by rw [← add_field _ _ 10 (by omega)]; exact hc 10 _ rfl, by rw [← add_field _ _ 11 (by omega)]; exact hc 11 _ rfl, by rw [← add_field _ _ 12 (by omega)]; exact hc 12 _ rfl, by rw [← add_field _ _ 13 (by omega)]; exact hc 13 _ rfl, by rw [← add_field _ _ 14 (by omega)]; exact hc 14 _ rfl, l6, g6, l9, g9, l10, g10⟩

end Go.Proofs.Yteiaoanfdkgmoaa.P
