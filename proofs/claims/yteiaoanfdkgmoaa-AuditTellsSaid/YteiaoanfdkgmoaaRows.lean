/-
  No cell of these rows narrows 'for every input' (looked for: loops, veiled, ifaces, maps, wideKeys, modest, calm, conditions, laid).
  DERIVED. THE GIVEN ROWS OF THIS SEAT. 7 by the template 'for every input the law returns true; each argument reads behind the call as it read before'; 0 by the template 'total and deterministic' (their statements: YteiaoanfdkgmoaaTotals.lean).
  GIVEN WITH THE SEED: the statements are not yours to turn. If you find one false, say at which input.
  Laid BY PROGRAM, IN A SANDBOX (cutbox-rows.mjs): the forced cells as the released guide's own fill.sh prints them over the translation 31f5248185a51d70… (all of the seat's roots in one cut). By AI agents, Wed Nov 11 2026. No macro, syntax, notation, axiom, sorry.
-/
import Derived.Test.YteiaoanfdkgmoaaChecked
import GoSem.Claim
import GoSem.ClaimJoined
import GoSem.ClaimMapViews
import Derived.JoinedTies
import Derived.KernelRfl
namespace Go.Proofs.Yteiaoanfdkgmoaa
/- THE CELL 'sum', in the pinned program and in every row, IS THE sha256 OF THE DUMP (.gsa) THAT YteiaoanfdkgmoaaProg.lean LOADS. Nothing in Lean hashes anything: it is a label: what it is worth is what the hold of that sum in a sandbox is worth. -/
noncomputable def Try.pinned : Pinned := { name := "yteiaoanfdkgmoaa", sum := "31f5248185a51d70a06b5af1a56630e826460fc366a78bb011fb543e9a9a6dbb", checked := Try.checked }
namespace Rows
def none {H : Type} : Left H := { results := [], args := [] }

/-- 'towncrierlaw21.AuditLines': WHATEVER THE INPUT: true; the input reads as it did. -/
def auditLinesSpec : ChangeSpec := { name := "auditLines", fn := fun _ => fun
  | [d1, d2, d3] => { results := [.lit (.bool true)], args := [d1, d2, d3] }
  | _ => none }
def auditLinesRow : OpenClaim := { program := "yteiaoanfdkgmoaa", sum := "31f5248185a51d70a06b5af1a56630e826460fc366a78bb011fb543e9a9a6dbb", func := "towncrier/towncrierlaw21.AuditLines", spec := "auditLines", unfollowed := true, recurses := true, apart := false }
def AuditLinesSaid : Prop := auditLinesRow.holds Try.pinned (OpenSpec.ofChange auditLinesSpec)

/-- ITS FALSE NEIGHBOUR: 'it returns false'. Refute it at one input. -/
def auditLinesWrong : ChangeSpec := { name := "auditLines", fn := fun _ => fun
  | [d1, d2, d3] => { results := [.lit (.bool false)], args := [d1, d2, d3] }
  | _ => none }
def AuditLinesWrongFalsely : Prop := auditLinesRow.holds Try.pinned (OpenSpec.ofChange auditLinesWrong)

/-- 'towncrierlaw21.AuditParts': WHATEVER THE INPUT: true; the input reads as it did. -/
def auditPartsSpec : ChangeSpec := { name := "auditParts", fn := fun _ => fun
  | [d1, d2, d3, d4] => { results := [.lit (.bool true)], args := [d1, d2, d3, d4] }
  | _ => none }
def auditPartsRow : OpenClaim := { program := "yteiaoanfdkgmoaa", sum := "31f5248185a51d70a06b5af1a56630e826460fc366a78bb011fb543e9a9a6dbb", func := "towncrier/towncrierlaw21.AuditParts", spec := "auditParts", unfollowed := true, recurses := true, apart := false }
def AuditPartsSaid : Prop := auditPartsRow.holds Try.pinned (OpenSpec.ofChange auditPartsSpec)

/-- ITS FALSE NEIGHBOUR: 'it returns false'. Refute it at one input. -/
def auditPartsWrong : ChangeSpec := { name := "auditParts", fn := fun _ => fun
  | [d1, d2, d3, d4] => { results := [.lit (.bool false)], args := [d1, d2, d3, d4] }
  | _ => none }
def AuditPartsWrongFalsely : Prop := auditPartsRow.holds Try.pinned (OpenSpec.ofChange auditPartsWrong)

/-- 'towncrierlaw21.AuditShifts': WHATEVER THE INPUT: true; the input reads as it did. -/
def auditShiftsSpec : ChangeSpec := { name := "auditShifts", fn := fun _ => fun
  | [d1, d2, d3, d4] => { results := [.lit (.bool true)], args := [d1, d2, d3, d4] }
  | _ => none }
def auditShiftsRow : OpenClaim := { program := "yteiaoanfdkgmoaa", sum := "31f5248185a51d70a06b5af1a56630e826460fc366a78bb011fb543e9a9a6dbb", func := "towncrier/towncrierlaw21.AuditShifts", spec := "auditShifts", unfollowed := true, recurses := true, apart := false }
def AuditShiftsSaid : Prop := auditShiftsRow.holds Try.pinned (OpenSpec.ofChange auditShiftsSpec)

/-- ITS FALSE NEIGHBOUR: 'it returns false'. Refute it at one input. -/
def auditShiftsWrong : ChangeSpec := { name := "auditShifts", fn := fun _ => fun
  | [d1, d2, d3, d4] => { results := [.lit (.bool false)], args := [d1, d2, d3, d4] }
  | _ => none }
def AuditShiftsWrongFalsely : Prop := auditShiftsRow.holds Try.pinned (OpenSpec.ofChange auditShiftsWrong)

/-- 'towncrierlaw21.AuditRight': WHATEVER THE INPUT: true; the input reads as it did. -/
def auditRightSpec : ChangeSpec := { name := "auditRight", fn := fun _ => fun
  | [d1, d2, d3] => { results := [.lit (.bool true)], args := [d1, d2, d3] }
  | _ => none }
def auditRightRow : OpenClaim := { program := "yteiaoanfdkgmoaa", sum := "31f5248185a51d70a06b5af1a56630e826460fc366a78bb011fb543e9a9a6dbb", func := "towncrier/towncrierlaw21.AuditRight", spec := "auditRight", unfollowed := true, recurses := true, apart := false }
def AuditRightSaid : Prop := auditRightRow.holds Try.pinned (OpenSpec.ofChange auditRightSpec)

/-- ITS FALSE NEIGHBOUR: 'it returns false'. Refute it at one input. -/
def auditRightWrong : ChangeSpec := { name := "auditRight", fn := fun _ => fun
  | [d1, d2, d3] => { results := [.lit (.bool false)], args := [d1, d2, d3] }
  | _ => none }
def AuditRightWrongFalsely : Prop := auditRightRow.holds Try.pinned (OpenSpec.ofChange auditRightWrong)

/-- 'towncrierlaw21.AuditNone': WHATEVER THE INPUT: true; the input reads as it did. -/
def auditNoneSpec : ChangeSpec := { name := "auditNone", fn := fun _ => fun
  | [d1, d2] => { results := [.lit (.bool true)], args := [d1, d2] }
  | _ => none }
def auditNoneRow : OpenClaim := { program := "yteiaoanfdkgmoaa", sum := "31f5248185a51d70a06b5af1a56630e826460fc366a78bb011fb543e9a9a6dbb", func := "towncrier/towncrierlaw21.AuditNone", spec := "auditNone", unfollowed := true, recurses := true, apart := false }
def AuditNoneSaid : Prop := auditNoneRow.holds Try.pinned (OpenSpec.ofChange auditNoneSpec)

/-- ITS FALSE NEIGHBOUR: 'it returns false'. Refute it at one input. -/
def auditNoneWrong : ChangeSpec := { name := "auditNone", fn := fun _ => fun
  | [d1, d2] => { results := [.lit (.bool false)], args := [d1, d2] }
  | _ => none }
def AuditNoneWrongFalsely : Prop := auditNoneRow.holds Try.pinned (OpenSpec.ofChange auditNoneWrong)

/-- 'towncrierlaw21.AuditTells': WHATEVER THE INPUT: true; the input reads as it did. -/
def auditTellsSpec : ChangeSpec := { name := "auditTells", fn := fun _ => fun
  | [d1, d2, d3, d4, d5, d6, d7] => { results := [.lit (.bool true)], args := [d1, d2, d3, d4, d5, d6, d7] }
  | _ => none }
def auditTellsRow : OpenClaim := { program := "yteiaoanfdkgmoaa", sum := "31f5248185a51d70a06b5af1a56630e826460fc366a78bb011fb543e9a9a6dbb", func := "towncrier/towncrierlaw21.AuditTells", spec := "auditTells", unfollowed := true, recurses := true, apart := false }
def AuditTellsSaid : Prop := auditTellsRow.holds Try.pinned (OpenSpec.ofChange auditTellsSpec)

/-- ITS FALSE NEIGHBOUR: 'it returns false'. Refute it at one input. -/
def auditTellsWrong : ChangeSpec := { name := "auditTells", fn := fun _ => fun
  | [d1, d2, d3, d4, d5, d6, d7] => { results := [.lit (.bool false)], args := [d1, d2, d3, d4, d5, d6, d7] }
  | _ => none }
def AuditTellsWrongFalsely : Prop := auditTellsRow.holds Try.pinned (OpenSpec.ofChange auditTellsWrong)

/-- 'towncrierlaw21.AuditLog': WHATEVER THE INPUT: true; the input reads as it did. -/
def auditLogSpec : ChangeSpec := { name := "auditLog", fn := fun _ => fun
  | [d1, d2, d3] => { results := [.lit (.bool true)], args := [d1, d2, d3] }
  | _ => none }
def auditLogRow : OpenClaim := { program := "yteiaoanfdkgmoaa", sum := "31f5248185a51d70a06b5af1a56630e826460fc366a78bb011fb543e9a9a6dbb", func := "towncrier/towncrierlaw21.AuditLog", spec := "auditLog", unfollowed := true, recurses := true, apart := false }
def AuditLogSaid : Prop := auditLogRow.holds Try.pinned (OpenSpec.ofChange auditLogSpec)

/-- ITS FALSE NEIGHBOUR: 'it returns false'. Refute it at one input. -/
def auditLogWrong : ChangeSpec := { name := "auditLog", fn := fun _ => fun
  | [d1, d2, d3] => { results := [.lit (.bool false)], args := [d1, d2, d3] }
  | _ => none }
def AuditLogWrongFalsely : Prop := auditLogRow.holds Try.pinned (OpenSpec.ofChange auditLogWrong)

/- THE SECOND FORM. 'bulk': how many values and letters a reading holds, each counted each time it is reached (what is shared counts as often as it is met; a slice's spare places count too). A statement '..UptoSaid' is the law's where the arguments, and the package variables that the reading takes, are together of bulk at most 1048576: NARROWER than '..Said'. Prove '..Said' where nothing that the law and all that it calls make is longer than what came in: it says more and counts as full. Else prove '..UptoSaid'. A law counts once. -/
mutual
def uptoBulk {H : Type} : DataW H → Nat
  | .lit (.string bytes) => bytes.length + 1
  | .lit _ => 1
  | .nil => 1
  | .ptr d => uptoBulk d + 1
  | .slice elems spare => uptoBulkAll elems + uptoBulkAll spare + 1
  | .agg parts => uptoBulkAll parts + 1
  | .iface _ d => uptoBulk d + 1
  | .map entries => uptoBulkEntries entries + 1
  | .held _ => 1
def uptoBulkAll {H : Type} : List (DataW H) → Nat
  | [] => 0
  | d :: r => uptoBulk d + uptoBulkAll r
def uptoBulkEntries {H : Type} : List (Lit × DataW H) → Nat
  | [] => 0
  | x :: r => uptoBulkEntry x + uptoBulkEntries r
def uptoBulkEntry {H : Type} : Lit × DataW H → Nat
  | (.string bytes, d) => bytes.length + uptoBulk d + 1
  | (_, d) => uptoBulk d + 1
 end
def uptoSmall : (H : Type) → List (DataW H) → Bool := fun _ ds => decide (uptoBulkAll ds ≤ 1048576)
def OpenSpec.upto (s : _root_.Go.ChangeSpec) : _root_.Go.OpenSpec := { _root_.Go.OpenSpec.ofChange s with cond := some uptoSmall }

/-- 'towncrierlaw21.AuditLines', WHERE WHAT IT READS IS OF BULK AT MOST 1048576: true; the input reads as it did. -/
def auditLinesUptoRow : OpenClaim := { program := "yteiaoanfdkgmoaa", sum := "31f5248185a51d70a06b5af1a56630e826460fc366a78bb011fb543e9a9a6dbb", func := "towncrier/towncrierlaw21.AuditLines", spec := "auditLines", unfollowed := true, recurses := true, apart := false, narrowed := true }
def AuditLinesUptoSaid : Prop := auditLinesUptoRow.holds Try.pinned (OpenSpec.upto auditLinesSpec)

/-- 'towncrierlaw21.AuditParts', WHERE WHAT IT READS IS OF BULK AT MOST 1048576: true; the input reads as it did. -/
def auditPartsUptoRow : OpenClaim := { program := "yteiaoanfdkgmoaa", sum := "31f5248185a51d70a06b5af1a56630e826460fc366a78bb011fb543e9a9a6dbb", func := "towncrier/towncrierlaw21.AuditParts", spec := "auditParts", unfollowed := true, recurses := true, apart := false, narrowed := true }
def AuditPartsUptoSaid : Prop := auditPartsUptoRow.holds Try.pinned (OpenSpec.upto auditPartsSpec)

/-- 'towncrierlaw21.AuditShifts', WHERE WHAT IT READS IS OF BULK AT MOST 1048576: true; the input reads as it did. -/
def auditShiftsUptoRow : OpenClaim := { program := "yteiaoanfdkgmoaa", sum := "31f5248185a51d70a06b5af1a56630e826460fc366a78bb011fb543e9a9a6dbb", func := "towncrier/towncrierlaw21.AuditShifts", spec := "auditShifts", unfollowed := true, recurses := true, apart := false, narrowed := true }
def AuditShiftsUptoSaid : Prop := auditShiftsUptoRow.holds Try.pinned (OpenSpec.upto auditShiftsSpec)

/-- 'towncrierlaw21.AuditRight', WHERE WHAT IT READS IS OF BULK AT MOST 1048576: true; the input reads as it did. -/
def auditRightUptoRow : OpenClaim := { program := "yteiaoanfdkgmoaa", sum := "31f5248185a51d70a06b5af1a56630e826460fc366a78bb011fb543e9a9a6dbb", func := "towncrier/towncrierlaw21.AuditRight", spec := "auditRight", unfollowed := true, recurses := true, apart := false, narrowed := true }
def AuditRightUptoSaid : Prop := auditRightUptoRow.holds Try.pinned (OpenSpec.upto auditRightSpec)

/-- 'towncrierlaw21.AuditNone', WHERE WHAT IT READS IS OF BULK AT MOST 1048576: true; the input reads as it did. -/
def auditNoneUptoRow : OpenClaim := { program := "yteiaoanfdkgmoaa", sum := "31f5248185a51d70a06b5af1a56630e826460fc366a78bb011fb543e9a9a6dbb", func := "towncrier/towncrierlaw21.AuditNone", spec := "auditNone", unfollowed := true, recurses := true, apart := false, narrowed := true }
def AuditNoneUptoSaid : Prop := auditNoneUptoRow.holds Try.pinned (OpenSpec.upto auditNoneSpec)

/-- 'towncrierlaw21.AuditTells', WHERE WHAT IT READS IS OF BULK AT MOST 1048576: true; the input reads as it did. -/
def auditTellsUptoRow : OpenClaim := { program := "yteiaoanfdkgmoaa", sum := "31f5248185a51d70a06b5af1a56630e826460fc366a78bb011fb543e9a9a6dbb", func := "towncrier/towncrierlaw21.AuditTells", spec := "auditTells", unfollowed := true, recurses := true, apart := false, narrowed := true }
def AuditTellsUptoSaid : Prop := auditTellsUptoRow.holds Try.pinned (OpenSpec.upto auditTellsSpec)

/-- 'towncrierlaw21.AuditLog', WHERE WHAT IT READS IS OF BULK AT MOST 1048576: true; the input reads as it did. -/
def auditLogUptoRow : OpenClaim := { program := "yteiaoanfdkgmoaa", sum := "31f5248185a51d70a06b5af1a56630e826460fc366a78bb011fb543e9a9a6dbb", func := "towncrier/towncrierlaw21.AuditLog", spec := "auditLog", unfollowed := true, recurses := true, apart := false, narrowed := true }
def AuditLogUptoSaid : Prop := auditLogUptoRow.holds Try.pinned (OpenSpec.upto auditLogSpec)

end Rows
end Go.Proofs.Yteiaoanfdkgmoaa
