/-
  No cell of these rows narrows 'for every input' (looked for: loops, veiled, ifaces, maps, wideKeys, modest, calm, conditions, laid).
  DERIVED. THE GIVEN ROWS OF THIS SEAT. 6 by the template 'for every input the law returns true; each argument reads behind the call as it read before'; 0 by the template 'total and deterministic' (their statements: YtapcfcagjlmgjaaTotals.lean).
  GIVEN WITH THE SEED: the statements are not yours to turn. If you find one false, say at which input.
  Laid BY PROGRAM, IN A SANDBOX (cutbox-rows.mjs): the forced cells as the released guide's own fill.sh prints them over the translation 9b43899edc61222b… (all of the seat's roots in one cut). By AI agents, Wed Nov 11 2026. No macro, syntax, notation, axiom, sorry.
-/
import Derived.Test.YtapcfcagjlmgjaaChecked
import GoSem.Claim
import GoSem.ClaimJoined
import GoSem.ClaimMapViews
import Derived.JoinedTies
import Derived.KernelRfl
namespace Go.Proofs.Ytapcfcagjlmgjaa
/- THE CELL 'sum', in the pinned program and in every row, IS THE sha256 OF THE DUMP (.gsa) THAT YtapcfcagjlmgjaaProg.lean LOADS. Nothing in Lean hashes anything: it is a label: what it is worth is what the hold of that sum in a sandbox is worth. -/
noncomputable def Try.pinned : Pinned := { name := "ytapcfcagjlmgjaa", sum := "9b43899edc61222b51c2ae32ef075e2eef4b9af594deb14c84394cb1619d36c2", checked := Try.checked }
namespace Rows
def none {H : Type} : Left H := { results := [], args := [] }

/-- 'shutterlaw11.FieldAsks': WHATEVER THE INPUT: true; the input reads as it did. -/
def fieldAsksSpec : ChangeSpec := { name := "fieldAsks", fn := fun _ => fun
  | [d1, d2] => { results := [.lit (.bool true)], args := [d1, d2] }
  | _ => none }
def fieldAsksRow : OpenClaim := { program := "ytapcfcagjlmgjaa", sum := "9b43899edc61222b51c2ae32ef075e2eef4b9af594deb14c84394cb1619d36c2", func := "shutter/shutterlaw11.FieldAsks", spec := "fieldAsks", unfollowed := true, recurses := true, apart := false }
def FieldAsksSaid : Prop := fieldAsksRow.holds Try.pinned (OpenSpec.ofChange fieldAsksSpec)

/-- ITS FALSE NEIGHBOUR: 'it returns false'. Refute it at one input. -/
def fieldAsksWrong : ChangeSpec := { name := "fieldAsks", fn := fun _ => fun
  | [d1, d2] => { results := [.lit (.bool false)], args := [d1, d2] }
  | _ => none }
def FieldAsksWrongFalsely : Prop := fieldAsksRow.holds Try.pinned (OpenSpec.ofChange fieldAsksWrong)

/-- 'shutterlaw11.FieldNexts': WHATEVER THE INPUT: true; the input reads as it did. -/
def fieldNextsSpec : ChangeSpec := { name := "fieldNexts", fn := fun _ => fun
  | [d1, d2] => { results := [.lit (.bool true)], args := [d1, d2] }
  | _ => none }
def fieldNextsRow : OpenClaim := { program := "ytapcfcagjlmgjaa", sum := "9b43899edc61222b51c2ae32ef075e2eef4b9af594deb14c84394cb1619d36c2", func := "shutter/shutterlaw11.FieldNexts", spec := "fieldNexts", unfollowed := true, recurses := true, apart := false }
def FieldNextsSaid : Prop := fieldNextsRow.holds Try.pinned (OpenSpec.ofChange fieldNextsSpec)

/-- ITS FALSE NEIGHBOUR: 'it returns false'. Refute it at one input. -/
def fieldNextsWrong : ChangeSpec := { name := "fieldNexts", fn := fun _ => fun
  | [d1, d2] => { results := [.lit (.bool false)], args := [d1, d2] }
  | _ => none }
def FieldNextsWrongFalsely : Prop := fieldNextsRow.holds Try.pinned (OpenSpec.ofChange fieldNextsWrong)

/-- 'shutterlaw11.FieldParts': WHATEVER THE INPUT: true; the input reads as it did. -/
def fieldPartsSpec : ChangeSpec := { name := "fieldParts", fn := fun _ => fun
  | [d] => { results := [.lit (.bool true)], args := [d] }
  | _ => none }
def fieldPartsRow : OpenClaim := { program := "ytapcfcagjlmgjaa", sum := "9b43899edc61222b51c2ae32ef075e2eef4b9af594deb14c84394cb1619d36c2", func := "shutter/shutterlaw11.FieldParts", spec := "fieldParts", unfollowed := true, recurses := true, apart := false }
def FieldPartsSaid : Prop := fieldPartsRow.holds Try.pinned (OpenSpec.ofChange fieldPartsSpec)

/-- ITS FALSE NEIGHBOUR: 'it returns false'. Refute it at one input. -/
def fieldPartsWrong : ChangeSpec := { name := "fieldParts", fn := fun _ => fun
  | [d] => { results := [.lit (.bool false)], args := [d] }
  | _ => none }
def FieldPartsWrongFalsely : Prop := fieldPartsRow.holds Try.pinned (OpenSpec.ofChange fieldPartsWrong)

/-- 'shutterlaw11.FieldTabs': WHATEVER THE INPUT: true; the input reads as it did. -/
def fieldTabsSpec : ChangeSpec := { name := "fieldTabs", fn := fun _ => fun
  | [d1, d2] => { results := [.lit (.bool true)], args := [d1, d2] }
  | _ => none }
def fieldTabsRow : OpenClaim := { program := "ytapcfcagjlmgjaa", sum := "9b43899edc61222b51c2ae32ef075e2eef4b9af594deb14c84394cb1619d36c2", func := "shutter/shutterlaw11.FieldTabs", spec := "fieldTabs", unfollowed := true, recurses := true, apart := false }
def FieldTabsSaid : Prop := fieldTabsRow.holds Try.pinned (OpenSpec.ofChange fieldTabsSpec)

/-- ITS FALSE NEIGHBOUR: 'it returns false'. Refute it at one input. -/
def fieldTabsWrong : ChangeSpec := { name := "fieldTabs", fn := fun _ => fun
  | [d1, d2] => { results := [.lit (.bool false)], args := [d1, d2] }
  | _ => none }
def FieldTabsWrongFalsely : Prop := fieldTabsRow.holds Try.pinned (OpenSpec.ofChange fieldTabsWrong)

/-- 'shutterlaw11.FieldKeeps': WHATEVER THE INPUT: true; the input reads as it did. -/
def fieldKeepsSpec : ChangeSpec := { name := "fieldKeeps", fn := fun _ => fun
  | [d1, d2] => { results := [.lit (.bool true)], args := [d1, d2] }
  | _ => none }
def fieldKeepsRow : OpenClaim := { program := "ytapcfcagjlmgjaa", sum := "9b43899edc61222b51c2ae32ef075e2eef4b9af594deb14c84394cb1619d36c2", func := "shutter/shutterlaw11.FieldKeeps", spec := "fieldKeeps", unfollowed := true, recurses := true, apart := false }
def FieldKeepsSaid : Prop := fieldKeepsRow.holds Try.pinned (OpenSpec.ofChange fieldKeepsSpec)

/-- ITS FALSE NEIGHBOUR: 'it returns false'. Refute it at one input. -/
def fieldKeepsWrong : ChangeSpec := { name := "fieldKeeps", fn := fun _ => fun
  | [d1, d2] => { results := [.lit (.bool false)], args := [d1, d2] }
  | _ => none }
def FieldKeepsWrongFalsely : Prop := fieldKeepsRow.holds Try.pinned (OpenSpec.ofChange fieldKeepsWrong)

/-- 'shutterlaw11.FieldRound': WHATEVER THE INPUT: true; the input reads as it did. -/
def fieldRoundSpec : ChangeSpec := { name := "fieldRound", fn := fun _ => fun
  | [d1, d2] => { results := [.lit (.bool true)], args := [d1, d2] }
  | _ => none }
def fieldRoundRow : OpenClaim := { program := "ytapcfcagjlmgjaa", sum := "9b43899edc61222b51c2ae32ef075e2eef4b9af594deb14c84394cb1619d36c2", func := "shutter/shutterlaw11.FieldRound", spec := "fieldRound", unfollowed := true, recurses := true, apart := false }
def FieldRoundSaid : Prop := fieldRoundRow.holds Try.pinned (OpenSpec.ofChange fieldRoundSpec)

/-- ITS FALSE NEIGHBOUR: 'it returns false'. Refute it at one input. -/
def fieldRoundWrong : ChangeSpec := { name := "fieldRound", fn := fun _ => fun
  | [d1, d2] => { results := [.lit (.bool false)], args := [d1, d2] }
  | _ => none }
def FieldRoundWrongFalsely : Prop := fieldRoundRow.holds Try.pinned (OpenSpec.ofChange fieldRoundWrong)

/- THE SECOND FORM. 'bulk': how many values and letters a reading holds, each counted each time it is reached (what is shared counts as often as it is met; a slice's spare places count too). A statement '..UptoSaid' is the law's where the arguments, and the package variables that the reading takes, are together of bulk at most 1048576: NARROWER than '..Said'. Prove '..Said' where nothing that the law and all that it calls make is longer than what came in: it says more and counts as full. Else prove '..UptoSaid'. A law counts once. -/
mutual
def uptoBulk {H : Type} : DataW H → Nat
  | .lit (.string bytes) => bytes.length + 1
  | .lit _ => 1
  | .nil => 1
  | .ptr d => uptoBulk d + 1
  | .slice elems spare => uptoBulkAll elems + uptoBulkAll spare + 1
  | .agg parts => uptoBulkAll parts + 1
  | .iface _ d => uptoBulk d + 1
  | .map entries => uptoBulkEntries entries + 1
  | .held _ => 1
def uptoBulkAll {H : Type} : List (DataW H) → Nat
  | [] => 0
  | d :: r => uptoBulk d + uptoBulkAll r
def uptoBulkEntries {H : Type} : List (Lit × DataW H) → Nat
  | [] => 0
  | x :: r => uptoBulkEntry x + uptoBulkEntries r
def uptoBulkEntry {H : Type} : Lit × DataW H → Nat
  | (.string bytes, d) => bytes.length + uptoBulk d + 1
  | (_, d) => uptoBulk d + 1
 end
def uptoSmall : (H : Type) → List (DataW H) → Bool := fun _ ds => decide (uptoBulkAll ds ≤ 1048576)
def OpenSpec.upto (s : _root_.Go.ChangeSpec) : _root_.Go.OpenSpec := { _root_.Go.OpenSpec.ofChange s with cond := some uptoSmall }

/-- 'shutterlaw11.FieldAsks', WHERE WHAT IT READS IS OF BULK AT MOST 1048576: true; the input reads as it did. -/
def fieldAsksUptoRow : OpenClaim := { program := "ytapcfcagjlmgjaa", sum := "9b43899edc61222b51c2ae32ef075e2eef4b9af594deb14c84394cb1619d36c2", func := "shutter/shutterlaw11.FieldAsks", spec := "fieldAsks", unfollowed := true, recurses := true, apart := false, narrowed := true }
def FieldAsksUptoSaid : Prop := fieldAsksUptoRow.holds Try.pinned (OpenSpec.upto fieldAsksSpec)

/-- 'shutterlaw11.FieldNexts', WHERE WHAT IT READS IS OF BULK AT MOST 1048576: true; the input reads as it did. -/
def fieldNextsUptoRow : OpenClaim := { program := "ytapcfcagjlmgjaa", sum := "9b43899edc61222b51c2ae32ef075e2eef4b9af594deb14c84394cb1619d36c2", func := "shutter/shutterlaw11.FieldNexts", spec := "fieldNexts", unfollowed := true, recurses := true, apart := false, narrowed := true }
def FieldNextsUptoSaid : Prop := fieldNextsUptoRow.holds Try.pinned (OpenSpec.upto fieldNextsSpec)

/-- 'shutterlaw11.FieldParts', WHERE WHAT IT READS IS OF BULK AT MOST 1048576: true; the input reads as it did. -/
def fieldPartsUptoRow : OpenClaim := { program := "ytapcfcagjlmgjaa", sum := "9b43899edc61222b51c2ae32ef075e2eef4b9af594deb14c84394cb1619d36c2", func := "shutter/shutterlaw11.FieldParts", spec := "fieldParts", unfollowed := true, recurses := true, apart := false, narrowed := true }
def FieldPartsUptoSaid : Prop := fieldPartsUptoRow.holds Try.pinned (OpenSpec.upto fieldPartsSpec)

/-- 'shutterlaw11.FieldTabs', WHERE WHAT IT READS IS OF BULK AT MOST 1048576: true; the input reads as it did. -/
def fieldTabsUptoRow : OpenClaim := { program := "ytapcfcagjlmgjaa", sum := "9b43899edc61222b51c2ae32ef075e2eef4b9af594deb14c84394cb1619d36c2", func := "shutter/shutterlaw11.FieldTabs", spec := "fieldTabs", unfollowed := true, recurses := true, apart := false, narrowed := true }
def FieldTabsUptoSaid : Prop := fieldTabsUptoRow.holds Try.pinned (OpenSpec.upto fieldTabsSpec)

/-- 'shutterlaw11.FieldKeeps', WHERE WHAT IT READS IS OF BULK AT MOST 1048576: true; the input reads as it did. -/
def fieldKeepsUptoRow : OpenClaim := { program := "ytapcfcagjlmgjaa", sum := "9b43899edc61222b51c2ae32ef075e2eef4b9af594deb14c84394cb1619d36c2", func := "shutter/shutterlaw11.FieldKeeps", spec := "fieldKeeps", unfollowed := true, recurses := true, apart := false, narrowed := true }
def FieldKeepsUptoSaid : Prop := fieldKeepsUptoRow.holds Try.pinned (OpenSpec.upto fieldKeepsSpec)

/-- 'shutterlaw11.FieldRound', WHERE WHAT IT READS IS OF BULK AT MOST 1048576: true; the input reads as it did. -/
def fieldRoundUptoRow : OpenClaim := { program := "ytapcfcagjlmgjaa", sum := "9b43899edc61222b51c2ae32ef075e2eef4b9af594deb14c84394cb1619d36c2", func := "shutter/shutterlaw11.FieldRound", spec := "fieldRound", unfollowed := true, recurses := true, apart := false, narrowed := true }
def FieldRoundUptoSaid : Prop := fieldRoundUptoRow.holds Try.pinned (OpenSpec.upto fieldRoundSpec)

end Rows
end Go.Proofs.Ytapcfcagjlmgjaa
