/-
  NARROWER THAN 'FOR EVERY INPUT', by the rows' own cells (each row's printed sentence says how): MoveDoes: laid · MoveAlone: laid · MoveBack: laid · MoveKeeps: laid · MoveRound: laid.
  DERIVED. THE GIVEN ROWS OF THIS SEAT. 5 by the template 'for every input the law returns true; each argument reads behind the call as it read before'; 0 by the template 'total and deterministic' (their statements: YtapcfcagjlmgjaaDoorTotals.lean).
  GIVEN WITH THE SEED: the statements are not yours to turn. If you find one false, say at which input.
  Laid BY PROGRAM, IN A SANDBOX (cutbox-rows.mjs): the forced cells as the released guide's own fill.sh prints them over the translation 15e5c290d7580955… (all of the seat's roots in one cut). By AI agents, Wed Nov 11 2026. No macro, syntax, notation, axiom, sorry.
-/
import Derived.Test.YtapcfcagjlmgjaaDoorChecked
import GoSem.Claim
import GoSem.ClaimJoined
import GoSem.ClaimMapViews
import Derived.JoinedTies
import Derived.KernelRfl
namespace Go.Proofs.YtapcfcagjlmgjaaDoor
/- THE CELL 'sum', in the pinned program and in every row, IS THE sha256 OF THE DUMP (.gsa) THAT YtapcfcagjlmgjaaDoorProg.lean LOADS. Nothing in Lean hashes anything: it is a label: what it is worth is what the hold of that sum in a sandbox is worth. -/
noncomputable def Tryd.pinned : Pinned := { name := "ytapcfcagjlmgjaadoor", sum := "15e5c290d7580955108e414dd725b739d353edc237799383f87a68af1c405b55", checked := Tryd.checked }
namespace Rows
def none {H : Type} : Left H := { results := [], args := [] }

/- WHAT THE LISTED PACKAGE-LEVEL VARIABLES READ AS WHEN THE CALL BEGINS. Each datum BY PROGRAM (the guide's laid-datum.mjs) off the statement by which the dump's own 'gosem.cut.vars' lays the variable. In a bare row this is a premise. The card (YtapcfcagjlmgjaaDoorCards.lean) ties it to the program's text. -/
def laid_errors_errorType {H : Type} : DataW H := .iface "internal/reflectlite.rtype" (.agg [.ptr (.lit (.string [101, 114, 114, 111, 114]))])

/-- 'shutterlaw15.MoveDoes': WHATEVER THE INPUT: true; the input reads as it did. -/
def moveDoesSpec : ChangeSpec := { name := "moveDoes", fn := fun _ => fun
  | [d1, d2] => { results := [.lit (.bool true)], args := [d1, d2] }
  | _ => none }
def moveDoesRow : OpenClaim := { program := "ytapcfcagjlmgjaadoor", sum := "15e5c290d7580955108e414dd725b739d353edc237799383f87a68af1c405b55", func := "shutter/shutterlaw15.MoveDoes", spec := "moveDoes", inPlace := ["internal/reflectlite.ValueOf", "(internal/reflectlite.Value).Type", "(internal/reflectlite.Value).IsNil", "internal/reflectlite.TypeOf", "(internal/reflectlite.Value).Elem", "(internal/reflectlite.Value).Set"], unfollowed := true, recurses := true, named := ["errors.errorType"], apart := false, laid := [("errors.errorType", laid_errors_errorType)] }
def MoveDoesSaid : Prop := moveDoesRow.holds Tryd.pinned (OpenSpec.ofChange moveDoesSpec)

/-- ITS FALSE NEIGHBOUR: 'it returns false'. Refute it at one input. -/
def moveDoesWrong : ChangeSpec := { name := "moveDoes", fn := fun _ => fun
  | [d1, d2] => { results := [.lit (.bool false)], args := [d1, d2] }
  | _ => none }
def MoveDoesWrongFalsely : Prop := moveDoesRow.holds Tryd.pinned (OpenSpec.ofChange moveDoesWrong)

/-- 'shutterlaw15.MoveAlone': WHATEVER THE INPUT: true; the input reads as it did. -/
def moveAloneSpec : ChangeSpec := { name := "moveAlone", fn := fun _ => fun
  | [d1, d2] => { results := [.lit (.bool true)], args := [d1, d2] }
  | _ => none }
def moveAloneRow : OpenClaim := { program := "ytapcfcagjlmgjaadoor", sum := "15e5c290d7580955108e414dd725b739d353edc237799383f87a68af1c405b55", func := "shutter/shutterlaw15.MoveAlone", spec := "moveAlone", inPlace := ["internal/reflectlite.ValueOf", "(internal/reflectlite.Value).Type", "(internal/reflectlite.Value).IsNil", "internal/reflectlite.TypeOf", "(internal/reflectlite.Value).Elem", "(internal/reflectlite.Value).Set"], unfollowed := true, recurses := true, named := ["errors.errorType"], apart := false, laid := [("errors.errorType", laid_errors_errorType)] }
def MoveAloneSaid : Prop := moveAloneRow.holds Tryd.pinned (OpenSpec.ofChange moveAloneSpec)

/-- ITS FALSE NEIGHBOUR: 'it returns false'. Refute it at one input. -/
def moveAloneWrong : ChangeSpec := { name := "moveAlone", fn := fun _ => fun
  | [d1, d2] => { results := [.lit (.bool false)], args := [d1, d2] }
  | _ => none }
def MoveAloneWrongFalsely : Prop := moveAloneRow.holds Tryd.pinned (OpenSpec.ofChange moveAloneWrong)

/-- 'shutterlaw15.MoveBack': WHATEVER THE INPUT: true; the input reads as it did. -/
def moveBackSpec : ChangeSpec := { name := "moveBack", fn := fun _ => fun
  | [d1, d2] => { results := [.lit (.bool true)], args := [d1, d2] }
  | _ => none }
def moveBackRow : OpenClaim := { program := "ytapcfcagjlmgjaadoor", sum := "15e5c290d7580955108e414dd725b739d353edc237799383f87a68af1c405b55", func := "shutter/shutterlaw15.MoveBack", spec := "moveBack", inPlace := ["internal/reflectlite.ValueOf", "(internal/reflectlite.Value).Type", "(internal/reflectlite.Value).IsNil", "internal/reflectlite.TypeOf", "(internal/reflectlite.Value).Elem", "(internal/reflectlite.Value).Set"], unfollowed := true, recurses := true, named := ["errors.errorType"], apart := false, laid := [("errors.errorType", laid_errors_errorType)] }
def MoveBackSaid : Prop := moveBackRow.holds Tryd.pinned (OpenSpec.ofChange moveBackSpec)

/-- ITS FALSE NEIGHBOUR: 'it returns false'. Refute it at one input. -/
def moveBackWrong : ChangeSpec := { name := "moveBack", fn := fun _ => fun
  | [d1, d2] => { results := [.lit (.bool false)], args := [d1, d2] }
  | _ => none }
def MoveBackWrongFalsely : Prop := moveBackRow.holds Tryd.pinned (OpenSpec.ofChange moveBackWrong)

/-- 'shutterlaw15.MoveKeeps': WHATEVER THE INPUT: true; the input reads as it did. -/
def moveKeepsSpec : ChangeSpec := { name := "moveKeeps", fn := fun _ => fun
  | [d1, d2] => { results := [.lit (.bool true)], args := [d1, d2] }
  | _ => none }
def moveKeepsRow : OpenClaim := { program := "ytapcfcagjlmgjaadoor", sum := "15e5c290d7580955108e414dd725b739d353edc237799383f87a68af1c405b55", func := "shutter/shutterlaw15.MoveKeeps", spec := "moveKeeps", inPlace := ["internal/reflectlite.ValueOf", "(internal/reflectlite.Value).Type", "(internal/reflectlite.Value).IsNil", "internal/reflectlite.TypeOf", "(internal/reflectlite.Value).Elem", "(internal/reflectlite.Value).Set"], unfollowed := true, recurses := true, named := ["errors.errorType"], apart := false, laid := [("errors.errorType", laid_errors_errorType)] }
def MoveKeepsSaid : Prop := moveKeepsRow.holds Tryd.pinned (OpenSpec.ofChange moveKeepsSpec)

/-- ITS FALSE NEIGHBOUR: 'it returns false'. Refute it at one input. -/
def moveKeepsWrong : ChangeSpec := { name := "moveKeeps", fn := fun _ => fun
  | [d1, d2] => { results := [.lit (.bool false)], args := [d1, d2] }
  | _ => none }
def MoveKeepsWrongFalsely : Prop := moveKeepsRow.holds Tryd.pinned (OpenSpec.ofChange moveKeepsWrong)

/-- 'shutterlaw15.MoveRound': WHATEVER THE INPUT: true; the input reads as it did. -/
def moveRoundSpec : ChangeSpec := { name := "moveRound", fn := fun _ => fun
  | [d1, d2] => { results := [.lit (.bool true)], args := [d1, d2] }
  | _ => none }
def moveRoundRow : OpenClaim := { program := "ytapcfcagjlmgjaadoor", sum := "15e5c290d7580955108e414dd725b739d353edc237799383f87a68af1c405b55", func := "shutter/shutterlaw15.MoveRound", spec := "moveRound", inPlace := ["internal/reflectlite.ValueOf", "(internal/reflectlite.Value).Type", "(internal/reflectlite.Value).IsNil", "internal/reflectlite.TypeOf", "(internal/reflectlite.Value).Elem", "(internal/reflectlite.Value).Set"], unfollowed := true, recurses := true, named := ["errors.errorType"], apart := false, laid := [("errors.errorType", laid_errors_errorType)] }
def MoveRoundSaid : Prop := moveRoundRow.holds Tryd.pinned (OpenSpec.ofChange moveRoundSpec)

/-- ITS FALSE NEIGHBOUR: 'it returns false'. Refute it at one input. -/
def moveRoundWrong : ChangeSpec := { name := "moveRound", fn := fun _ => fun
  | [d1, d2] => { results := [.lit (.bool false)], args := [d1, d2] }
  | _ => none }
def MoveRoundWrongFalsely : Prop := moveRoundRow.holds Tryd.pinned (OpenSpec.ofChange moveRoundWrong)

/- THE SECOND FORM. 'bulk': how many values and letters a reading holds, each counted each time it is reached (what is shared counts as often as it is met; a slice's spare places count too). A statement '..UptoSaid' is the law's where the arguments, and the package variables that the reading takes, are together of bulk at most 1048576: NARROWER than '..Said'. Prove '..Said' where nothing that the law and all that it calls make is longer than what came in: it says more and counts as full. Else prove '..UptoSaid'. A law counts once. -/
mutual
def uptoBulk {H : Type} : DataW H → Nat
  | .lit (.string bytes) => bytes.length + 1
  | .lit _ => 1
  | .nil => 1
  | .ptr d => uptoBulk d + 1
  | .slice elems spare => uptoBulkAll elems + uptoBulkAll spare + 1
  | .agg parts => uptoBulkAll parts + 1
  | .iface _ d => uptoBulk d + 1
  | .map entries => uptoBulkEntries entries + 1
  | .held _ => 1
def uptoBulkAll {H : Type} : List (DataW H) → Nat
  | [] => 0
  | d :: r => uptoBulk d + uptoBulkAll r
def uptoBulkEntries {H : Type} : List (Lit × DataW H) → Nat
  | [] => 0
  | x :: r => uptoBulkEntry x + uptoBulkEntries r
def uptoBulkEntry {H : Type} : Lit × DataW H → Nat
  | (.string bytes, d) => bytes.length + uptoBulk d + 1
  | (_, d) => uptoBulk d + 1
 end
def uptoSmall : (H : Type) → List (DataW H) → Bool := fun _ ds => decide (uptoBulkAll ds ≤ 1048576)
def OpenSpec.upto (s : _root_.Go.ChangeSpec) : _root_.Go.OpenSpec := { _root_.Go.OpenSpec.ofChange s with cond := some uptoSmall }

/-- 'shutterlaw15.MoveDoes', WHERE WHAT IT READS IS OF BULK AT MOST 1048576: true; the input reads as it did. -/
def moveDoesUptoRow : OpenClaim := { program := "ytapcfcagjlmgjaadoor", sum := "15e5c290d7580955108e414dd725b739d353edc237799383f87a68af1c405b55", func := "shutter/shutterlaw15.MoveDoes", spec := "moveDoes", inPlace := ["internal/reflectlite.ValueOf", "(internal/reflectlite.Value).Type", "(internal/reflectlite.Value).IsNil", "internal/reflectlite.TypeOf", "(internal/reflectlite.Value).Elem", "(internal/reflectlite.Value).Set"], unfollowed := true, recurses := true, named := ["errors.errorType"], apart := false, laid := [("errors.errorType", laid_errors_errorType)], narrowed := true }
def MoveDoesUptoSaid : Prop := moveDoesUptoRow.holds Tryd.pinned (OpenSpec.upto moveDoesSpec)

/-- 'shutterlaw15.MoveAlone', WHERE WHAT IT READS IS OF BULK AT MOST 1048576: true; the input reads as it did. -/
def moveAloneUptoRow : OpenClaim := { program := "ytapcfcagjlmgjaadoor", sum := "15e5c290d7580955108e414dd725b739d353edc237799383f87a68af1c405b55", func := "shutter/shutterlaw15.MoveAlone", spec := "moveAlone", inPlace := ["internal/reflectlite.ValueOf", "(internal/reflectlite.Value).Type", "(internal/reflectlite.Value).IsNil", "internal/reflectlite.TypeOf", "(internal/reflectlite.Value).Elem", "(internal/reflectlite.Value).Set"], unfollowed := true, recurses := true, named := ["errors.errorType"], apart := false, laid := [("errors.errorType", laid_errors_errorType)], narrowed := true }
def MoveAloneUptoSaid : Prop := moveAloneUptoRow.holds Tryd.pinned (OpenSpec.upto moveAloneSpec)

/-- 'shutterlaw15.MoveBack', WHERE WHAT IT READS IS OF BULK AT MOST 1048576: true; the input reads as it did. -/
def moveBackUptoRow : OpenClaim := { program := "ytapcfcagjlmgjaadoor", sum := "15e5c290d7580955108e414dd725b739d353edc237799383f87a68af1c405b55", func := "shutter/shutterlaw15.MoveBack", spec := "moveBack", inPlace := ["internal/reflectlite.ValueOf", "(internal/reflectlite.Value).Type", "(internal/reflectlite.Value).IsNil", "internal/reflectlite.TypeOf", "(internal/reflectlite.Value).Elem", "(internal/reflectlite.Value).Set"], unfollowed := true, recurses := true, named := ["errors.errorType"], apart := false, laid := [("errors.errorType", laid_errors_errorType)], narrowed := true }
def MoveBackUptoSaid : Prop := moveBackUptoRow.holds Tryd.pinned (OpenSpec.upto moveBackSpec)

/-- 'shutterlaw15.MoveKeeps', WHERE WHAT IT READS IS OF BULK AT MOST 1048576: true; the input reads as it did. -/
def moveKeepsUptoRow : OpenClaim := { program := "ytapcfcagjlmgjaadoor", sum := "15e5c290d7580955108e414dd725b739d353edc237799383f87a68af1c405b55", func := "shutter/shutterlaw15.MoveKeeps", spec := "moveKeeps", inPlace := ["internal/reflectlite.ValueOf", "(internal/reflectlite.Value).Type", "(internal/reflectlite.Value).IsNil", "internal/reflectlite.TypeOf", "(internal/reflectlite.Value).Elem", "(internal/reflectlite.Value).Set"], unfollowed := true, recurses := true, named := ["errors.errorType"], apart := false, laid := [("errors.errorType", laid_errors_errorType)], narrowed := true }
def MoveKeepsUptoSaid : Prop := moveKeepsUptoRow.holds Tryd.pinned (OpenSpec.upto moveKeepsSpec)

/-- 'shutterlaw15.MoveRound', WHERE WHAT IT READS IS OF BULK AT MOST 1048576: true; the input reads as it did. -/
def moveRoundUptoRow : OpenClaim := { program := "ytapcfcagjlmgjaadoor", sum := "15e5c290d7580955108e414dd725b739d353edc237799383f87a68af1c405b55", func := "shutter/shutterlaw15.MoveRound", spec := "moveRound", inPlace := ["internal/reflectlite.ValueOf", "(internal/reflectlite.Value).Type", "(internal/reflectlite.Value).IsNil", "internal/reflectlite.TypeOf", "(internal/reflectlite.Value).Elem", "(internal/reflectlite.Value).Set"], unfollowed := true, recurses := true, named := ["errors.errorType"], apart := false, laid := [("errors.errorType", laid_errors_errorType)], narrowed := true }
def MoveRoundUptoSaid : Prop := moveRoundUptoRow.holds Tryd.pinned (OpenSpec.upto moveRoundSpec)

end Rows
end Go.Proofs.YtapcfcagjlmgjaaDoor
