/-
  NARROWER THAN 'FOR EVERY INPUT', by the rows' own cells (each row's printed sentence says how): PaintOnes: laid · PaintGuards: laid · PaintParts: laid · PaintKeeps: laid · PaintAlls: laid · HostResets: laid · HostClean: laid · HostErases: laid · HostKeeps: laid · HostTwice: laid · WipeHost: laid.
  DERIVED. THE GIVEN ROWS OF THIS SEAT. 11 by the template 'for every input the law returns true; each argument reads behind the call as it read before'; 0 by the template 'total and deterministic' (their statements: YtgboplhcjhlabaaDoorTotals.lean).
  GIVEN WITH THE SEED: the statements are not yours to turn. If you find one false, say at which input.
  Laid BY PROGRAM, IN A SANDBOX (cutbox-rows.mjs): the forced cells as the released guide's own fill.sh prints them over the translation 13c5c28a684c6496… (all of the seat's roots in one cut). By AI agents, Wed Nov 11 2026. No macro, syntax, notation, axiom, sorry.
-/
import Derived.Test.YtgboplhcjhlabaaDoorChecked
import GoSem.Claim
import GoSem.ClaimJoined
import GoSem.ClaimMapViews
import Derived.JoinedTies
import Derived.KernelRfl
namespace Go.Proofs.YtgboplhcjhlabaaDoor
/- THE CELL 'sum', in the pinned program and in every row, IS THE sha256 OF THE DUMP (.gsa) THAT YtgboplhcjhlabaaDoorProg.lean LOADS. Nothing in Lean hashes anything: it is a label: what it is worth is what the hold of that sum in a sandbox is worth. -/
noncomputable def Tryd.pinned : Pinned := { name := "ytgboplhcjhlabaadoor", sum := "13c5c28a684c64962cdd87d719d08ac3c327028f83b26d9b8514804ce2ba24d7", checked := Tryd.checked }
namespace Rows
def none {H : Type} : Left H := { results := [], args := [] }

/- WHAT THE LISTED PACKAGE-LEVEL VARIABLES READ AS WHEN THE CALL BEGINS. Each datum BY PROGRAM (the guide's laid-datum.mjs) off the statement by which the dump's own 'gosem.cut.vars' lays the variable. In a bare row this is a premise. The card (YtgboplhcjhlabaaDoorCards.lean) ties it to the program's text. -/
def laid_errors_errorType {H : Type} : DataW H := .iface "internal/reflectlite.rtype" (.agg [.ptr (.lit (.string [101, 114, 114, 111, 114]))])

/-- 'shutterlaw12.PaintOnes': WHATEVER THE INPUT: true; the input reads as it did. -/
def paintOnesSpec : ChangeSpec := { name := "paintOnes", fn := fun _ => fun
  | [d1, d2, d3] => { results := [.lit (.bool true)], args := [d1, d2, d3] }
  | _ => none }
def paintOnesRow : OpenClaim := { program := "ytgboplhcjhlabaadoor", sum := "13c5c28a684c64962cdd87d719d08ac3c327028f83b26d9b8514804ce2ba24d7", func := "shutter/shutterlaw12.PaintOnes", spec := "paintOnes", inPlace := ["internal/reflectlite.ValueOf", "(internal/reflectlite.Value).Type", "(internal/reflectlite.Value).IsNil", "internal/reflectlite.TypeOf", "(internal/reflectlite.Value).Elem", "(internal/reflectlite.Value).Set"], unfollowed := true, recurses := true, named := ["errors.errorType"], apart := false, laid := [("errors.errorType", laid_errors_errorType)] }
def PaintOnesSaid : Prop := paintOnesRow.holds Tryd.pinned (OpenSpec.ofChange paintOnesSpec)

/-- ITS FALSE NEIGHBOUR: 'it returns false'. Refute it at one input. -/
def paintOnesWrong : ChangeSpec := { name := "paintOnes", fn := fun _ => fun
  | [d1, d2, d3] => { results := [.lit (.bool false)], args := [d1, d2, d3] }
  | _ => none }
def PaintOnesWrongFalsely : Prop := paintOnesRow.holds Tryd.pinned (OpenSpec.ofChange paintOnesWrong)

/-- 'shutterlaw12.PaintGuards': WHATEVER THE INPUT: true; the input reads as it did. -/
def paintGuardsSpec : ChangeSpec := { name := "paintGuards", fn := fun _ => fun
  | [d1, d2, d3] => { results := [.lit (.bool true)], args := [d1, d2, d3] }
  | _ => none }
def paintGuardsRow : OpenClaim := { program := "ytgboplhcjhlabaadoor", sum := "13c5c28a684c64962cdd87d719d08ac3c327028f83b26d9b8514804ce2ba24d7", func := "shutter/shutterlaw12.PaintGuards", spec := "paintGuards", inPlace := ["internal/reflectlite.ValueOf", "(internal/reflectlite.Value).Type", "(internal/reflectlite.Value).IsNil", "internal/reflectlite.TypeOf", "(internal/reflectlite.Value).Elem", "(internal/reflectlite.Value).Set"], unfollowed := true, recurses := true, named := ["errors.errorType"], apart := false, laid := [("errors.errorType", laid_errors_errorType)] }
def PaintGuardsSaid : Prop := paintGuardsRow.holds Tryd.pinned (OpenSpec.ofChange paintGuardsSpec)

/-- ITS FALSE NEIGHBOUR: 'it returns false'. Refute it at one input. -/
def paintGuardsWrong : ChangeSpec := { name := "paintGuards", fn := fun _ => fun
  | [d1, d2, d3] => { results := [.lit (.bool false)], args := [d1, d2, d3] }
  | _ => none }
def PaintGuardsWrongFalsely : Prop := paintGuardsRow.holds Tryd.pinned (OpenSpec.ofChange paintGuardsWrong)

/-- 'shutterlaw12.PaintParts': WHATEVER THE INPUT: true; the input reads as it did. -/
def paintPartsSpec : ChangeSpec := { name := "paintParts", fn := fun _ => fun
  | [d1, d2, d3, d4] => { results := [.lit (.bool true)], args := [d1, d2, d3, d4] }
  | _ => none }
def paintPartsRow : OpenClaim := { program := "ytgboplhcjhlabaadoor", sum := "13c5c28a684c64962cdd87d719d08ac3c327028f83b26d9b8514804ce2ba24d7", func := "shutter/shutterlaw12.PaintParts", spec := "paintParts", inPlace := ["internal/reflectlite.ValueOf", "(internal/reflectlite.Value).Type", "(internal/reflectlite.Value).IsNil", "internal/reflectlite.TypeOf", "(internal/reflectlite.Value).Elem", "(internal/reflectlite.Value).Set"], unfollowed := true, recurses := true, named := ["errors.errorType"], apart := false, laid := [("errors.errorType", laid_errors_errorType)] }
def PaintPartsSaid : Prop := paintPartsRow.holds Tryd.pinned (OpenSpec.ofChange paintPartsSpec)

/-- ITS FALSE NEIGHBOUR: 'it returns false'. Refute it at one input. -/
def paintPartsWrong : ChangeSpec := { name := "paintParts", fn := fun _ => fun
  | [d1, d2, d3, d4] => { results := [.lit (.bool false)], args := [d1, d2, d3, d4] }
  | _ => none }
def PaintPartsWrongFalsely : Prop := paintPartsRow.holds Tryd.pinned (OpenSpec.ofChange paintPartsWrong)

/-- 'shutterlaw12.PaintKeeps': WHATEVER THE INPUT: true; the input reads as it did. -/
def paintKeepsSpec : ChangeSpec := { name := "paintKeeps", fn := fun _ => fun
  | [d1, d2, d3] => { results := [.lit (.bool true)], args := [d1, d2, d3] }
  | _ => none }
def paintKeepsRow : OpenClaim := { program := "ytgboplhcjhlabaadoor", sum := "13c5c28a684c64962cdd87d719d08ac3c327028f83b26d9b8514804ce2ba24d7", func := "shutter/shutterlaw12.PaintKeeps", spec := "paintKeeps", inPlace := ["internal/reflectlite.ValueOf", "(internal/reflectlite.Value).Type", "(internal/reflectlite.Value).IsNil", "internal/reflectlite.TypeOf", "(internal/reflectlite.Value).Elem", "(internal/reflectlite.Value).Set"], unfollowed := true, recurses := true, named := ["errors.errorType"], apart := false, laid := [("errors.errorType", laid_errors_errorType)] }
def PaintKeepsSaid : Prop := paintKeepsRow.holds Tryd.pinned (OpenSpec.ofChange paintKeepsSpec)

/-- ITS FALSE NEIGHBOUR: 'it returns false'. Refute it at one input. -/
def paintKeepsWrong : ChangeSpec := { name := "paintKeeps", fn := fun _ => fun
  | [d1, d2, d3] => { results := [.lit (.bool false)], args := [d1, d2, d3] }
  | _ => none }
def PaintKeepsWrongFalsely : Prop := paintKeepsRow.holds Tryd.pinned (OpenSpec.ofChange paintKeepsWrong)

/-- 'shutterlaw12.PaintAlls': WHATEVER THE INPUT: true; the input reads as it did. -/
def paintAllsSpec : ChangeSpec := { name := "paintAlls", fn := fun _ => fun
  | [d1, d2, d3] => { results := [.lit (.bool true)], args := [d1, d2, d3] }
  | _ => none }
def paintAllsRow : OpenClaim := { program := "ytgboplhcjhlabaadoor", sum := "13c5c28a684c64962cdd87d719d08ac3c327028f83b26d9b8514804ce2ba24d7", func := "shutter/shutterlaw12.PaintAlls", spec := "paintAlls", inPlace := ["internal/reflectlite.ValueOf", "(internal/reflectlite.Value).Type", "(internal/reflectlite.Value).IsNil", "internal/reflectlite.TypeOf", "(internal/reflectlite.Value).Elem", "(internal/reflectlite.Value).Set"], unfollowed := true, recurses := true, named := ["errors.errorType"], apart := false, laid := [("errors.errorType", laid_errors_errorType)] }
def PaintAllsSaid : Prop := paintAllsRow.holds Tryd.pinned (OpenSpec.ofChange paintAllsSpec)

/-- ITS FALSE NEIGHBOUR: 'it returns false'. Refute it at one input. -/
def paintAllsWrong : ChangeSpec := { name := "paintAlls", fn := fun _ => fun
  | [d1, d2, d3] => { results := [.lit (.bool false)], args := [d1, d2, d3] }
  | _ => none }
def PaintAllsWrongFalsely : Prop := paintAllsRow.holds Tryd.pinned (OpenSpec.ofChange paintAllsWrong)

/-- 'shutterlaw13.HostResets': WHATEVER THE INPUT: true; the input reads as it did. -/
def hostResetsSpec : ChangeSpec := { name := "hostResets", fn := fun _ => fun
  | [d1, d2] => { results := [.lit (.bool true)], args := [d1, d2] }
  | _ => none }
def hostResetsRow : OpenClaim := { program := "ytgboplhcjhlabaadoor", sum := "13c5c28a684c64962cdd87d719d08ac3c327028f83b26d9b8514804ce2ba24d7", func := "shutter/shutterlaw13.HostResets", spec := "hostResets", inPlace := ["internal/reflectlite.ValueOf", "(internal/reflectlite.Value).Type", "(internal/reflectlite.Value).IsNil", "internal/reflectlite.TypeOf", "(internal/reflectlite.Value).Elem", "(internal/reflectlite.Value).Set"], unfollowed := true, recurses := true, named := ["errors.errorType"], apart := false, laid := [("errors.errorType", laid_errors_errorType)] }
def HostResetsSaid : Prop := hostResetsRow.holds Tryd.pinned (OpenSpec.ofChange hostResetsSpec)

/-- ITS FALSE NEIGHBOUR: 'it returns false'. Refute it at one input. -/
def hostResetsWrong : ChangeSpec := { name := "hostResets", fn := fun _ => fun
  | [d1, d2] => { results := [.lit (.bool false)], args := [d1, d2] }
  | _ => none }
def HostResetsWrongFalsely : Prop := hostResetsRow.holds Tryd.pinned (OpenSpec.ofChange hostResetsWrong)

/-- 'shutterlaw13.HostClean': WHATEVER THE INPUT: true; the input reads as it did. -/
def hostCleanSpec : ChangeSpec := { name := "hostClean", fn := fun _ => fun
  | [d] => { results := [.lit (.bool true)], args := [d] }
  | _ => none }
def hostCleanRow : OpenClaim := { program := "ytgboplhcjhlabaadoor", sum := "13c5c28a684c64962cdd87d719d08ac3c327028f83b26d9b8514804ce2ba24d7", func := "shutter/shutterlaw13.HostClean", spec := "hostClean", inPlace := ["internal/reflectlite.ValueOf", "(internal/reflectlite.Value).Type", "(internal/reflectlite.Value).IsNil", "internal/reflectlite.TypeOf", "(internal/reflectlite.Value).Elem", "(internal/reflectlite.Value).Set"], unfollowed := true, recurses := true, named := ["errors.errorType"], apart := false, laid := [("errors.errorType", laid_errors_errorType)] }
def HostCleanSaid : Prop := hostCleanRow.holds Tryd.pinned (OpenSpec.ofChange hostCleanSpec)

/-- ITS FALSE NEIGHBOUR: 'it returns false'. Refute it at one input. -/
def hostCleanWrong : ChangeSpec := { name := "hostClean", fn := fun _ => fun
  | [d] => { results := [.lit (.bool false)], args := [d] }
  | _ => none }
def HostCleanWrongFalsely : Prop := hostCleanRow.holds Tryd.pinned (OpenSpec.ofChange hostCleanWrong)

/-- 'shutterlaw13.HostErases': WHATEVER THE INPUT: true; the input reads as it did. -/
def hostErasesSpec : ChangeSpec := { name := "hostErases", fn := fun _ => fun
  | [d1, d2, d3] => { results := [.lit (.bool true)], args := [d1, d2, d3] }
  | _ => none }
def hostErasesRow : OpenClaim := { program := "ytgboplhcjhlabaadoor", sum := "13c5c28a684c64962cdd87d719d08ac3c327028f83b26d9b8514804ce2ba24d7", func := "shutter/shutterlaw13.HostErases", spec := "hostErases", inPlace := ["internal/reflectlite.ValueOf", "(internal/reflectlite.Value).Type", "(internal/reflectlite.Value).IsNil", "internal/reflectlite.TypeOf", "(internal/reflectlite.Value).Elem", "(internal/reflectlite.Value).Set"], unfollowed := true, recurses := true, named := ["errors.errorType"], apart := false, laid := [("errors.errorType", laid_errors_errorType)] }
def HostErasesSaid : Prop := hostErasesRow.holds Tryd.pinned (OpenSpec.ofChange hostErasesSpec)

/-- ITS FALSE NEIGHBOUR: 'it returns false'. Refute it at one input. -/
def hostErasesWrong : ChangeSpec := { name := "hostErases", fn := fun _ => fun
  | [d1, d2, d3] => { results := [.lit (.bool false)], args := [d1, d2, d3] }
  | _ => none }
def HostErasesWrongFalsely : Prop := hostErasesRow.holds Tryd.pinned (OpenSpec.ofChange hostErasesWrong)

/-- 'shutterlaw13.HostKeeps': WHATEVER THE INPUT: true; the input reads as it did. -/
def hostKeepsSpec : ChangeSpec := { name := "hostKeeps", fn := fun _ => fun
  | [d1, d2] => { results := [.lit (.bool true)], args := [d1, d2] }
  | _ => none }
def hostKeepsRow : OpenClaim := { program := "ytgboplhcjhlabaadoor", sum := "13c5c28a684c64962cdd87d719d08ac3c327028f83b26d9b8514804ce2ba24d7", func := "shutter/shutterlaw13.HostKeeps", spec := "hostKeeps", inPlace := ["internal/reflectlite.ValueOf", "(internal/reflectlite.Value).Type", "(internal/reflectlite.Value).IsNil", "internal/reflectlite.TypeOf", "(internal/reflectlite.Value).Elem", "(internal/reflectlite.Value).Set"], unfollowed := true, recurses := true, named := ["errors.errorType"], apart := false, laid := [("errors.errorType", laid_errors_errorType)] }
def HostKeepsSaid : Prop := hostKeepsRow.holds Tryd.pinned (OpenSpec.ofChange hostKeepsSpec)

/-- ITS FALSE NEIGHBOUR: 'it returns false'. Refute it at one input. -/
def hostKeepsWrong : ChangeSpec := { name := "hostKeeps", fn := fun _ => fun
  | [d1, d2] => { results := [.lit (.bool false)], args := [d1, d2] }
  | _ => none }
def HostKeepsWrongFalsely : Prop := hostKeepsRow.holds Tryd.pinned (OpenSpec.ofChange hostKeepsWrong)

/-- 'shutterlaw13.HostTwice': WHATEVER THE INPUT: true; the input reads as it did. -/
def hostTwiceSpec : ChangeSpec := { name := "hostTwice", fn := fun _ => fun
  | [d1, d2, d3] => { results := [.lit (.bool true)], args := [d1, d2, d3] }
  | _ => none }
def hostTwiceRow : OpenClaim := { program := "ytgboplhcjhlabaadoor", sum := "13c5c28a684c64962cdd87d719d08ac3c327028f83b26d9b8514804ce2ba24d7", func := "shutter/shutterlaw13.HostTwice", spec := "hostTwice", inPlace := ["internal/reflectlite.ValueOf", "(internal/reflectlite.Value).Type", "(internal/reflectlite.Value).IsNil", "internal/reflectlite.TypeOf", "(internal/reflectlite.Value).Elem", "(internal/reflectlite.Value).Set"], unfollowed := true, recurses := true, named := ["errors.errorType"], apart := false, laid := [("errors.errorType", laid_errors_errorType)] }
def HostTwiceSaid : Prop := hostTwiceRow.holds Tryd.pinned (OpenSpec.ofChange hostTwiceSpec)

/-- ITS FALSE NEIGHBOUR: 'it returns false'. Refute it at one input. -/
def hostTwiceWrong : ChangeSpec := { name := "hostTwice", fn := fun _ => fun
  | [d1, d2, d3] => { results := [.lit (.bool false)], args := [d1, d2, d3] }
  | _ => none }
def HostTwiceWrongFalsely : Prop := hostTwiceRow.holds Tryd.pinned (OpenSpec.ofChange hostTwiceWrong)

/-- 'shutterlaw16.WipeHost': WHATEVER THE INPUT: true; the input reads as it did. -/
def wipeHostSpec : ChangeSpec := { name := "wipeHost", fn := fun _ => fun
  | [d] => { results := [.lit (.bool true)], args := [d] }
  | _ => none }
def wipeHostRow : OpenClaim := { program := "ytgboplhcjhlabaadoor", sum := "13c5c28a684c64962cdd87d719d08ac3c327028f83b26d9b8514804ce2ba24d7", func := "shutter/shutterlaw16.WipeHost", spec := "wipeHost", inPlace := ["internal/reflectlite.ValueOf", "(internal/reflectlite.Value).Type", "(internal/reflectlite.Value).IsNil", "internal/reflectlite.TypeOf", "(internal/reflectlite.Value).Elem", "(internal/reflectlite.Value).Set"], unfollowed := true, recurses := true, named := ["errors.errorType"], apart := false, laid := [("errors.errorType", laid_errors_errorType)] }
def WipeHostSaid : Prop := wipeHostRow.holds Tryd.pinned (OpenSpec.ofChange wipeHostSpec)

/-- ITS FALSE NEIGHBOUR: 'it returns false'. Refute it at one input. -/
def wipeHostWrong : ChangeSpec := { name := "wipeHost", fn := fun _ => fun
  | [d] => { results := [.lit (.bool false)], args := [d] }
  | _ => none }
def WipeHostWrongFalsely : Prop := wipeHostRow.holds Tryd.pinned (OpenSpec.ofChange wipeHostWrong)

/- THE SECOND FORM. 'bulk': how many values and letters a reading holds, each counted each time it is reached (what is shared counts as often as it is met; a slice's spare places count too). A statement '..UptoSaid' is the law's where the arguments, and the package variables that the reading takes, are together of bulk at most 1048576: NARROWER than '..Said'. Prove '..Said' where nothing that the law and all that it calls make is longer than what came in: it says more and counts as full. Else prove '..UptoSaid'. A law counts once. -/
mutual
def uptoBulk {H : Type} : DataW H → Nat
  | .lit (.string bytes) => bytes.length + 1
  | .lit _ => 1
  | .nil => 1
  | .ptr d => uptoBulk d + 1
  | .slice elems spare => uptoBulkAll elems + uptoBulkAll spare + 1
  | .agg parts => uptoBulkAll parts + 1
  | .iface _ d => uptoBulk d + 1
  | .map entries => uptoBulkEntries entries + 1
  | .held _ => 1
def uptoBulkAll {H : Type} : List (DataW H) → Nat
  | [] => 0
  | d :: r => uptoBulk d + uptoBulkAll r
def uptoBulkEntries {H : Type} : List (Lit × DataW H) → Nat
  | [] => 0
  | x :: r => uptoBulkEntry x + uptoBulkEntries r
def uptoBulkEntry {H : Type} : Lit × DataW H → Nat
  | (.string bytes, d) => bytes.length + uptoBulk d + 1
  | (_, d) => uptoBulk d + 1
 end
def uptoSmall : (H : Type) → List (DataW H) → Bool := fun _ ds => decide (uptoBulkAll ds ≤ 1048576)
def OpenSpec.upto (s : _root_.Go.ChangeSpec) : _root_.Go.OpenSpec := { _root_.Go.OpenSpec.ofChange s with cond := some uptoSmall }

/-- 'shutterlaw12.PaintOnes', WHERE WHAT IT READS IS OF BULK AT MOST 1048576: true; the input reads as it did. -/
def paintOnesUptoRow : OpenClaim := { program := "ytgboplhcjhlabaadoor", sum := "13c5c28a684c64962cdd87d719d08ac3c327028f83b26d9b8514804ce2ba24d7", func := "shutter/shutterlaw12.PaintOnes", spec := "paintOnes", inPlace := ["internal/reflectlite.ValueOf", "(internal/reflectlite.Value).Type", "(internal/reflectlite.Value).IsNil", "internal/reflectlite.TypeOf", "(internal/reflectlite.Value).Elem", "(internal/reflectlite.Value).Set"], unfollowed := true, recurses := true, named := ["errors.errorType"], apart := false, laid := [("errors.errorType", laid_errors_errorType)], narrowed := true }
def PaintOnesUptoSaid : Prop := paintOnesUptoRow.holds Tryd.pinned (OpenSpec.upto paintOnesSpec)

/-- 'shutterlaw12.PaintGuards', WHERE WHAT IT READS IS OF BULK AT MOST 1048576: true; the input reads as it did. -/
def paintGuardsUptoRow : OpenClaim := { program := "ytgboplhcjhlabaadoor", sum := "13c5c28a684c64962cdd87d719d08ac3c327028f83b26d9b8514804ce2ba24d7", func := "shutter/shutterlaw12.PaintGuards", spec := "paintGuards", inPlace := ["internal/reflectlite.ValueOf", "(internal/reflectlite.Value).Type", "(internal/reflectlite.Value).IsNil", "internal/reflectlite.TypeOf", "(internal/reflectlite.Value).Elem", "(internal/reflectlite.Value).Set"], unfollowed := true, recurses := true, named := ["errors.errorType"], apart := false, laid := [("errors.errorType", laid_errors_errorType)], narrowed := true }
def PaintGuardsUptoSaid : Prop := paintGuardsUptoRow.holds Tryd.pinned (OpenSpec.upto paintGuardsSpec)

/-- 'shutterlaw12.PaintParts', WHERE WHAT IT READS IS OF BULK AT MOST 1048576: true; the input reads as it did. -/
def paintPartsUptoRow : OpenClaim := { program := "ytgboplhcjhlabaadoor", sum := "13c5c28a684c64962cdd87d719d08ac3c327028f83b26d9b8514804ce2ba24d7", func := "shutter/shutterlaw12.PaintParts", spec := "paintParts", inPlace := ["internal/reflectlite.ValueOf", "(internal/reflectlite.Value).Type", "(internal/reflectlite.Value).IsNil", "internal/reflectlite.TypeOf", "(internal/reflectlite.Value).Elem", "(internal/reflectlite.Value).Set"], unfollowed := true, recurses := true, named := ["errors.errorType"], apart := false, laid := [("errors.errorType", laid_errors_errorType)], narrowed := true }
def PaintPartsUptoSaid : Prop := paintPartsUptoRow.holds Tryd.pinned (OpenSpec.upto paintPartsSpec)

/-- 'shutterlaw12.PaintKeeps', WHERE WHAT IT READS IS OF BULK AT MOST 1048576: true; the input reads as it did. -/
def paintKeepsUptoRow : OpenClaim := { program := "ytgboplhcjhlabaadoor", sum := "13c5c28a684c64962cdd87d719d08ac3c327028f83b26d9b8514804ce2ba24d7", func := "shutter/shutterlaw12.PaintKeeps", spec := "paintKeeps", inPlace := ["internal/reflectlite.ValueOf", "(internal/reflectlite.Value).Type", "(internal/reflectlite.Value).IsNil", "internal/reflectlite.TypeOf", "(internal/reflectlite.Value).Elem", "(internal/reflectlite.Value).Set"], unfollowed := true, recurses := true, named := ["errors.errorType"], apart := false, laid := [("errors.errorType", laid_errors_errorType)], narrowed := true }
def PaintKeepsUptoSaid : Prop := paintKeepsUptoRow.holds Tryd.pinned (OpenSpec.upto paintKeepsSpec)

/-- 'shutterlaw12.PaintAlls', WHERE WHAT IT READS IS OF BULK AT MOST 1048576: true; the input reads as it did. -/
def paintAllsUptoRow : OpenClaim := { program := "ytgboplhcjhlabaadoor", sum := "13c5c28a684c64962cdd87d719d08ac3c327028f83b26d9b8514804ce2ba24d7", func := "shutter/shutterlaw12.PaintAlls", spec := "paintAlls", inPlace := ["internal/reflectlite.ValueOf", "(internal/reflectlite.Value).Type", "(internal/reflectlite.Value).IsNil", "internal/reflectlite.TypeOf", "(internal/reflectlite.Value).Elem", "(internal/reflectlite.Value).Set"], unfollowed := true, recurses := true, named := ["errors.errorType"], apart := false, laid := [("errors.errorType", laid_errors_errorType)], narrowed := true }
def PaintAllsUptoSaid : Prop := paintAllsUptoRow.holds Tryd.pinned (OpenSpec.upto paintAllsSpec)

/-- 'shutterlaw13.HostResets', WHERE WHAT IT READS IS OF BULK AT MOST 1048576: true; the input reads as it did. -/
def hostResetsUptoRow : OpenClaim := { program := "ytgboplhcjhlabaadoor", sum := "13c5c28a684c64962cdd87d719d08ac3c327028f83b26d9b8514804ce2ba24d7", func := "shutter/shutterlaw13.HostResets", spec := "hostResets", inPlace := ["internal/reflectlite.ValueOf", "(internal/reflectlite.Value).Type", "(internal/reflectlite.Value).IsNil", "internal/reflectlite.TypeOf", "(internal/reflectlite.Value).Elem", "(internal/reflectlite.Value).Set"], unfollowed := true, recurses := true, named := ["errors.errorType"], apart := false, laid := [("errors.errorType", laid_errors_errorType)], narrowed := true }
def HostResetsUptoSaid : Prop := hostResetsUptoRow.holds Tryd.pinned (OpenSpec.upto hostResetsSpec)

/-- 'shutterlaw13.HostClean', WHERE WHAT IT READS IS OF BULK AT MOST 1048576: true; the input reads as it did. -/
def hostCleanUptoRow : OpenClaim := { program := "ytgboplhcjhlabaadoor", sum := "13c5c28a684c64962cdd87d719d08ac3c327028f83b26d9b8514804ce2ba24d7", func := "shutter/shutterlaw13.HostClean", spec := "hostClean", inPlace := ["internal/reflectlite.ValueOf", "(internal/reflectlite.Value).Type", "(internal/reflectlite.Value).IsNil", "internal/reflectlite.TypeOf", "(internal/reflectlite.Value).Elem", "(internal/reflectlite.Value).Set"], unfollowed := true, recurses := true, named := ["errors.errorType"], apart := false, laid := [("errors.errorType", laid_errors_errorType)], narrowed := true }
def HostCleanUptoSaid : Prop := hostCleanUptoRow.holds Tryd.pinned (OpenSpec.upto hostCleanSpec)

/-- 'shutterlaw13.HostErases', WHERE WHAT IT READS IS OF BULK AT MOST 1048576: true; the input reads as it did. -/
def hostErasesUptoRow : OpenClaim := { program := "ytgboplhcjhlabaadoor", sum := "13c5c28a684c64962cdd87d719d08ac3c327028f83b26d9b8514804ce2ba24d7", func := "shutter/shutterlaw13.HostErases", spec := "hostErases", inPlace := ["internal/reflectlite.ValueOf", "(internal/reflectlite.Value).Type", "(internal/reflectlite.Value).IsNil", "internal/reflectlite.TypeOf", "(internal/reflectlite.Value).Elem", "(internal/reflectlite.Value).Set"], unfollowed := true, recurses := true, named := ["errors.errorType"], apart := false, laid := [("errors.errorType", laid_errors_errorType)], narrowed := true }
def HostErasesUptoSaid : Prop := hostErasesUptoRow.holds Tryd.pinned (OpenSpec.upto hostErasesSpec)

/-- 'shutterlaw13.HostKeeps', WHERE WHAT IT READS IS OF BULK AT MOST 1048576: true; the input reads as it did. -/
def hostKeepsUptoRow : OpenClaim := { program := "ytgboplhcjhlabaadoor", sum := "13c5c28a684c64962cdd87d719d08ac3c327028f83b26d9b8514804ce2ba24d7", func := "shutter/shutterlaw13.HostKeeps", spec := "hostKeeps", inPlace := ["internal/reflectlite.ValueOf", "(internal/reflectlite.Value).Type", "(internal/reflectlite.Value).IsNil", "internal/reflectlite.TypeOf", "(internal/reflectlite.Value).Elem", "(internal/reflectlite.Value).Set"], unfollowed := true, recurses := true, named := ["errors.errorType"], apart := false, laid := [("errors.errorType", laid_errors_errorType)], narrowed := true }
def HostKeepsUptoSaid : Prop := hostKeepsUptoRow.holds Tryd.pinned (OpenSpec.upto hostKeepsSpec)

/-- 'shutterlaw13.HostTwice', WHERE WHAT IT READS IS OF BULK AT MOST 1048576: true; the input reads as it did. -/
def hostTwiceUptoRow : OpenClaim := { program := "ytgboplhcjhlabaadoor", sum := "13c5c28a684c64962cdd87d719d08ac3c327028f83b26d9b8514804ce2ba24d7", func := "shutter/shutterlaw13.HostTwice", spec := "hostTwice", inPlace := ["internal/reflectlite.ValueOf", "(internal/reflectlite.Value).Type", "(internal/reflectlite.Value).IsNil", "internal/reflectlite.TypeOf", "(internal/reflectlite.Value).Elem", "(internal/reflectlite.Value).Set"], unfollowed := true, recurses := true, named := ["errors.errorType"], apart := false, laid := [("errors.errorType", laid_errors_errorType)], narrowed := true }
def HostTwiceUptoSaid : Prop := hostTwiceUptoRow.holds Tryd.pinned (OpenSpec.upto hostTwiceSpec)

/-- 'shutterlaw16.WipeHost', WHERE WHAT IT READS IS OF BULK AT MOST 1048576: true; the input reads as it did. -/
def wipeHostUptoRow : OpenClaim := { program := "ytgboplhcjhlabaadoor", sum := "13c5c28a684c64962cdd87d719d08ac3c327028f83b26d9b8514804ce2ba24d7", func := "shutter/shutterlaw16.WipeHost", spec := "wipeHost", inPlace := ["internal/reflectlite.ValueOf", "(internal/reflectlite.Value).Type", "(internal/reflectlite.Value).IsNil", "internal/reflectlite.TypeOf", "(internal/reflectlite.Value).Elem", "(internal/reflectlite.Value).Set"], unfollowed := true, recurses := true, named := ["errors.errorType"], apart := false, laid := [("errors.errorType", laid_errors_errorType)], narrowed := true }
def WipeHostUptoSaid : Prop := wipeHostUptoRow.holds Tryd.pinned (OpenSpec.upto wipeHostSpec)

end Rows
end Go.Proofs.YtgboplhcjhlabaaDoor
