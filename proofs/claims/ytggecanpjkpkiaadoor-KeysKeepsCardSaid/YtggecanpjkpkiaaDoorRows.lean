/-
  NARROWER THAN 'FOR EVERY INPUT', by the rows' own cells (each row's printed sentence says how): WipeGuards: laid · WipeKeeps: laid · WipeTwice: laid · WipeDoes: laid · EditInserts: laid · EditOver: laid · EditTypes: laid · EditLines: laid · EditGuards: laid · WipeUndoes: laid · KeysGuard: laid · KeysLocked: laid · KeysAsk: laid · KeysKeeps: laid.
  DERIVED. THE GIVEN ROWS OF THIS SEAT. 14 by the template 'for every input the law returns true; each argument reads behind the call as it read before'; 0 by the template 'total and deterministic' (their statements: YtggecanpjkpkiaaDoorTotals.lean).
  GIVEN WITH THE SEED: the statements are not yours to turn. If you find one false, say at which input.
  Laid BY PROGRAM, IN A SANDBOX (cutbox-rows.mjs): the forced cells as the released guide's own fill.sh prints them over the translation 470f862857d461b0… (all of the seat's roots in one cut). By AI agents, Wed Nov 11 2026. No macro, syntax, notation, axiom, sorry.
-/
import Derived.Test.YtggecanpjkpkiaaDoorChecked
import GoSem.Claim
import GoSem.ClaimJoined
import GoSem.ClaimMapViews
import Derived.JoinedTies
import Derived.KernelRfl
namespace Go.Proofs.YtggecanpjkpkiaaDoor
/- THE CELL 'sum', in the pinned program and in every row, IS THE sha256 OF THE DUMP (.gsa) THAT YtggecanpjkpkiaaDoorProg.lean LOADS. Nothing in Lean hashes anything: it is a label: what it is worth is what the hold of that sum in a sandbox is worth. -/
noncomputable def Tryd.pinned : Pinned := { name := "ytggecanpjkpkiaadoor", sum := "470f862857d461b03683669eedd732b5d5036bcae62b4fdde2ed4ceb28fa0952", checked := Tryd.checked }
namespace Rows
def none {H : Type} : Left H := { results := [], args := [] }

/- WHAT THE LISTED PACKAGE-LEVEL VARIABLES READ AS WHEN THE CALL BEGINS. Each datum BY PROGRAM (the guide's laid-datum.mjs) off the statement by which the dump's own 'gosem.cut.vars' lays the variable. In a bare row this is a premise. The card (YtggecanpjkpkiaaDoorCards.lean) ties it to the program's text. -/
def laid_errors_errorType {H : Type} : DataW H := .iface "internal/reflectlite.rtype" (.agg [.ptr (.lit (.string [101, 114, 114, 111, 114]))])

/-- 'shutterlaw16.WipeGuards': WHATEVER THE INPUT: true; the input reads as it did. -/
def wipeGuardsSpec : ChangeSpec := { name := "wipeGuards", fn := fun _ => fun
  | [d1, d2] => { results := [.lit (.bool true)], args := [d1, d2] }
  | _ => none }
def wipeGuardsRow : OpenClaim := { program := "ytggecanpjkpkiaadoor", sum := "470f862857d461b03683669eedd732b5d5036bcae62b4fdde2ed4ceb28fa0952", func := "shutter/shutterlaw16.WipeGuards", spec := "wipeGuards", inPlace := ["internal/reflectlite.ValueOf", "(internal/reflectlite.Value).Type", "(internal/reflectlite.Value).IsNil", "internal/reflectlite.TypeOf", "(internal/reflectlite.Value).Elem", "(internal/reflectlite.Value).Set"], unfollowed := true, recurses := true, named := ["errors.errorType"], apart := false, laid := [("errors.errorType", laid_errors_errorType)] }
def WipeGuardsSaid : Prop := wipeGuardsRow.holds Tryd.pinned (OpenSpec.ofChange wipeGuardsSpec)

/-- ITS FALSE NEIGHBOUR: 'it returns false'. Refute it at one input. -/
def wipeGuardsWrong : ChangeSpec := { name := "wipeGuards", fn := fun _ => fun
  | [d1, d2] => { results := [.lit (.bool false)], args := [d1, d2] }
  | _ => none }
def WipeGuardsWrongFalsely : Prop := wipeGuardsRow.holds Tryd.pinned (OpenSpec.ofChange wipeGuardsWrong)

/-- 'shutterlaw16.WipeKeeps': WHATEVER THE INPUT: true; the input reads as it did. -/
def wipeKeepsSpec : ChangeSpec := { name := "wipeKeeps", fn := fun _ => fun
  | [d1, d2] => { results := [.lit (.bool true)], args := [d1, d2] }
  | _ => none }
def wipeKeepsRow : OpenClaim := { program := "ytggecanpjkpkiaadoor", sum := "470f862857d461b03683669eedd732b5d5036bcae62b4fdde2ed4ceb28fa0952", func := "shutter/shutterlaw16.WipeKeeps", spec := "wipeKeeps", inPlace := ["internal/reflectlite.ValueOf", "(internal/reflectlite.Value).Type", "(internal/reflectlite.Value).IsNil", "internal/reflectlite.TypeOf", "(internal/reflectlite.Value).Elem", "(internal/reflectlite.Value).Set"], unfollowed := true, recurses := true, named := ["errors.errorType"], apart := false, laid := [("errors.errorType", laid_errors_errorType)] }
def WipeKeepsSaid : Prop := wipeKeepsRow.holds Tryd.pinned (OpenSpec.ofChange wipeKeepsSpec)

/-- ITS FALSE NEIGHBOUR: 'it returns false'. Refute it at one input. -/
def wipeKeepsWrong : ChangeSpec := { name := "wipeKeeps", fn := fun _ => fun
  | [d1, d2] => { results := [.lit (.bool false)], args := [d1, d2] }
  | _ => none }
def WipeKeepsWrongFalsely : Prop := wipeKeepsRow.holds Tryd.pinned (OpenSpec.ofChange wipeKeepsWrong)

/-- 'shutterlaw16.WipeTwice': WHATEVER THE INPUT: true; the input reads as it did. -/
def wipeTwiceSpec : ChangeSpec := { name := "wipeTwice", fn := fun _ => fun
  | [d] => { results := [.lit (.bool true)], args := [d] }
  | _ => none }
def wipeTwiceRow : OpenClaim := { program := "ytggecanpjkpkiaadoor", sum := "470f862857d461b03683669eedd732b5d5036bcae62b4fdde2ed4ceb28fa0952", func := "shutter/shutterlaw16.WipeTwice", spec := "wipeTwice", inPlace := ["internal/reflectlite.ValueOf", "(internal/reflectlite.Value).Type", "(internal/reflectlite.Value).IsNil", "internal/reflectlite.TypeOf", "(internal/reflectlite.Value).Elem", "(internal/reflectlite.Value).Set"], unfollowed := true, recurses := true, named := ["errors.errorType"], apart := false, laid := [("errors.errorType", laid_errors_errorType)] }
def WipeTwiceSaid : Prop := wipeTwiceRow.holds Tryd.pinned (OpenSpec.ofChange wipeTwiceSpec)

/-- ITS FALSE NEIGHBOUR: 'it returns false'. Refute it at one input. -/
def wipeTwiceWrong : ChangeSpec := { name := "wipeTwice", fn := fun _ => fun
  | [d] => { results := [.lit (.bool false)], args := [d] }
  | _ => none }
def WipeTwiceWrongFalsely : Prop := wipeTwiceRow.holds Tryd.pinned (OpenSpec.ofChange wipeTwiceWrong)

/-- 'shutterlaw16.WipeDoes': WHATEVER THE INPUT: true; the input reads as it did. -/
def wipeDoesSpec : ChangeSpec := { name := "wipeDoes", fn := fun _ => fun
  | [d1, d2] => { results := [.lit (.bool true)], args := [d1, d2] }
  | _ => none }
def wipeDoesRow : OpenClaim := { program := "ytggecanpjkpkiaadoor", sum := "470f862857d461b03683669eedd732b5d5036bcae62b4fdde2ed4ceb28fa0952", func := "shutter/shutterlaw16.WipeDoes", spec := "wipeDoes", inPlace := ["internal/reflectlite.ValueOf", "(internal/reflectlite.Value).Type", "(internal/reflectlite.Value).IsNil", "internal/reflectlite.TypeOf", "(internal/reflectlite.Value).Elem", "(internal/reflectlite.Value).Set"], unfollowed := true, recurses := true, named := ["errors.errorType"], apart := false, laid := [("errors.errorType", laid_errors_errorType)] }
def WipeDoesSaid : Prop := wipeDoesRow.holds Tryd.pinned (OpenSpec.ofChange wipeDoesSpec)

/-- ITS FALSE NEIGHBOUR: 'it returns false'. Refute it at one input. -/
def wipeDoesWrong : ChangeSpec := { name := "wipeDoes", fn := fun _ => fun
  | [d1, d2] => { results := [.lit (.bool false)], args := [d1, d2] }
  | _ => none }
def WipeDoesWrongFalsely : Prop := wipeDoesRow.holds Tryd.pinned (OpenSpec.ofChange wipeDoesWrong)

/-- 'shutterlaw14.EditInserts': WHATEVER THE INPUT: true; the input reads as it did. -/
def editInsertsSpec : ChangeSpec := { name := "editInserts", fn := fun _ => fun
  | [d1, d2] => { results := [.lit (.bool true)], args := [d1, d2] }
  | _ => none }
def editInsertsRow : OpenClaim := { program := "ytggecanpjkpkiaadoor", sum := "470f862857d461b03683669eedd732b5d5036bcae62b4fdde2ed4ceb28fa0952", func := "shutter/shutterlaw14.EditInserts", spec := "editInserts", inPlace := ["internal/reflectlite.ValueOf", "(internal/reflectlite.Value).Type", "(internal/reflectlite.Value).IsNil", "internal/reflectlite.TypeOf", "(internal/reflectlite.Value).Elem", "(internal/reflectlite.Value).Set"], unfollowed := true, recurses := true, named := ["errors.errorType"], apart := false, laid := [("errors.errorType", laid_errors_errorType)] }
def EditInsertsSaid : Prop := editInsertsRow.holds Tryd.pinned (OpenSpec.ofChange editInsertsSpec)

/-- ITS FALSE NEIGHBOUR: 'it returns false'. Refute it at one input. -/
def editInsertsWrong : ChangeSpec := { name := "editInserts", fn := fun _ => fun
  | [d1, d2] => { results := [.lit (.bool false)], args := [d1, d2] }
  | _ => none }
def EditInsertsWrongFalsely : Prop := editInsertsRow.holds Tryd.pinned (OpenSpec.ofChange editInsertsWrong)

/-- 'shutterlaw14.EditOver': WHATEVER THE INPUT: true; the input reads as it did. -/
def editOverSpec : ChangeSpec := { name := "editOver", fn := fun _ => fun
  | [d1, d2, d3] => { results := [.lit (.bool true)], args := [d1, d2, d3] }
  | _ => none }
def editOverRow : OpenClaim := { program := "ytggecanpjkpkiaadoor", sum := "470f862857d461b03683669eedd732b5d5036bcae62b4fdde2ed4ceb28fa0952", func := "shutter/shutterlaw14.EditOver", spec := "editOver", inPlace := ["internal/reflectlite.ValueOf", "(internal/reflectlite.Value).Type", "(internal/reflectlite.Value).IsNil", "internal/reflectlite.TypeOf", "(internal/reflectlite.Value).Elem", "(internal/reflectlite.Value).Set"], unfollowed := true, recurses := true, named := ["errors.errorType"], apart := false, laid := [("errors.errorType", laid_errors_errorType)] }
def EditOverSaid : Prop := editOverRow.holds Tryd.pinned (OpenSpec.ofChange editOverSpec)

/-- ITS FALSE NEIGHBOUR: 'it returns false'. Refute it at one input. -/
def editOverWrong : ChangeSpec := { name := "editOver", fn := fun _ => fun
  | [d1, d2, d3] => { results := [.lit (.bool false)], args := [d1, d2, d3] }
  | _ => none }
def EditOverWrongFalsely : Prop := editOverRow.holds Tryd.pinned (OpenSpec.ofChange editOverWrong)

/-- 'shutterlaw14.EditTypes': WHATEVER THE INPUT: true; the input reads as it did. -/
def editTypesSpec : ChangeSpec := { name := "editTypes", fn := fun _ => fun
  | [d1, d2] => { results := [.lit (.bool true)], args := [d1, d2] }
  | _ => none }
def editTypesRow : OpenClaim := { program := "ytggecanpjkpkiaadoor", sum := "470f862857d461b03683669eedd732b5d5036bcae62b4fdde2ed4ceb28fa0952", func := "shutter/shutterlaw14.EditTypes", spec := "editTypes", inPlace := ["internal/reflectlite.ValueOf", "(internal/reflectlite.Value).Type", "(internal/reflectlite.Value).IsNil", "internal/reflectlite.TypeOf", "(internal/reflectlite.Value).Elem", "(internal/reflectlite.Value).Set"], unfollowed := true, recurses := true, named := ["errors.errorType"], apart := false, laid := [("errors.errorType", laid_errors_errorType)] }
def EditTypesSaid : Prop := editTypesRow.holds Tryd.pinned (OpenSpec.ofChange editTypesSpec)

/-- ITS FALSE NEIGHBOUR: 'it returns false'. Refute it at one input. -/
def editTypesWrong : ChangeSpec := { name := "editTypes", fn := fun _ => fun
  | [d1, d2] => { results := [.lit (.bool false)], args := [d1, d2] }
  | _ => none }
def EditTypesWrongFalsely : Prop := editTypesRow.holds Tryd.pinned (OpenSpec.ofChange editTypesWrong)

/-- 'shutterlaw14.EditLines': WHATEVER THE INPUT: true; the input reads as it did. -/
def editLinesSpec : ChangeSpec := { name := "editLines", fn := fun _ => fun
  | [d1, d2, d3] => { results := [.lit (.bool true)], args := [d1, d2, d3] }
  | _ => none }
def editLinesRow : OpenClaim := { program := "ytggecanpjkpkiaadoor", sum := "470f862857d461b03683669eedd732b5d5036bcae62b4fdde2ed4ceb28fa0952", func := "shutter/shutterlaw14.EditLines", spec := "editLines", inPlace := ["internal/reflectlite.ValueOf", "(internal/reflectlite.Value).Type", "(internal/reflectlite.Value).IsNil", "internal/reflectlite.TypeOf", "(internal/reflectlite.Value).Elem", "(internal/reflectlite.Value).Set"], unfollowed := true, recurses := true, named := ["errors.errorType"], apart := false, laid := [("errors.errorType", laid_errors_errorType)] }
def EditLinesSaid : Prop := editLinesRow.holds Tryd.pinned (OpenSpec.ofChange editLinesSpec)

/-- ITS FALSE NEIGHBOUR: 'it returns false'. Refute it at one input. -/
def editLinesWrong : ChangeSpec := { name := "editLines", fn := fun _ => fun
  | [d1, d2, d3] => { results := [.lit (.bool false)], args := [d1, d2, d3] }
  | _ => none }
def EditLinesWrongFalsely : Prop := editLinesRow.holds Tryd.pinned (OpenSpec.ofChange editLinesWrong)

/-- 'shutterlaw14.EditGuards': WHATEVER THE INPUT: true; the input reads as it did. -/
def editGuardsSpec : ChangeSpec := { name := "editGuards", fn := fun _ => fun
  | [d1, d2] => { results := [.lit (.bool true)], args := [d1, d2] }
  | _ => none }
def editGuardsRow : OpenClaim := { program := "ytggecanpjkpkiaadoor", sum := "470f862857d461b03683669eedd732b5d5036bcae62b4fdde2ed4ceb28fa0952", func := "shutter/shutterlaw14.EditGuards", spec := "editGuards", inPlace := ["internal/reflectlite.ValueOf", "(internal/reflectlite.Value).Type", "(internal/reflectlite.Value).IsNil", "internal/reflectlite.TypeOf", "(internal/reflectlite.Value).Elem", "(internal/reflectlite.Value).Set"], unfollowed := true, recurses := true, named := ["errors.errorType"], apart := false, laid := [("errors.errorType", laid_errors_errorType)] }
def EditGuardsSaid : Prop := editGuardsRow.holds Tryd.pinned (OpenSpec.ofChange editGuardsSpec)

/-- ITS FALSE NEIGHBOUR: 'it returns false'. Refute it at one input. -/
def editGuardsWrong : ChangeSpec := { name := "editGuards", fn := fun _ => fun
  | [d1, d2] => { results := [.lit (.bool false)], args := [d1, d2] }
  | _ => none }
def EditGuardsWrongFalsely : Prop := editGuardsRow.holds Tryd.pinned (OpenSpec.ofChange editGuardsWrong)

/-- 'shutterlaw16.WipeUndoes': WHATEVER THE INPUT: true; the input reads as it did. -/
def wipeUndoesSpec : ChangeSpec := { name := "wipeUndoes", fn := fun _ => fun
  | [d1, d2] => { results := [.lit (.bool true)], args := [d1, d2] }
  | _ => none }
def wipeUndoesRow : OpenClaim := { program := "ytggecanpjkpkiaadoor", sum := "470f862857d461b03683669eedd732b5d5036bcae62b4fdde2ed4ceb28fa0952", func := "shutter/shutterlaw16.WipeUndoes", spec := "wipeUndoes", inPlace := ["internal/reflectlite.ValueOf", "(internal/reflectlite.Value).Type", "(internal/reflectlite.Value).IsNil", "internal/reflectlite.TypeOf", "(internal/reflectlite.Value).Elem", "(internal/reflectlite.Value).Set"], unfollowed := true, recurses := true, named := ["errors.errorType"], apart := false, laid := [("errors.errorType", laid_errors_errorType)] }
def WipeUndoesSaid : Prop := wipeUndoesRow.holds Tryd.pinned (OpenSpec.ofChange wipeUndoesSpec)

/-- ITS FALSE NEIGHBOUR: 'it returns false'. Refute it at one input. -/
def wipeUndoesWrong : ChangeSpec := { name := "wipeUndoes", fn := fun _ => fun
  | [d1, d2] => { results := [.lit (.bool false)], args := [d1, d2] }
  | _ => none }
def WipeUndoesWrongFalsely : Prop := wipeUndoesRow.holds Tryd.pinned (OpenSpec.ofChange wipeUndoesWrong)

/-- 'shutterlaw17.KeysGuard': WHATEVER THE INPUT: true; the input reads as it did. -/
def keysGuardSpec : ChangeSpec := { name := "keysGuard", fn := fun _ => fun
  | [d1, d2] => { results := [.lit (.bool true)], args := [d1, d2] }
  | _ => none }
def keysGuardRow : OpenClaim := { program := "ytggecanpjkpkiaadoor", sum := "470f862857d461b03683669eedd732b5d5036bcae62b4fdde2ed4ceb28fa0952", func := "shutter/shutterlaw17.KeysGuard", spec := "keysGuard", inPlace := ["internal/reflectlite.ValueOf", "(internal/reflectlite.Value).Type", "(internal/reflectlite.Value).IsNil", "internal/reflectlite.TypeOf", "(internal/reflectlite.Value).Elem", "(internal/reflectlite.Value).Set"], unfollowed := true, recurses := true, named := ["errors.errorType"], apart := false, laid := [("errors.errorType", laid_errors_errorType)] }
def KeysGuardSaid : Prop := keysGuardRow.holds Tryd.pinned (OpenSpec.ofChange keysGuardSpec)

/-- ITS FALSE NEIGHBOUR: 'it returns false'. Refute it at one input. -/
def keysGuardWrong : ChangeSpec := { name := "keysGuard", fn := fun _ => fun
  | [d1, d2] => { results := [.lit (.bool false)], args := [d1, d2] }
  | _ => none }
def KeysGuardWrongFalsely : Prop := keysGuardRow.holds Tryd.pinned (OpenSpec.ofChange keysGuardWrong)

/-- 'shutterlaw17.KeysLocked': WHATEVER THE INPUT: true; the input reads as it did. -/
def keysLockedSpec : ChangeSpec := { name := "keysLocked", fn := fun _ => fun
  | [d1, d2] => { results := [.lit (.bool true)], args := [d1, d2] }
  | _ => none }
def keysLockedRow : OpenClaim := { program := "ytggecanpjkpkiaadoor", sum := "470f862857d461b03683669eedd732b5d5036bcae62b4fdde2ed4ceb28fa0952", func := "shutter/shutterlaw17.KeysLocked", spec := "keysLocked", inPlace := ["internal/reflectlite.ValueOf", "(internal/reflectlite.Value).Type", "(internal/reflectlite.Value).IsNil", "internal/reflectlite.TypeOf", "(internal/reflectlite.Value).Elem", "(internal/reflectlite.Value).Set"], unfollowed := true, recurses := true, named := ["errors.errorType"], apart := false, laid := [("errors.errorType", laid_errors_errorType)] }
def KeysLockedSaid : Prop := keysLockedRow.holds Tryd.pinned (OpenSpec.ofChange keysLockedSpec)

/-- ITS FALSE NEIGHBOUR: 'it returns false'. Refute it at one input. -/
def keysLockedWrong : ChangeSpec := { name := "keysLocked", fn := fun _ => fun
  | [d1, d2] => { results := [.lit (.bool false)], args := [d1, d2] }
  | _ => none }
def KeysLockedWrongFalsely : Prop := keysLockedRow.holds Tryd.pinned (OpenSpec.ofChange keysLockedWrong)

/-- 'shutterlaw17.KeysAsk': WHATEVER THE INPUT: true; the input reads as it did. -/
def keysAskSpec : ChangeSpec := { name := "keysAsk", fn := fun _ => fun
  | [d1, d2, d3] => { results := [.lit (.bool true)], args := [d1, d2, d3] }
  | _ => none }
def keysAskRow : OpenClaim := { program := "ytggecanpjkpkiaadoor", sum := "470f862857d461b03683669eedd732b5d5036bcae62b4fdde2ed4ceb28fa0952", func := "shutter/shutterlaw17.KeysAsk", spec := "keysAsk", inPlace := ["internal/reflectlite.ValueOf", "(internal/reflectlite.Value).Type", "(internal/reflectlite.Value).IsNil", "internal/reflectlite.TypeOf", "(internal/reflectlite.Value).Elem", "(internal/reflectlite.Value).Set"], unfollowed := true, recurses := true, named := ["errors.errorType"], apart := false, laid := [("errors.errorType", laid_errors_errorType)] }
def KeysAskSaid : Prop := keysAskRow.holds Tryd.pinned (OpenSpec.ofChange keysAskSpec)

/-- ITS FALSE NEIGHBOUR: 'it returns false'. Refute it at one input. -/
def keysAskWrong : ChangeSpec := { name := "keysAsk", fn := fun _ => fun
  | [d1, d2, d3] => { results := [.lit (.bool false)], args := [d1, d2, d3] }
  | _ => none }
def KeysAskWrongFalsely : Prop := keysAskRow.holds Tryd.pinned (OpenSpec.ofChange keysAskWrong)

/-- 'shutterlaw17.KeysKeeps': WHATEVER THE INPUT: true; the input reads as it did. -/
def keysKeepsSpec : ChangeSpec := { name := "keysKeeps", fn := fun _ => fun
  | [d1, d2] => { results := [.lit (.bool true)], args := [d1, d2] }
  | _ => none }
def keysKeepsRow : OpenClaim := { program := "ytggecanpjkpkiaadoor", sum := "470f862857d461b03683669eedd732b5d5036bcae62b4fdde2ed4ceb28fa0952", func := "shutter/shutterlaw17.KeysKeeps", spec := "keysKeeps", inPlace := ["internal/reflectlite.ValueOf", "(internal/reflectlite.Value).Type", "(internal/reflectlite.Value).IsNil", "internal/reflectlite.TypeOf", "(internal/reflectlite.Value).Elem", "(internal/reflectlite.Value).Set"], unfollowed := true, recurses := true, named := ["errors.errorType"], apart := false, laid := [("errors.errorType", laid_errors_errorType)] }
def KeysKeepsSaid : Prop := keysKeepsRow.holds Tryd.pinned (OpenSpec.ofChange keysKeepsSpec)

/-- ITS FALSE NEIGHBOUR: 'it returns false'. Refute it at one input. -/
def keysKeepsWrong : ChangeSpec := { name := "keysKeeps", fn := fun _ => fun
  | [d1, d2] => { results := [.lit (.bool false)], args := [d1, d2] }
  | _ => none }
def KeysKeepsWrongFalsely : Prop := keysKeepsRow.holds Tryd.pinned (OpenSpec.ofChange keysKeepsWrong)

/- THE SECOND FORM. 'bulk': how many values and letters a reading holds, each counted each time it is reached (what is shared counts as often as it is met; a slice's spare places count too). A statement '..UptoSaid' is the law's where the arguments, and the package variables that the reading takes, are together of bulk at most 1048576: NARROWER than '..Said'. Prove '..Said' where nothing that the law and all that it calls make is longer than what came in: it says more and counts as full. Else prove '..UptoSaid'. A law counts once. -/
mutual
def uptoBulk {H : Type} : DataW H → Nat
  | .lit (.string bytes) => bytes.length + 1
  | .lit _ => 1
  | .nil => 1
  | .ptr d => uptoBulk d + 1
  | .slice elems spare => uptoBulkAll elems + uptoBulkAll spare + 1
  | .agg parts => uptoBulkAll parts + 1
  | .iface _ d => uptoBulk d + 1
  | .map entries => uptoBulkEntries entries + 1
  | .held _ => 1
def uptoBulkAll {H : Type} : List (DataW H) → Nat
  | [] => 0
  | d :: r => uptoBulk d + uptoBulkAll r
def uptoBulkEntries {H : Type} : List (Lit × DataW H) → Nat
  | [] => 0
  | x :: r => uptoBulkEntry x + uptoBulkEntries r
def uptoBulkEntry {H : Type} : Lit × DataW H → Nat
  | (.string bytes, d) => bytes.length + uptoBulk d + 1
  | (_, d) => uptoBulk d + 1
 end
def uptoSmall : (H : Type) → List (DataW H) → Bool := fun _ ds => decide (uptoBulkAll ds ≤ 1048576)
def OpenSpec.upto (s : _root_.Go.ChangeSpec) : _root_.Go.OpenSpec := { _root_.Go.OpenSpec.ofChange s with cond := some uptoSmall }

/-- 'shutterlaw16.WipeGuards', WHERE WHAT IT READS IS OF BULK AT MOST 1048576: true; the input reads as it did. -/
def wipeGuardsUptoRow : OpenClaim := { program := "ytggecanpjkpkiaadoor", sum := "470f862857d461b03683669eedd732b5d5036bcae62b4fdde2ed4ceb28fa0952", func := "shutter/shutterlaw16.WipeGuards", spec := "wipeGuards", inPlace := ["internal/reflectlite.ValueOf", "(internal/reflectlite.Value).Type", "(internal/reflectlite.Value).IsNil", "internal/reflectlite.TypeOf", "(internal/reflectlite.Value).Elem", "(internal/reflectlite.Value).Set"], unfollowed := true, recurses := true, named := ["errors.errorType"], apart := false, laid := [("errors.errorType", laid_errors_errorType)], narrowed := true }
def WipeGuardsUptoSaid : Prop := wipeGuardsUptoRow.holds Tryd.pinned (OpenSpec.upto wipeGuardsSpec)

/-- 'shutterlaw16.WipeKeeps', WHERE WHAT IT READS IS OF BULK AT MOST 1048576: true; the input reads as it did. -/
def wipeKeepsUptoRow : OpenClaim := { program := "ytggecanpjkpkiaadoor", sum := "470f862857d461b03683669eedd732b5d5036bcae62b4fdde2ed4ceb28fa0952", func := "shutter/shutterlaw16.WipeKeeps", spec := "wipeKeeps", inPlace := ["internal/reflectlite.ValueOf", "(internal/reflectlite.Value).Type", "(internal/reflectlite.Value).IsNil", "internal/reflectlite.TypeOf", "(internal/reflectlite.Value).Elem", "(internal/reflectlite.Value).Set"], unfollowed := true, recurses := true, named := ["errors.errorType"], apart := false, laid := [("errors.errorType", laid_errors_errorType)], narrowed := true }
def WipeKeepsUptoSaid : Prop := wipeKeepsUptoRow.holds Tryd.pinned (OpenSpec.upto wipeKeepsSpec)

/-- 'shutterlaw16.WipeTwice', WHERE WHAT IT READS IS OF BULK AT MOST 1048576: true; the input reads as it did. -/
def wipeTwiceUptoRow : OpenClaim := { program := "ytggecanpjkpkiaadoor", sum := "470f862857d461b03683669eedd732b5d5036bcae62b4fdde2ed4ceb28fa0952", func := "shutter/shutterlaw16.WipeTwice", spec := "wipeTwice", inPlace := ["internal/reflectlite.ValueOf", "(internal/reflectlite.Value).Type", "(internal/reflectlite.Value).IsNil", "internal/reflectlite.TypeOf", "(internal/reflectlite.Value).Elem", "(internal/reflectlite.Value).Set"], unfollowed := true, recurses := true, named := ["errors.errorType"], apart := false, laid := [("errors.errorType", laid_errors_errorType)], narrowed := true }
def WipeTwiceUptoSaid : Prop := wipeTwiceUptoRow.holds Tryd.pinned (OpenSpec.upto wipeTwiceSpec)

/-- 'shutterlaw16.WipeDoes', WHERE WHAT IT READS IS OF BULK AT MOST 1048576: true; the input reads as it did. -/
def wipeDoesUptoRow : OpenClaim := { program := "ytggecanpjkpkiaadoor", sum := "470f862857d461b03683669eedd732b5d5036bcae62b4fdde2ed4ceb28fa0952", func := "shutter/shutterlaw16.WipeDoes", spec := "wipeDoes", inPlace := ["internal/reflectlite.ValueOf", "(internal/reflectlite.Value).Type", "(internal/reflectlite.Value).IsNil", "internal/reflectlite.TypeOf", "(internal/reflectlite.Value).Elem", "(internal/reflectlite.Value).Set"], unfollowed := true, recurses := true, named := ["errors.errorType"], apart := false, laid := [("errors.errorType", laid_errors_errorType)], narrowed := true }
def WipeDoesUptoSaid : Prop := wipeDoesUptoRow.holds Tryd.pinned (OpenSpec.upto wipeDoesSpec)

/-- 'shutterlaw14.EditInserts', WHERE WHAT IT READS IS OF BULK AT MOST 1048576: true; the input reads as it did. -/
def editInsertsUptoRow : OpenClaim := { program := "ytggecanpjkpkiaadoor", sum := "470f862857d461b03683669eedd732b5d5036bcae62b4fdde2ed4ceb28fa0952", func := "shutter/shutterlaw14.EditInserts", spec := "editInserts", inPlace := ["internal/reflectlite.ValueOf", "(internal/reflectlite.Value).Type", "(internal/reflectlite.Value).IsNil", "internal/reflectlite.TypeOf", "(internal/reflectlite.Value).Elem", "(internal/reflectlite.Value).Set"], unfollowed := true, recurses := true, named := ["errors.errorType"], apart := false, laid := [("errors.errorType", laid_errors_errorType)], narrowed := true }
def EditInsertsUptoSaid : Prop := editInsertsUptoRow.holds Tryd.pinned (OpenSpec.upto editInsertsSpec)

/-- 'shutterlaw14.EditOver', WHERE WHAT IT READS IS OF BULK AT MOST 1048576: true; the input reads as it did. -/
def editOverUptoRow : OpenClaim := { program := "ytggecanpjkpkiaadoor", sum := "470f862857d461b03683669eedd732b5d5036bcae62b4fdde2ed4ceb28fa0952", func := "shutter/shutterlaw14.EditOver", spec := "editOver", inPlace := ["internal/reflectlite.ValueOf", "(internal/reflectlite.Value).Type", "(internal/reflectlite.Value).IsNil", "internal/reflectlite.TypeOf", "(internal/reflectlite.Value).Elem", "(internal/reflectlite.Value).Set"], unfollowed := true, recurses := true, named := ["errors.errorType"], apart := false, laid := [("errors.errorType", laid_errors_errorType)], narrowed := true }
def EditOverUptoSaid : Prop := editOverUptoRow.holds Tryd.pinned (OpenSpec.upto editOverSpec)

/-- 'shutterlaw14.EditTypes', WHERE WHAT IT READS IS OF BULK AT MOST 1048576: true; the input reads as it did. -/
def editTypesUptoRow : OpenClaim := { program := "ytggecanpjkpkiaadoor", sum := "470f862857d461b03683669eedd732b5d5036bcae62b4fdde2ed4ceb28fa0952", func := "shutter/shutterlaw14.EditTypes", spec := "editTypes", inPlace := ["internal/reflectlite.ValueOf", "(internal/reflectlite.Value).Type", "(internal/reflectlite.Value).IsNil", "internal/reflectlite.TypeOf", "(internal/reflectlite.Value).Elem", "(internal/reflectlite.Value).Set"], unfollowed := true, recurses := true, named := ["errors.errorType"], apart := false, laid := [("errors.errorType", laid_errors_errorType)], narrowed := true }
def EditTypesUptoSaid : Prop := editTypesUptoRow.holds Tryd.pinned (OpenSpec.upto editTypesSpec)

/-- 'shutterlaw14.EditLines', WHERE WHAT IT READS IS OF BULK AT MOST 1048576: true; the input reads as it did. -/
def editLinesUptoRow : OpenClaim := { program := "ytggecanpjkpkiaadoor", sum := "470f862857d461b03683669eedd732b5d5036bcae62b4fdde2ed4ceb28fa0952", func := "shutter/shutterlaw14.EditLines", spec := "editLines", inPlace := ["internal/reflectlite.ValueOf", "(internal/reflectlite.Value).Type", "(internal/reflectlite.Value).IsNil", "internal/reflectlite.TypeOf", "(internal/reflectlite.Value).Elem", "(internal/reflectlite.Value).Set"], unfollowed := true, recurses := true, named := ["errors.errorType"], apart := false, laid := [("errors.errorType", laid_errors_errorType)], narrowed := true }
def EditLinesUptoSaid : Prop := editLinesUptoRow.holds Tryd.pinned (OpenSpec.upto editLinesSpec)

/-- 'shutterlaw14.EditGuards', WHERE WHAT IT READS IS OF BULK AT MOST 1048576: true; the input reads as it did. -/
def editGuardsUptoRow : OpenClaim := { program := "ytggecanpjkpkiaadoor", sum := "470f862857d461b03683669eedd732b5d5036bcae62b4fdde2ed4ceb28fa0952", func := "shutter/shutterlaw14.EditGuards", spec := "editGuards", inPlace := ["internal/reflectlite.ValueOf", "(internal/reflectlite.Value).Type", "(internal/reflectlite.Value).IsNil", "internal/reflectlite.TypeOf", "(internal/reflectlite.Value).Elem", "(internal/reflectlite.Value).Set"], unfollowed := true, recurses := true, named := ["errors.errorType"], apart := false, laid := [("errors.errorType", laid_errors_errorType)], narrowed := true }
def EditGuardsUptoSaid : Prop := editGuardsUptoRow.holds Tryd.pinned (OpenSpec.upto editGuardsSpec)

/-- 'shutterlaw16.WipeUndoes', WHERE WHAT IT READS IS OF BULK AT MOST 1048576: true; the input reads as it did. -/
def wipeUndoesUptoRow : OpenClaim := { program := "ytggecanpjkpkiaadoor", sum := "470f862857d461b03683669eedd732b5d5036bcae62b4fdde2ed4ceb28fa0952", func := "shutter/shutterlaw16.WipeUndoes", spec := "wipeUndoes", inPlace := ["internal/reflectlite.ValueOf", "(internal/reflectlite.Value).Type", "(internal/reflectlite.Value).IsNil", "internal/reflectlite.TypeOf", "(internal/reflectlite.Value).Elem", "(internal/reflectlite.Value).Set"], unfollowed := true, recurses := true, named := ["errors.errorType"], apart := false, laid := [("errors.errorType", laid_errors_errorType)], narrowed := true }
def WipeUndoesUptoSaid : Prop := wipeUndoesUptoRow.holds Tryd.pinned (OpenSpec.upto wipeUndoesSpec)

/-- 'shutterlaw17.KeysGuard', WHERE WHAT IT READS IS OF BULK AT MOST 1048576: true; the input reads as it did. -/
def keysGuardUptoRow : OpenClaim := { program := "ytggecanpjkpkiaadoor", sum := "470f862857d461b03683669eedd732b5d5036bcae62b4fdde2ed4ceb28fa0952", func := "shutter/shutterlaw17.KeysGuard", spec := "keysGuard", inPlace := ["internal/reflectlite.ValueOf", "(internal/reflectlite.Value).Type", "(internal/reflectlite.Value).IsNil", "internal/reflectlite.TypeOf", "(internal/reflectlite.Value).Elem", "(internal/reflectlite.Value).Set"], unfollowed := true, recurses := true, named := ["errors.errorType"], apart := false, laid := [("errors.errorType", laid_errors_errorType)], narrowed := true }
def KeysGuardUptoSaid : Prop := keysGuardUptoRow.holds Tryd.pinned (OpenSpec.upto keysGuardSpec)

/-- 'shutterlaw17.KeysLocked', WHERE WHAT IT READS IS OF BULK AT MOST 1048576: true; the input reads as it did. -/
def keysLockedUptoRow : OpenClaim := { program := "ytggecanpjkpkiaadoor", sum := "470f862857d461b03683669eedd732b5d5036bcae62b4fdde2ed4ceb28fa0952", func := "shutter/shutterlaw17.KeysLocked", spec := "keysLocked", inPlace := ["internal/reflectlite.ValueOf", "(internal/reflectlite.Value).Type", "(internal/reflectlite.Value).IsNil", "internal/reflectlite.TypeOf", "(internal/reflectlite.Value).Elem", "(internal/reflectlite.Value).Set"], unfollowed := true, recurses := true, named := ["errors.errorType"], apart := false, laid := [("errors.errorType", laid_errors_errorType)], narrowed := true }
def KeysLockedUptoSaid : Prop := keysLockedUptoRow.holds Tryd.pinned (OpenSpec.upto keysLockedSpec)

/-- 'shutterlaw17.KeysAsk', WHERE WHAT IT READS IS OF BULK AT MOST 1048576: true; the input reads as it did. -/
def keysAskUptoRow : OpenClaim := { program := "ytggecanpjkpkiaadoor", sum := "470f862857d461b03683669eedd732b5d5036bcae62b4fdde2ed4ceb28fa0952", func := "shutter/shutterlaw17.KeysAsk", spec := "keysAsk", inPlace := ["internal/reflectlite.ValueOf", "(internal/reflectlite.Value).Type", "(internal/reflectlite.Value).IsNil", "internal/reflectlite.TypeOf", "(internal/reflectlite.Value).Elem", "(internal/reflectlite.Value).Set"], unfollowed := true, recurses := true, named := ["errors.errorType"], apart := false, laid := [("errors.errorType", laid_errors_errorType)], narrowed := true }
def KeysAskUptoSaid : Prop := keysAskUptoRow.holds Tryd.pinned (OpenSpec.upto keysAskSpec)

/-- 'shutterlaw17.KeysKeeps', WHERE WHAT IT READS IS OF BULK AT MOST 1048576: true; the input reads as it did. -/
def keysKeepsUptoRow : OpenClaim := { program := "ytggecanpjkpkiaadoor", sum := "470f862857d461b03683669eedd732b5d5036bcae62b4fdde2ed4ceb28fa0952", func := "shutter/shutterlaw17.KeysKeeps", spec := "keysKeeps", inPlace := ["internal/reflectlite.ValueOf", "(internal/reflectlite.Value).Type", "(internal/reflectlite.Value).IsNil", "internal/reflectlite.TypeOf", "(internal/reflectlite.Value).Elem", "(internal/reflectlite.Value).Set"], unfollowed := true, recurses := true, named := ["errors.errorType"], apart := false, laid := [("errors.errorType", laid_errors_errorType)], narrowed := true }
def KeysKeepsUptoSaid : Prop := keysKeepsUptoRow.holds Tryd.pinned (OpenSpec.upto keysKeepsSpec)

end Rows
end Go.Proofs.YtggecanpjkpkiaaDoor
