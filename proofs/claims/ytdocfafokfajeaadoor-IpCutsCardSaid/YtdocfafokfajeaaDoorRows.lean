/-
  NARROWER THAN 'FOR EVERY INPUT', by the rows' own cells (each row's printed sentence says how): IpAll: laid · IpBack: laid · IpJust: laid · IpTurned: laid · IpCuts: laid.
  DERIVED. THE GIVEN ROWS OF THIS SEAT. 5 by the template 'for every input the law returns true; each argument reads behind the call as it read before'; 0 by the template 'total and deterministic' (their statements: YtdocfafokfajeaaDoorTotals.lean).
  GIVEN WITH THE SEED: the statements are not yours to turn. If you find one false, say at which input.
  Laid BY PROGRAM, IN A SANDBOX (cutbox-rows.mjs): the forced cells as the released guide's own fill.sh prints them over the translation db935b4042f8eb7d… (all of the seat's roots in one cut). By AI agents, Wed Nov 11 2026. No macro, syntax, notation, axiom, sorry.
-/
import Derived.Test.YtdocfafokfajeaaDoorChecked
import GoSem.Claim
import GoSem.ClaimJoined
import GoSem.ClaimMapViews
import Derived.JoinedTies
import Derived.KernelRfl
namespace Go.Proofs.YtdocfafokfajeaaDoor
/- THE CELL 'sum', in the pinned program and in every row, IS THE sha256 OF THE DUMP (.gsa) THAT YtdocfafokfajeaaDoorProg.lean LOADS. Nothing in Lean hashes anything: it is a label: what it is worth is what the hold of that sum in a sandbox is worth. -/
noncomputable def Tryd.pinned : Pinned := { name := "ytdocfafokfajeaadoor", sum := "db935b4042f8eb7d512a3906d57a24c1cc66c78dd11bf690d004f483bf5c5f77", checked := Tryd.checked }
namespace Rows
def none {H : Type} : Left H := { results := [], args := [] }

/- WHAT THE LISTED PACKAGE-LEVEL VARIABLES READ AS WHEN THE CALL BEGINS. Each datum BY PROGRAM (the guide's laid-datum.mjs) off the statement by which the dump's own 'gosem.cut.vars' lays the variable. In a bare row this is a premise. The card (YtdocfafokfajeaaDoorCards.lean) ties it to the program's text. -/
def laid_errors_errorType {H : Type} : DataW H := .iface "internal/reflectlite.rtype" (.agg [.ptr (.lit (.string [101, 114, 114, 111, 114]))])

/-- 'plenumlaw3.IpAll': WHATEVER THE INPUT: true; the input reads as it did. -/
def ipAllSpec : ChangeSpec := { name := "ipAll", fn := fun _ => fun
  | [d1, d2] => { results := [.lit (.bool true)], args := [d1, d2] }
  | _ => none }
def ipAllRow : OpenClaim := { program := "ytdocfafokfajeaadoor", sum := "db935b4042f8eb7d512a3906d57a24c1cc66c78dd11bf690d004f483bf5c5f77", func := "plenum/plenumlaw3.IpAll", spec := "ipAll", inPlace := ["internal/reflectlite.ValueOf", "(internal/reflectlite.Value).Type", "(internal/reflectlite.Value).IsNil", "internal/reflectlite.TypeOf", "(internal/reflectlite.Value).Elem", "(internal/reflectlite.Value).Set"], unfollowed := true, recurses := true, named := ["errors.errorType"], apart := false, laid := [("errors.errorType", laid_errors_errorType)] }
def IpAllSaid : Prop := ipAllRow.holds Tryd.pinned (OpenSpec.ofChange ipAllSpec)

/-- ITS FALSE NEIGHBOUR: 'it returns false'. Refute it at one input. -/
def ipAllWrong : ChangeSpec := { name := "ipAll", fn := fun _ => fun
  | [d1, d2] => { results := [.lit (.bool false)], args := [d1, d2] }
  | _ => none }
def IpAllWrongFalsely : Prop := ipAllRow.holds Tryd.pinned (OpenSpec.ofChange ipAllWrong)

/-- 'plenumlaw3.IpBack': WHATEVER THE INPUT: true; the input reads as it did. -/
def ipBackSpec : ChangeSpec := { name := "ipBack", fn := fun _ => fun
  | [d1, d2] => { results := [.lit (.bool true)], args := [d1, d2] }
  | _ => none }
def ipBackRow : OpenClaim := { program := "ytdocfafokfajeaadoor", sum := "db935b4042f8eb7d512a3906d57a24c1cc66c78dd11bf690d004f483bf5c5f77", func := "plenum/plenumlaw3.IpBack", spec := "ipBack", inPlace := ["internal/reflectlite.ValueOf", "(internal/reflectlite.Value).Type", "(internal/reflectlite.Value).IsNil", "internal/reflectlite.TypeOf", "(internal/reflectlite.Value).Elem", "(internal/reflectlite.Value).Set"], unfollowed := true, recurses := true, named := ["errors.errorType"], apart := false, laid := [("errors.errorType", laid_errors_errorType)] }
def IpBackSaid : Prop := ipBackRow.holds Tryd.pinned (OpenSpec.ofChange ipBackSpec)

/-- ITS FALSE NEIGHBOUR: 'it returns false'. Refute it at one input. -/
def ipBackWrong : ChangeSpec := { name := "ipBack", fn := fun _ => fun
  | [d1, d2] => { results := [.lit (.bool false)], args := [d1, d2] }
  | _ => none }
def IpBackWrongFalsely : Prop := ipBackRow.holds Tryd.pinned (OpenSpec.ofChange ipBackWrong)

/-- 'plenumlaw3.IpJust': WHATEVER THE INPUT: true; the input reads as it did. -/
def ipJustSpec : ChangeSpec := { name := "ipJust", fn := fun _ => fun
  | [d] => { results := [.lit (.bool true)], args := [d] }
  | _ => none }
def ipJustRow : OpenClaim := { program := "ytdocfafokfajeaadoor", sum := "db935b4042f8eb7d512a3906d57a24c1cc66c78dd11bf690d004f483bf5c5f77", func := "plenum/plenumlaw3.IpJust", spec := "ipJust", inPlace := ["internal/reflectlite.ValueOf", "(internal/reflectlite.Value).Type", "(internal/reflectlite.Value).IsNil", "internal/reflectlite.TypeOf", "(internal/reflectlite.Value).Elem", "(internal/reflectlite.Value).Set"], unfollowed := true, recurses := true, named := ["errors.errorType"], apart := false, laid := [("errors.errorType", laid_errors_errorType)] }
def IpJustSaid : Prop := ipJustRow.holds Tryd.pinned (OpenSpec.ofChange ipJustSpec)

/-- ITS FALSE NEIGHBOUR: 'it returns false'. Refute it at one input. -/
def ipJustWrong : ChangeSpec := { name := "ipJust", fn := fun _ => fun
  | [d] => { results := [.lit (.bool false)], args := [d] }
  | _ => none }
def IpJustWrongFalsely : Prop := ipJustRow.holds Tryd.pinned (OpenSpec.ofChange ipJustWrong)

/-- 'plenumlaw3.IpTurned': WHATEVER THE INPUT: true; the input reads as it did. -/
def ipTurnedSpec : ChangeSpec := { name := "ipTurned", fn := fun _ => fun
  | [d1, d2, d3] => { results := [.lit (.bool true)], args := [d1, d2, d3] }
  | _ => none }
def ipTurnedRow : OpenClaim := { program := "ytdocfafokfajeaadoor", sum := "db935b4042f8eb7d512a3906d57a24c1cc66c78dd11bf690d004f483bf5c5f77", func := "plenum/plenumlaw3.IpTurned", spec := "ipTurned", inPlace := ["internal/reflectlite.ValueOf", "(internal/reflectlite.Value).Type", "(internal/reflectlite.Value).IsNil", "internal/reflectlite.TypeOf", "(internal/reflectlite.Value).Elem", "(internal/reflectlite.Value).Set"], unfollowed := true, recurses := true, named := ["errors.errorType"], apart := false, laid := [("errors.errorType", laid_errors_errorType)] }
def IpTurnedSaid : Prop := ipTurnedRow.holds Tryd.pinned (OpenSpec.ofChange ipTurnedSpec)

/-- ITS FALSE NEIGHBOUR: 'it returns false'. Refute it at one input. -/
def ipTurnedWrong : ChangeSpec := { name := "ipTurned", fn := fun _ => fun
  | [d1, d2, d3] => { results := [.lit (.bool false)], args := [d1, d2, d3] }
  | _ => none }
def IpTurnedWrongFalsely : Prop := ipTurnedRow.holds Tryd.pinned (OpenSpec.ofChange ipTurnedWrong)

/-- 'plenumlaw3.IpCuts': WHATEVER THE INPUT: true; the input reads as it did. -/
def ipCutsSpec : ChangeSpec := { name := "ipCuts", fn := fun _ => fun
  | [d1, d2, d3] => { results := [.lit (.bool true)], args := [d1, d2, d3] }
  | _ => none }
def ipCutsRow : OpenClaim := { program := "ytdocfafokfajeaadoor", sum := "db935b4042f8eb7d512a3906d57a24c1cc66c78dd11bf690d004f483bf5c5f77", func := "plenum/plenumlaw3.IpCuts", spec := "ipCuts", inPlace := ["internal/reflectlite.ValueOf", "(internal/reflectlite.Value).Type", "(internal/reflectlite.Value).IsNil", "internal/reflectlite.TypeOf", "(internal/reflectlite.Value).Elem", "(internal/reflectlite.Value).Set"], unfollowed := true, recurses := true, named := ["errors.errorType"], apart := false, laid := [("errors.errorType", laid_errors_errorType)] }
def IpCutsSaid : Prop := ipCutsRow.holds Tryd.pinned (OpenSpec.ofChange ipCutsSpec)

/-- ITS FALSE NEIGHBOUR: 'it returns false'. Refute it at one input. -/
def ipCutsWrong : ChangeSpec := { name := "ipCuts", fn := fun _ => fun
  | [d1, d2, d3] => { results := [.lit (.bool false)], args := [d1, d2, d3] }
  | _ => none }
def IpCutsWrongFalsely : Prop := ipCutsRow.holds Tryd.pinned (OpenSpec.ofChange ipCutsWrong)

/- THE SECOND FORM. 'bulk': how many values and letters a reading holds, each counted each time it is reached (what is shared counts as often as it is met; a slice's spare places count too). A statement '..UptoSaid' is the law's where the arguments, and the package variables that the reading takes, are together of bulk at most 1048576: NARROWER than '..Said'. Prove '..Said' where nothing that the law and all that it calls make is longer than what came in: it says more and counts as full. Else prove '..UptoSaid'. A law counts once. -/
mutual
def uptoBulk {H : Type} : DataW H → Nat
  | .lit (.string bytes) => bytes.length + 1
  | .lit _ => 1
  | .nil => 1
  | .ptr d => uptoBulk d + 1
  | .slice elems spare => uptoBulkAll elems + uptoBulkAll spare + 1
  | .agg parts => uptoBulkAll parts + 1
  | .iface _ d => uptoBulk d + 1
  | .map entries => uptoBulkEntries entries + 1
  | .held _ => 1
def uptoBulkAll {H : Type} : List (DataW H) → Nat
  | [] => 0
  | d :: r => uptoBulk d + uptoBulkAll r
def uptoBulkEntries {H : Type} : List (Lit × DataW H) → Nat
  | [] => 0
  | x :: r => uptoBulkEntry x + uptoBulkEntries r
def uptoBulkEntry {H : Type} : Lit × DataW H → Nat
  | (.string bytes, d) => bytes.length + uptoBulk d + 1
  | (_, d) => uptoBulk d + 1
 end
def uptoSmall : (H : Type) → List (DataW H) → Bool := fun _ ds => decide (uptoBulkAll ds ≤ 1048576)
def OpenSpec.upto (s : _root_.Go.ChangeSpec) : _root_.Go.OpenSpec := { _root_.Go.OpenSpec.ofChange s with cond := some uptoSmall }

/-- 'plenumlaw3.IpAll', WHERE WHAT IT READS IS OF BULK AT MOST 1048576: true; the input reads as it did. -/
def ipAllUptoRow : OpenClaim := { program := "ytdocfafokfajeaadoor", sum := "db935b4042f8eb7d512a3906d57a24c1cc66c78dd11bf690d004f483bf5c5f77", func := "plenum/plenumlaw3.IpAll", spec := "ipAll", inPlace := ["internal/reflectlite.ValueOf", "(internal/reflectlite.Value).Type", "(internal/reflectlite.Value).IsNil", "internal/reflectlite.TypeOf", "(internal/reflectlite.Value).Elem", "(internal/reflectlite.Value).Set"], unfollowed := true, recurses := true, named := ["errors.errorType"], apart := false, laid := [("errors.errorType", laid_errors_errorType)], narrowed := true }
def IpAllUptoSaid : Prop := ipAllUptoRow.holds Tryd.pinned (OpenSpec.upto ipAllSpec)

/-- 'plenumlaw3.IpBack', WHERE WHAT IT READS IS OF BULK AT MOST 1048576: true; the input reads as it did. -/
def ipBackUptoRow : OpenClaim := { program := "ytdocfafokfajeaadoor", sum := "db935b4042f8eb7d512a3906d57a24c1cc66c78dd11bf690d004f483bf5c5f77", func := "plenum/plenumlaw3.IpBack", spec := "ipBack", inPlace := ["internal/reflectlite.ValueOf", "(internal/reflectlite.Value).Type", "(internal/reflectlite.Value).IsNil", "internal/reflectlite.TypeOf", "(internal/reflectlite.Value).Elem", "(internal/reflectlite.Value).Set"], unfollowed := true, recurses := true, named := ["errors.errorType"], apart := false, laid := [("errors.errorType", laid_errors_errorType)], narrowed := true }
def IpBackUptoSaid : Prop := ipBackUptoRow.holds Tryd.pinned (OpenSpec.upto ipBackSpec)

/-- 'plenumlaw3.IpJust', WHERE WHAT IT READS IS OF BULK AT MOST 1048576: true; the input reads as it did. -/
def ipJustUptoRow : OpenClaim := { program := "ytdocfafokfajeaadoor", sum := "db935b4042f8eb7d512a3906d57a24c1cc66c78dd11bf690d004f483bf5c5f77", func := "plenum/plenumlaw3.IpJust", spec := "ipJust", inPlace := ["internal/reflectlite.ValueOf", "(internal/reflectlite.Value).Type", "(internal/reflectlite.Value).IsNil", "internal/reflectlite.TypeOf", "(internal/reflectlite.Value).Elem", "(internal/reflectlite.Value).Set"], unfollowed := true, recurses := true, named := ["errors.errorType"], apart := false, laid := [("errors.errorType", laid_errors_errorType)], narrowed := true }
def IpJustUptoSaid : Prop := ipJustUptoRow.holds Tryd.pinned (OpenSpec.upto ipJustSpec)

/-- 'plenumlaw3.IpTurned', WHERE WHAT IT READS IS OF BULK AT MOST 1048576: true; the input reads as it did. -/
def ipTurnedUptoRow : OpenClaim := { program := "ytdocfafokfajeaadoor", sum := "db935b4042f8eb7d512a3906d57a24c1cc66c78dd11bf690d004f483bf5c5f77", func := "plenum/plenumlaw3.IpTurned", spec := "ipTurned", inPlace := ["internal/reflectlite.ValueOf", "(internal/reflectlite.Value).Type", "(internal/reflectlite.Value).IsNil", "internal/reflectlite.TypeOf", "(internal/reflectlite.Value).Elem", "(internal/reflectlite.Value).Set"], unfollowed := true, recurses := true, named := ["errors.errorType"], apart := false, laid := [("errors.errorType", laid_errors_errorType)], narrowed := true }
def IpTurnedUptoSaid : Prop := ipTurnedUptoRow.holds Tryd.pinned (OpenSpec.upto ipTurnedSpec)

/-- 'plenumlaw3.IpCuts', WHERE WHAT IT READS IS OF BULK AT MOST 1048576: true; the input reads as it did. -/
def ipCutsUptoRow : OpenClaim := { program := "ytdocfafokfajeaadoor", sum := "db935b4042f8eb7d512a3906d57a24c1cc66c78dd11bf690d004f483bf5c5f77", func := "plenum/plenumlaw3.IpCuts", spec := "ipCuts", inPlace := ["internal/reflectlite.ValueOf", "(internal/reflectlite.Value).Type", "(internal/reflectlite.Value).IsNil", "internal/reflectlite.TypeOf", "(internal/reflectlite.Value).Elem", "(internal/reflectlite.Value).Set"], unfollowed := true, recurses := true, named := ["errors.errorType"], apart := false, laid := [("errors.errorType", laid_errors_errorType)], narrowed := true }
def IpCutsUptoSaid : Prop := ipCutsUptoRow.holds Tryd.pinned (OpenSpec.upto ipCutsSpec)

end Rows
end Go.Proofs.YtdocfafokfajeaaDoor
