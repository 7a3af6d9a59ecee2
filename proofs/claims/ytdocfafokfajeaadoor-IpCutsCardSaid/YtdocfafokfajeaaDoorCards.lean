/-
  DERIVED. GIVEN WITH THE SEED: THE CARDS: each row of YtdocfafokfajeaaDoorRows.lean that lists a variable, with what it lists TIED to the program's text (the seventh form; the later family's looks); each row that meets fmt, with fmt's text TOLD by the authors' own Lean function (tested against real Go, not proved from fmt's source: count such statements apart). THE CARD IS WHAT COUNTS. Prove the row's statement (the work); the ties are given (YtdocfafokfajeaaDoorTie.lean); close each card by the builder's one call (the guide's Derived/Test/ToyasCard.lean, 'card_holds'). Laid BY PROGRAM, IN A SANDBOX (cutbox-door.mjs). By AI agents, Wed Nov 11 2026. No macro, syntax, notation, axiom, sorry.
-/
import Derived.Test.YtdocfafokfajeaaDoorRows
import GoSem.ClaimSeven
namespace Go.Proofs.YtdocfafokfajeaaDoor
namespace Rows

/-- THE TIED CARD OF 'plenumlaw3.IpAll'. -/
def ipAllCard : Claim7 := { stood := { row := ipAllRow, standIns := [], harness := (true, "62fe75b0fcf3a0ba21f1d9bef8469aa02acd660e90204997511c1972810050e0"), looks := true }, kinds := [], alts := [], laidByText := true, laidKinds := [.handle], laidTests := true, laidLooks := .later }
def IpAllCardSaid : Prop := Claim7.holds Tryd.pinned (.plain (OpenSpec.ofChange ipAllSpec)) ipAllCard

/-- THE TIED CARD OF 'plenumlaw3.IpBack'. -/
def ipBackCard : Claim7 := { stood := { row := ipBackRow, standIns := [], harness := (true, "62fe75b0fcf3a0ba21f1d9bef8469aa02acd660e90204997511c1972810050e0"), looks := true }, kinds := [], alts := [], laidByText := true, laidKinds := [.handle], laidTests := true, laidLooks := .later }
def IpBackCardSaid : Prop := Claim7.holds Tryd.pinned (.plain (OpenSpec.ofChange ipBackSpec)) ipBackCard

/-- THE TIED CARD OF 'plenumlaw3.IpJust'. -/
def ipJustCard : Claim7 := { stood := { row := ipJustRow, standIns := [], harness := (true, "62fe75b0fcf3a0ba21f1d9bef8469aa02acd660e90204997511c1972810050e0"), looks := true }, kinds := [], alts := [], laidByText := true, laidKinds := [.handle], laidTests := true, laidLooks := .later }
def IpJustCardSaid : Prop := Claim7.holds Tryd.pinned (.plain (OpenSpec.ofChange ipJustSpec)) ipJustCard

/-- THE TIED CARD OF 'plenumlaw3.IpTurned'. -/
def ipTurnedCard : Claim7 := { stood := { row := ipTurnedRow, standIns := [], harness := (true, "62fe75b0fcf3a0ba21f1d9bef8469aa02acd660e90204997511c1972810050e0"), looks := true }, kinds := [], alts := [], laidByText := true, laidKinds := [.handle], laidTests := true, laidLooks := .later }
def IpTurnedCardSaid : Prop := Claim7.holds Tryd.pinned (.plain (OpenSpec.ofChange ipTurnedSpec)) ipTurnedCard

/-- THE TIED CARD OF 'plenumlaw3.IpCuts'. -/
def ipCutsCard : Claim7 := { stood := { row := ipCutsRow, standIns := [], harness := (true, "62fe75b0fcf3a0ba21f1d9bef8469aa02acd660e90204997511c1972810050e0"), looks := true }, kinds := [], alts := [], laidByText := true, laidKinds := [.handle], laidTests := true, laidLooks := .later }
def IpCutsCardSaid : Prop := Claim7.holds Tryd.pinned (.plain (OpenSpec.ofChange ipCutsSpec)) ipCutsCard

/-- THE SECOND FORM's CARD OF 'plenumlaw3.IpAll'. -/
def ipAllUptoCard : Claim7 := { stood := { row := ipAllUptoRow, standIns := [], harness := (true, "62fe75b0fcf3a0ba21f1d9bef8469aa02acd660e90204997511c1972810050e0"), looks := true }, kinds := [], alts := [], laidByText := true, laidKinds := [.handle], laidTests := true, laidLooks := .later }
def IpAllUptoCardSaid : Prop := Claim7.holds Tryd.pinned (.plain (OpenSpec.upto ipAllSpec)) ipAllUptoCard

/-- THE SECOND FORM's CARD OF 'plenumlaw3.IpBack'. -/
def ipBackUptoCard : Claim7 := { stood := { row := ipBackUptoRow, standIns := [], harness := (true, "62fe75b0fcf3a0ba21f1d9bef8469aa02acd660e90204997511c1972810050e0"), looks := true }, kinds := [], alts := [], laidByText := true, laidKinds := [.handle], laidTests := true, laidLooks := .later }
def IpBackUptoCardSaid : Prop := Claim7.holds Tryd.pinned (.plain (OpenSpec.upto ipBackSpec)) ipBackUptoCard

/-- THE SECOND FORM's CARD OF 'plenumlaw3.IpJust'. -/
def ipJustUptoCard : Claim7 := { stood := { row := ipJustUptoRow, standIns := [], harness := (true, "62fe75b0fcf3a0ba21f1d9bef8469aa02acd660e90204997511c1972810050e0"), looks := true }, kinds := [], alts := [], laidByText := true, laidKinds := [.handle], laidTests := true, laidLooks := .later }
def IpJustUptoCardSaid : Prop := Claim7.holds Tryd.pinned (.plain (OpenSpec.upto ipJustSpec)) ipJustUptoCard

/-- THE SECOND FORM's CARD OF 'plenumlaw3.IpTurned'. -/
def ipTurnedUptoCard : Claim7 := { stood := { row := ipTurnedUptoRow, standIns := [], harness := (true, "62fe75b0fcf3a0ba21f1d9bef8469aa02acd660e90204997511c1972810050e0"), looks := true }, kinds := [], alts := [], laidByText := true, laidKinds := [.handle], laidTests := true, laidLooks := .later }
def IpTurnedUptoCardSaid : Prop := Claim7.holds Tryd.pinned (.plain (OpenSpec.upto ipTurnedSpec)) ipTurnedUptoCard

/-- THE SECOND FORM's CARD OF 'plenumlaw3.IpCuts'. -/
def ipCutsUptoCard : Claim7 := { stood := { row := ipCutsUptoRow, standIns := [], harness := (true, "62fe75b0fcf3a0ba21f1d9bef8469aa02acd660e90204997511c1972810050e0"), looks := true }, kinds := [], alts := [], laidByText := true, laidKinds := [.handle], laidTests := true, laidLooks := .later }
def IpCutsUptoCardSaid : Prop := Claim7.holds Tryd.pinned (.plain (OpenSpec.upto ipCutsSpec)) ipCutsUptoCard
end Rows
end Go.Proofs.YtdocfafokfajeaaDoor
