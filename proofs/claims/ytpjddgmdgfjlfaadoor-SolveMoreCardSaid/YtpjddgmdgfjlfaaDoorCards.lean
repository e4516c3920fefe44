/-
  DERIVED. GIVEN WITH THE SEED: THE CARDS: each row of YtpjddgmdgfjlfaaDoorRows.lean that lists a variable, with what it lists TIED to the program's text (the seventh form; the later family's looks); each row that meets fmt, with fmt's text TOLD by the authors' own Lean function (tested against real Go, not proved from fmt's source: count such statements apart). THE CARD IS WHAT COUNTS. Prove the row's statement (the work); the ties are given (YtpjddgmdgfjlfaaDoorTie.lean); close each card by the builder's one call (the guide's Derived/Test/ToyasCard.lean, 'card_holds'). Laid BY PROGRAM, IN A SANDBOX (cutbox-door.mjs). By AI agents, Wed Nov 11 2026. No macro, syntax, notation, axiom, sorry.
-/
import Derived.Test.YtpjddgmdgfjlfaaDoorRows
import GoSem.ClaimSeven
namespace Go.Proofs.YtpjddgmdgfjlfaaDoor
namespace Rows

/-- THE TIED CARD OF 'liverylaw06.SolveAll'. -/
def solveAllCard : Claim7 := { stood := { row := solveAllRow, standIns := [], harness := (true, "93904d2aa503b324cff2ae84423896c18f292465c0e4aade65fc32b442ceeb6e"), looks := false }, kinds := [], alts := [], laidByText := true, laidKinds := [.data, .data, .data], laidTests := true, laidLooks := .later }
def SolveAllCardSaid : Prop := Claim7.holds Tryd.pinned (.plain (OpenSpec.ofChange solveAllSpec)) solveAllCard

/-- THE TIED CARD OF 'liverylaw06.SolveHas'. -/
def solveHasCard : Claim7 := { stood := { row := solveHasRow, standIns := [], harness := (true, "93904d2aa503b324cff2ae84423896c18f292465c0e4aade65fc32b442ceeb6e"), looks := false }, kinds := [], alts := [], laidByText := true, laidKinds := [.data, .data, .data], laidTests := true, laidLooks := .later }
def SolveHasCardSaid : Prop := Claim7.holds Tryd.pinned (.plain (OpenSpec.ofChange solveHasSpec)) solveHasCard

/-- THE TIED CARD OF 'liverylaw06.SolveClosed'. -/
def solveClosedCard : Claim7 := { stood := { row := solveClosedRow, standIns := [], harness := (true, "93904d2aa503b324cff2ae84423896c18f292465c0e4aade65fc32b442ceeb6e"), looks := false }, kinds := [], alts := [], laidByText := true, laidKinds := [.data, .data, .data], laidTests := true, laidLooks := .later }
def SolveClosedCardSaid : Prop := Claim7.holds Tryd.pinned (.plain (OpenSpec.ofChange solveClosedSpec)) solveClosedCard

/-- THE TIED CARD OF 'liverylaw06.SolveLeast'. -/
def solveLeastCard : Claim7 := { stood := { row := solveLeastRow, standIns := [], harness := (true, "93904d2aa503b324cff2ae84423896c18f292465c0e4aade65fc32b442ceeb6e"), looks := false }, kinds := [], alts := [], laidByText := true, laidKinds := [.data, .data, .data], laidTests := true, laidLooks := .later }
def SolveLeastCardSaid : Prop := Claim7.holds Tryd.pinned (.plain (OpenSpec.ofChange solveLeastSpec)) solveLeastCard

/-- THE TIED CARD OF 'liverylaw06.SolveMore'. -/
def solveMoreCard : Claim7 := { stood := { row := solveMoreRow, standIns := [], harness := (true, "93904d2aa503b324cff2ae84423896c18f292465c0e4aade65fc32b442ceeb6e"), looks := false }, kinds := [], alts := [], laidByText := true, laidKinds := [.data, .data, .data], laidTests := true, laidLooks := .later }
def SolveMoreCardSaid : Prop := Claim7.holds Tryd.pinned (.plain (OpenSpec.ofChange solveMoreSpec)) solveMoreCard

/-- THE TIED CARD OF 'liverylaw06.SolveOrder'. -/
def solveOrderCard : Claim7 := { stood := { row := solveOrderRow, standIns := [], harness := (true, "93904d2aa503b324cff2ae84423896c18f292465c0e4aade65fc32b442ceeb6e"), looks := false }, kinds := [], alts := [], laidByText := true, laidKinds := [.data, .data, .data], laidTests := true, laidLooks := .later }
def SolveOrderCardSaid : Prop := Claim7.holds Tryd.pinned (.plain (OpenSpec.ofChange solveOrderSpec)) solveOrderCard

/-- THE SECOND FORM's CARD OF 'liverylaw06.SolveAll'. -/
def solveAllUptoCard : Claim7 := { stood := { row := solveAllUptoRow, standIns := [], harness := (true, "93904d2aa503b324cff2ae84423896c18f292465c0e4aade65fc32b442ceeb6e"), looks := false }, kinds := [], alts := [], laidByText := true, laidKinds := [.data, .data, .data], laidTests := true, laidLooks := .later }
def SolveAllUptoCardSaid : Prop := Claim7.holds Tryd.pinned (.plain (OpenSpec.upto solveAllSpec)) solveAllUptoCard

/-- THE SECOND FORM's CARD OF 'liverylaw06.SolveHas'. -/
def solveHasUptoCard : Claim7 := { stood := { row := solveHasUptoRow, standIns := [], harness := (true, "93904d2aa503b324cff2ae84423896c18f292465c0e4aade65fc32b442ceeb6e"), looks := false }, kinds := [], alts := [], laidByText := true, laidKinds := [.data, .data, .data], laidTests := true, laidLooks := .later }
def SolveHasUptoCardSaid : Prop := Claim7.holds Tryd.pinned (.plain (OpenSpec.upto solveHasSpec)) solveHasUptoCard

/-- THE SECOND FORM's CARD OF 'liverylaw06.SolveClosed'. -/
def solveClosedUptoCard : Claim7 := { stood := { row := solveClosedUptoRow, standIns := [], harness := (true, "93904d2aa503b324cff2ae84423896c18f292465c0e4aade65fc32b442ceeb6e"), looks := false }, kinds := [], alts := [], laidByText := true, laidKinds := [.data, .data, .data], laidTests := true, laidLooks := .later }
def SolveClosedUptoCardSaid : Prop := Claim7.holds Tryd.pinned (.plain (OpenSpec.upto solveClosedSpec)) solveClosedUptoCard

/-- THE SECOND FORM's CARD OF 'liverylaw06.SolveLeast'. -/
def solveLeastUptoCard : Claim7 := { stood := { row := solveLeastUptoRow, standIns := [], harness := (true, "93904d2aa503b324cff2ae84423896c18f292465c0e4aade65fc32b442ceeb6e"), looks := false }, kinds := [], alts := [], laidByText := true, laidKinds := [.data, .data, .data], laidTests := true, laidLooks := .later }
def SolveLeastUptoCardSaid : Prop := Claim7.holds Tryd.pinned (.plain (OpenSpec.upto solveLeastSpec)) solveLeastUptoCard

/-- THE SECOND FORM's CARD OF 'liverylaw06.SolveMore'. -/
def solveMoreUptoCard : Claim7 := { stood := { row := solveMoreUptoRow, standIns := [], harness := (true, "93904d2aa503b324cff2ae84423896c18f292465c0e4aade65fc32b442ceeb6e"), looks := false }, kinds := [], alts := [], laidByText := true, laidKinds := [.data, .data, .data], laidTests := true, laidLooks := .later }
def SolveMoreUptoCardSaid : Prop := Claim7.holds Tryd.pinned (.plain (OpenSpec.upto solveMoreSpec)) solveMoreUptoCard

/-- THE SECOND FORM's CARD OF 'liverylaw06.SolveOrder'. -/
def solveOrderUptoCard : Claim7 := { stood := { row := solveOrderUptoRow, standIns := [], harness := (true, "93904d2aa503b324cff2ae84423896c18f292465c0e4aade65fc32b442ceeb6e"), looks := false }, kinds := [], alts := [], laidByText := true, laidKinds := [.data, .data, .data], laidTests := true, laidLooks := .later }
def SolveOrderUptoCardSaid : Prop := Claim7.holds Tryd.pinned (.plain (OpenSpec.upto solveOrderSpec)) solveOrderUptoCard
end Rows
end Go.Proofs.YtpjddgmdgfjlfaaDoor
