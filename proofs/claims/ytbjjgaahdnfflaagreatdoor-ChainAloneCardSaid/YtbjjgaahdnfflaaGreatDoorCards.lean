/-
  DERIVED. GIVEN WITH THE SEED: THE CARDS: each row of YtbjjgaahdnfflaaGreatDoorRows.lean that lists a variable, with what it lists TIED to the program's text (the seventh form; the later family's looks); each row that meets fmt, with fmt's text TOLD by the authors' own Lean function (tested against real Go, not proved from fmt's source: count such statements apart). THE CARD IS WHAT COUNTS. Prove the row's statement (the work); the ties are given (YtbjjgaahdnfflaaGreatDoorTie.lean); close each card by the builder's one call (the guide's Derived/Test/ToyasCard.lean, 'card_holds'). Laid BY PROGRAM, IN A SANDBOX (cutbox-door.mjs). By AI agents, Wed Nov 11 2026. No macro, syntax, notation, axiom, sorry.
-/
import Derived.Test.YtbjjgaahdnfflaaGreatDoorRows
import GoSem.ClaimSeven
namespace Go.Proofs.YtbjjgaahdnfflaaGreatDoor
namespace Rows

/-- THE TIED CARD OF 'liverylaw08.ChainFinds'. -/
def chainFindsCard : Claim7 := { stood := { row := chainFindsRow, standIns := [], harness := (true, "ad7fe3b535647d717ba9b9cf795116df8a67cdc9fd6c3259427789d685ab1d1a"), looks := false }, kinds := [], alts := [], laidByText := true, laidKinds := [.data, .data, .data], laidTests := true, laidLooks := .later }
def ChainFindsCardSaid : Prop := Claim7.holds Tryz.pinned (.plain (OpenSpec.ofChange chainFindsSpec)) chainFindsCard

/-- THE TIED CARD OF 'liverylaw08.ChainSupports'. -/
def chainSupportsCard : Claim7 := { stood := { row := chainSupportsRow, standIns := [], harness := (true, "ad7fe3b535647d717ba9b9cf795116df8a67cdc9fd6c3259427789d685ab1d1a"), looks := false }, kinds := [], alts := [], laidByText := true, laidKinds := [.data, .data, .data], laidTests := true, laidLooks := .later }
def ChainSupportsCardSaid : Prop := Claim7.holds Tryz.pinned (.plain (OpenSpec.ofChange chainSupportsSpec)) chainSupportsCard

/-- THE TIED CARD OF 'liverylaw08.ChainAlone'. -/
def chainAloneCard : Claim7 := { stood := { row := chainAloneRow, standIns := [], harness := (true, "ad7fe3b535647d717ba9b9cf795116df8a67cdc9fd6c3259427789d685ab1d1a"), looks := false }, kinds := [], alts := [], laidByText := true, laidKinds := [.data, .data, .data], laidTests := true, laidLooks := .later }
def ChainAloneCardSaid : Prop := Claim7.holds Tryz.pinned (.plain (OpenSpec.ofChange chainAloneSpec)) chainAloneCard

/-- THE TIED CARD OF 'liverylaw08.ChainComplete'. -/
def chainCompleteCard : Claim7 := { stood := { row := chainCompleteRow, standIns := [], harness := (true, "ad7fe3b535647d717ba9b9cf795116df8a67cdc9fd6c3259427789d685ab1d1a"), looks := false }, kinds := [], alts := [], laidByText := true, laidKinds := [.data, .data, .data], laidTests := true, laidLooks := .later }
def ChainCompleteCardSaid : Prop := Claim7.holds Tryz.pinned (.plain (OpenSpec.ofChange chainCompleteSpec)) chainCompleteCard

/-- THE SECOND FORM's CARD OF 'liverylaw08.ChainFinds'. -/
def chainFindsUptoCard : Claim7 := { stood := { row := chainFindsUptoRow, standIns := [], harness := (true, "ad7fe3b535647d717ba9b9cf795116df8a67cdc9fd6c3259427789d685ab1d1a"), looks := false }, kinds := [], alts := [], laidByText := true, laidKinds := [.data, .data, .data], laidTests := true, laidLooks := .later }
def ChainFindsUptoCardSaid : Prop := Claim7.holds Tryz.pinned (.plain (OpenSpec.upto chainFindsSpec)) chainFindsUptoCard

/-- THE SECOND FORM's CARD OF 'liverylaw08.ChainSupports'. -/
def chainSupportsUptoCard : Claim7 := { stood := { row := chainSupportsUptoRow, standIns := [], harness := (true, "ad7fe3b535647d717ba9b9cf795116df8a67cdc9fd6c3259427789d685ab1d1a"), looks := false }, kinds := [], alts := [], laidByText := true, laidKinds := [.data, .data, .data], laidTests := true, laidLooks := .later }
def ChainSupportsUptoCardSaid : Prop := Claim7.holds Tryz.pinned (.plain (OpenSpec.upto chainSupportsSpec)) chainSupportsUptoCard

/-- THE SECOND FORM's CARD OF 'liverylaw08.ChainAlone'. -/
def chainAloneUptoCard : Claim7 := { stood := { row := chainAloneUptoRow, standIns := [], harness := (true, "ad7fe3b535647d717ba9b9cf795116df8a67cdc9fd6c3259427789d685ab1d1a"), looks := false }, kinds := [], alts := [], laidByText := true, laidKinds := [.data, .data, .data], laidTests := true, laidLooks := .later }
def ChainAloneUptoCardSaid : Prop := Claim7.holds Tryz.pinned (.plain (OpenSpec.upto chainAloneSpec)) chainAloneUptoCard

/-- THE SECOND FORM's CARD OF 'liverylaw08.ChainComplete'. -/
def chainCompleteUptoCard : Claim7 := { stood := { row := chainCompleteUptoRow, standIns := [], harness := (true, "ad7fe3b535647d717ba9b9cf795116df8a67cdc9fd6c3259427789d685ab1d1a"), looks := false }, kinds := [], alts := [], laidByText := true, laidKinds := [.data, .data, .data], laidTests := true, laidLooks := .later }
def ChainCompleteUptoCardSaid : Prop := Claim7.holds Tryz.pinned (.plain (OpenSpec.upto chainCompleteSpec)) chainCompleteUptoCard
end Rows
end Go.Proofs.YtbjjgaahdnfflaaGreatDoor
