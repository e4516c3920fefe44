/-
  DERIVED. GIVEN WITH THE SEED: THE CARDS: each row of YtbjjgaahdnfflaaDoorRows.lean that lists a variable, with what it lists TIED to the program's text (the seventh form; the later family's looks); each row that meets fmt, with fmt's text TOLD by the authors' own Lean function (tested against real Go, not proved from fmt's source: count such statements apart). THE CARD IS WHAT COUNTS. Prove the row's statement (the work); the ties are given (YtbjjgaahdnfflaaDoorTie.lean); close each card by the builder's one call (the guide's Derived/Test/ToyasCard.lean, 'card_holds'). Laid BY PROGRAM, IN A SANDBOX (cutbox-door.mjs). By AI agents, Wed Nov 11 2026. No macro, syntax, notation, axiom, sorry.
-/
import Derived.Test.YtbjjgaahdnfflaaDoorRows
import GoSem.ClaimSeven
namespace Go.Proofs.YtbjjgaahdnfflaaDoor
namespace Rows

/-- THE TIED CARD OF 'liverylaw08.ChainShort'. -/
def chainShortCard : Claim7 := { stood := { row := chainShortRow, standIns := [], harness := (true, "a271003c8a619e289647146d5e30626362b9001fb49b531efdd0a878accf6a40"), looks := false }, kinds := [], alts := [], laidByText := true, laidKinds := [.data, .data, .data], laidTests := true, laidLooks := .later }
def ChainShortCardSaid : Prop := Claim7.holds Tryd.pinned (.plain (OpenSpec.ofChange chainShortSpec)) chainShortCard

/-- THE SECOND FORM's CARD OF 'liverylaw08.ChainShort'. -/
def chainShortUptoCard : Claim7 := { stood := { row := chainShortUptoRow, standIns := [], harness := (true, "a271003c8a619e289647146d5e30626362b9001fb49b531efdd0a878accf6a40"), looks := false }, kinds := [], alts := [], laidByText := true, laidKinds := [.data, .data, .data], laidTests := true, laidLooks := .later }
def ChainShortUptoCardSaid : Prop := Claim7.holds Tryd.pinned (.plain (OpenSpec.upto chainShortSpec)) chainShortUptoCard
end Rows
end Go.Proofs.YtbjjgaahdnfflaaDoor
