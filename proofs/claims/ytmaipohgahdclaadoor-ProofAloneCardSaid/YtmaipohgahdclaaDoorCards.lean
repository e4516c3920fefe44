/-
  DERIVED. GIVEN WITH THE SEED: THE CARDS: each row of YtmaipohgahdclaaDoorRows.lean that lists a variable, with what it lists TIED to the program's text (the seventh form; the later family's looks); each row that meets fmt, with fmt's text TOLD by the authors' own Lean function (tested against real Go, not proved from fmt's source: count such statements apart). THE CARD IS WHAT COUNTS. Prove the row's statement (the work); the ties are given (YtmaipohgahdclaaDoorTie.lean); close each card by the builder's one call (the guide's Derived/Test/ToyasCard.lean, 'card_holds'). Laid BY PROGRAM, IN A SANDBOX (cutbox-door.mjs). By AI agents, Wed Nov 11 2026. No macro, syntax, notation, axiom, sorry.
-/
import Derived.Test.YtmaipohgahdclaaDoorRows
import GoSem.ClaimSeven
namespace Go.Proofs.YtmaipohgahdclaaDoor
namespace Rows

/-- THE TIED CARD OF 'liverylaw07.ProofChecks'. -/
def proofChecksCard : Claim7 := { stood := { row := proofChecksRow, standIns := [], harness := (true, "9ef0ea5e7e4dc2f723434f7a49352648be7ad52d752f58e90c710595904f2504"), looks := false }, kinds := [], alts := [], laidByText := true, laidKinds := [.data, .data, .data], laidTests := true, laidLooks := .later }
def ProofChecksCardSaid : Prop := Claim7.holds Tryd.pinned (.plain (OpenSpec.ofChange proofChecksSpec)) proofChecksCard

/-- THE TIED CARD OF 'liverylaw07.ProofParts'. -/
def proofPartsCard : Claim7 := { stood := { row := proofPartsRow, standIns := [], harness := (true, "9ef0ea5e7e4dc2f723434f7a49352648be7ad52d752f58e90c710595904f2504"), looks := false }, kinds := [], alts := [], laidByText := true, laidKinds := [.data, .data, .data], laidTests := true, laidLooks := .later }
def ProofPartsCardSaid : Prop := Claim7.holds Tryd.pinned (.plain (OpenSpec.ofChange proofPartsSpec)) proofPartsCard

/-- THE TIED CARD OF 'liverylaw07.ProofAlone'. -/
def proofAloneCard : Claim7 := { stood := { row := proofAloneRow, standIns := [], harness := (true, "9ef0ea5e7e4dc2f723434f7a49352648be7ad52d752f58e90c710595904f2504"), looks := false }, kinds := [], alts := [], laidByText := true, laidKinds := [.data, .data, .data], laidTests := true, laidLooks := .later }
def ProofAloneCardSaid : Prop := Claim7.holds Tryd.pinned (.plain (OpenSpec.ofChange proofAloneSpec)) proofAloneCard

/-- THE TIED CARD OF 'liverylaw07.ProofInner'. -/
def proofInnerCard : Claim7 := { stood := { row := proofInnerRow, standIns := [], harness := (true, "9ef0ea5e7e4dc2f723434f7a49352648be7ad52d752f58e90c710595904f2504"), looks := false }, kinds := [], alts := [], laidByText := true, laidKinds := [.data, .data, .data], laidTests := true, laidLooks := .later }
def ProofInnerCardSaid : Prop := Claim7.holds Tryd.pinned (.plain (OpenSpec.ofChange proofInnerSpec)) proofInnerCard

/-- THE TIED CARD OF 'liverylaw07.ProofOwns'. -/
def proofOwnsCard : Claim7 := { stood := { row := proofOwnsRow, standIns := [], harness := (true, "9ef0ea5e7e4dc2f723434f7a49352648be7ad52d752f58e90c710595904f2504"), looks := false }, kinds := [], alts := [], laidByText := true, laidKinds := [.data, .data, .data], laidTests := true, laidLooks := .later }
def ProofOwnsCardSaid : Prop := Claim7.holds Tryd.pinned (.plain (OpenSpec.ofChange proofOwnsSpec)) proofOwnsCard

/-- THE SECOND FORM's CARD OF 'liverylaw07.ProofChecks'. -/
def proofChecksUptoCard : Claim7 := { stood := { row := proofChecksUptoRow, standIns := [], harness := (true, "9ef0ea5e7e4dc2f723434f7a49352648be7ad52d752f58e90c710595904f2504"), looks := false }, kinds := [], alts := [], laidByText := true, laidKinds := [.data, .data, .data], laidTests := true, laidLooks := .later }
def ProofChecksUptoCardSaid : Prop := Claim7.holds Tryd.pinned (.plain (OpenSpec.upto proofChecksSpec)) proofChecksUptoCard

/-- THE SECOND FORM's CARD OF 'liverylaw07.ProofParts'. -/
def proofPartsUptoCard : Claim7 := { stood := { row := proofPartsUptoRow, standIns := [], harness := (true, "9ef0ea5e7e4dc2f723434f7a49352648be7ad52d752f58e90c710595904f2504"), looks := false }, kinds := [], alts := [], laidByText := true, laidKinds := [.data, .data, .data], laidTests := true, laidLooks := .later }
def ProofPartsUptoCardSaid : Prop := Claim7.holds Tryd.pinned (.plain (OpenSpec.upto proofPartsSpec)) proofPartsUptoCard

/-- THE SECOND FORM's CARD OF 'liverylaw07.ProofAlone'. -/
def proofAloneUptoCard : Claim7 := { stood := { row := proofAloneUptoRow, standIns := [], harness := (true, "9ef0ea5e7e4dc2f723434f7a49352648be7ad52d752f58e90c710595904f2504"), looks := false }, kinds := [], alts := [], laidByText := true, laidKinds := [.data, .data, .data], laidTests := true, laidLooks := .later }
def ProofAloneUptoCardSaid : Prop := Claim7.holds Tryd.pinned (.plain (OpenSpec.upto proofAloneSpec)) proofAloneUptoCard

/-- THE SECOND FORM's CARD OF 'liverylaw07.ProofInner'. -/
def proofInnerUptoCard : Claim7 := { stood := { row := proofInnerUptoRow, standIns := [], harness := (true, "9ef0ea5e7e4dc2f723434f7a49352648be7ad52d752f58e90c710595904f2504"), looks := false }, kinds := [], alts := [], laidByText := true, laidKinds := [.data, .data, .data], laidTests := true, laidLooks := .later }
def ProofInnerUptoCardSaid : Prop := Claim7.holds Tryd.pinned (.plain (OpenSpec.upto proofInnerSpec)) proofInnerUptoCard

/-- THE SECOND FORM's CARD OF 'liverylaw07.ProofOwns'. -/
def proofOwnsUptoCard : Claim7 := { stood := { row := proofOwnsUptoRow, standIns := [], harness := (true, "9ef0ea5e7e4dc2f723434f7a49352648be7ad52d752f58e90c710595904f2504"), looks := false }, kinds := [], alts := [], laidByText := true, laidKinds := [.data, .data, .data], laidTests := true, laidLooks := .later }
def ProofOwnsUptoCardSaid : Prop := Claim7.holds Tryd.pinned (.plain (OpenSpec.upto proofOwnsSpec)) proofOwnsUptoCard
end Rows
end Go.Proofs.YtmaipohgahdclaaDoor
