/-
  DERIVED. GIVEN WITH THE SEED: THE CARDS: each row of YtbjjonpkmplhbaaDoorRows.lean that lists a variable, with what it lists TIED to the program's text (the seventh form; the later family's looks); each row that meets fmt, with fmt's text TOLD by the authors' own Lean function (tested against real Go, not proved from fmt's source: count such statements apart). THE CARD IS WHAT COUNTS. Prove the row's statement (the work); the ties are given (YtbjjonpkmplhbaaDoorTie.lean); close each card by the builder's one call (the guide's Derived/Test/ToyasCard.lean, 'card_holds'). Laid BY PROGRAM, IN A SANDBOX (cutbox-door.mjs). By AI agents, Wed Nov 11 2026. No macro, syntax, notation, axiom, sorry.
-/
import Derived.Test.YtbjjonpkmplhbaaDoorRows
import GoSem.ClaimSeven
namespace Go.Proofs.YtbjjonpkmplhbaaDoor
namespace Rows

/-- THE TIED CARD OF 'liverylaw24.AuditBegins'. -/
def auditBeginsCard : Claim7 := { stood := { row := auditBeginsRow, standIns := [], harness := (true, "5b00d6c8da9b863c8673c47f7d43994a0bec719fd661e3daf337eb2c6cc11a9d"), looks := false }, kinds := [], alts := [], laidByText := true, laidKinds := [.data, .data, .data], laidTests := true, laidLooks := .later }
def AuditBeginsCardSaid : Prop := Claim7.holds Tryd.pinned (.plain (OpenSpec.ofChange auditBeginsSpec)) auditBeginsCard

/-- THE TIED CARD OF 'liverylaw24.AuditRefused'. -/
def auditRefusedCard : Claim7 := { stood := { row := auditRefusedRow, standIns := [], harness := (true, "5b00d6c8da9b863c8673c47f7d43994a0bec719fd661e3daf337eb2c6cc11a9d"), looks := false }, kinds := [], alts := [], laidByText := true, laidKinds := [.data, .data, .data], laidTests := true, laidLooks := .later }
def AuditRefusedCardSaid : Prop := Claim7.holds Tryd.pinned (.plain (OpenSpec.ofChange auditRefusedSpec)) auditRefusedCard

/-- THE TIED CARD OF 'liverylaw24.AuditOwns'. -/
def auditOwnsCard : Claim7 := { stood := { row := auditOwnsRow, standIns := [], harness := (true, "5b00d6c8da9b863c8673c47f7d43994a0bec719fd661e3daf337eb2c6cc11a9d"), looks := false }, kinds := [], alts := [], laidByText := true, laidKinds := [.data, .data, .data], laidTests := true, laidLooks := .later }
def AuditOwnsCardSaid : Prop := Claim7.holds Tryd.pinned (.plain (OpenSpec.ofChange auditOwnsSpec)) auditOwnsCard

/-- THE SECOND FORM's CARD OF 'liverylaw24.AuditBegins'. -/
def auditBeginsUptoCard : Claim7 := { stood := { row := auditBeginsUptoRow, standIns := [], harness := (true, "5b00d6c8da9b863c8673c47f7d43994a0bec719fd661e3daf337eb2c6cc11a9d"), looks := false }, kinds := [], alts := [], laidByText := true, laidKinds := [.data, .data, .data], laidTests := true, laidLooks := .later }
def AuditBeginsUptoCardSaid : Prop := Claim7.holds Tryd.pinned (.plain (OpenSpec.upto auditBeginsSpec)) auditBeginsUptoCard

/-- THE SECOND FORM's CARD OF 'liverylaw24.AuditRefused'. -/
def auditRefusedUptoCard : Claim7 := { stood := { row := auditRefusedUptoRow, standIns := [], harness := (true, "5b00d6c8da9b863c8673c47f7d43994a0bec719fd661e3daf337eb2c6cc11a9d"), looks := false }, kinds := [], alts := [], laidByText := true, laidKinds := [.data, .data, .data], laidTests := true, laidLooks := .later }
def AuditRefusedUptoCardSaid : Prop := Claim7.holds Tryd.pinned (.plain (OpenSpec.upto auditRefusedSpec)) auditRefusedUptoCard

/-- THE SECOND FORM's CARD OF 'liverylaw24.AuditOwns'. -/
def auditOwnsUptoCard : Claim7 := { stood := { row := auditOwnsUptoRow, standIns := [], harness := (true, "5b00d6c8da9b863c8673c47f7d43994a0bec719fd661e3daf337eb2c6cc11a9d"), looks := false }, kinds := [], alts := [], laidByText := true, laidKinds := [.data, .data, .data], laidTests := true, laidLooks := .later }
def AuditOwnsUptoCardSaid : Prop := Claim7.holds Tryd.pinned (.plain (OpenSpec.upto auditOwnsSpec)) auditOwnsUptoCard
end Rows
end Go.Proofs.YtbjjonpkmplhbaaDoor
