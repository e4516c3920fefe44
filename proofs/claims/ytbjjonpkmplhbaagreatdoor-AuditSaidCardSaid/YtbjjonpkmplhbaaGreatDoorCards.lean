/-
  DERIVED. GIVEN WITH THE SEED: THE CARDS: each row of YtbjjonpkmplhbaaGreatDoorRows.lean that lists a variable, with what it lists TIED to the program's text (the seventh form; the later family's looks); each row that meets fmt, with fmt's text TOLD by the authors' own Lean function (tested against real Go, not proved from fmt's source: count such statements apart). THE CARD IS WHAT COUNTS. Prove the row's statement (the work); the ties are given (YtbjjonpkmplhbaaGreatDoorTie.lean); close each card by the builder's one call (the guide's Derived/Test/ToyasCard.lean, 'card_holds'). Laid BY PROGRAM, IN A SANDBOX (cutbox-door.mjs). By AI agents, Wed Nov 11 2026. No macro, syntax, notation, axiom, sorry.
-/
import Derived.Test.YtbjjonpkmplhbaaGreatDoorRows
import GoSem.ClaimSeven
namespace Go.Proofs.YtbjjonpkmplhbaaGreatDoor
namespace Rows

/-- THE TIED CARD OF 'liverylaw24.AuditTells'. -/
def auditTellsCard : Claim7 := { stood := { row := auditTellsRow, standIns := [], harness := (true, "863871b29d830f6c8df7d3fac936ebbb02772be2bc52d2b09278c99a547e676b"), looks := false }, kinds := [], alts := [], laidByText := true, laidKinds := [.data, .data, .data], laidTests := true, laidLooks := .later }
def AuditTellsCardSaid : Prop := Claim7.holds Tryz.pinned (.plain (OpenSpec.ofChange auditTellsSpec)) auditTellsCard

/-- THE TIED CARD OF 'liverylaw24.AuditSaid'. -/
def auditSaidCard : Claim7 := { stood := { row := auditSaidRow, standIns := [], harness := (true, "863871b29d830f6c8df7d3fac936ebbb02772be2bc52d2b09278c99a547e676b"), looks := false }, kinds := [], alts := [], laidByText := true, laidKinds := [.data, .data, .data], laidTests := true, laidLooks := .later }
def AuditSaidCardSaid : Prop := Claim7.holds Tryz.pinned (.plain (OpenSpec.ofChange auditSaidSpec)) auditSaidCard

/-- THE SECOND FORM's CARD OF 'liverylaw24.AuditTells'. -/
def auditTellsUptoCard : Claim7 := { stood := { row := auditTellsUptoRow, standIns := [], harness := (true, "863871b29d830f6c8df7d3fac936ebbb02772be2bc52d2b09278c99a547e676b"), looks := false }, kinds := [], alts := [], laidByText := true, laidKinds := [.data, .data, .data], laidTests := true, laidLooks := .later }
def AuditTellsUptoCardSaid : Prop := Claim7.holds Tryz.pinned (.plain (OpenSpec.upto auditTellsSpec)) auditTellsUptoCard

/-- THE SECOND FORM's CARD OF 'liverylaw24.AuditSaid'. -/
def auditSaidUptoCard : Claim7 := { stood := { row := auditSaidUptoRow, standIns := [], harness := (true, "863871b29d830f6c8df7d3fac936ebbb02772be2bc52d2b09278c99a547e676b"), looks := false }, kinds := [], alts := [], laidByText := true, laidKinds := [.data, .data, .data], laidTests := true, laidLooks := .later }
def AuditSaidUptoCardSaid : Prop := Claim7.holds Tryz.pinned (.plain (OpenSpec.upto auditSaidSpec)) auditSaidUptoCard
end Rows
end Go.Proofs.YtbjjonpkmplhbaaGreatDoor
