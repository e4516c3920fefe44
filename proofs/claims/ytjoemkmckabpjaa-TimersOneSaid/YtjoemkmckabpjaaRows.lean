/-
  No cell of these rows narrows 'for every input' (looked for: loops, veiled, ifaces, maps, wideKeys, modest, calm, conditions, laid).
  DERIVED. THE GIVEN ROWS OF THIS SEAT. 4 by the template 'for every input the law returns true; each argument reads behind the call as it read before'; 0 by the template 'total and deterministic' (their statements: YtjoemkmckabpjaaTotals.lean).
  GIVEN WITH THE SEED: the statements are not yours to turn. If you find one false, say at which input.
  Laid BY PROGRAM, IN A SANDBOX (cutbox-rows.mjs): the forced cells as the released guide's own fill.sh prints them over the translation 9a1ae2982aa57c8b… (all of the seat's roots in one cut). By AI agents, Wed Nov 11 2026. No macro, syntax, notation, axiom, sorry.
-/
import Derived.Test.YtjoemkmckabpjaaChecked
import GoSem.Claim
import GoSem.ClaimJoined
import GoSem.ClaimMapViews
import Derived.JoinedTies
import Derived.KernelRfl
namespace Go.Proofs.Ytjoemkmckabpjaa
/- THE CELL 'sum', in the pinned program and in every row, IS THE sha256 OF THE DUMP (.gsa) THAT YtjoemkmckabpjaaProg.lean LOADS. Nothing in Lean hashes anything: it is a label: what it is worth is what the hold of that sum in a sandbox is worth. -/
noncomputable def Try.pinned : Pinned := { name := "ytjoemkmckabpjaa", sum := "9a1ae2982aa57c8baff3de61a6d71c8d4ccbdafa5e0ab80a25cccb4b025b9a14", checked := Try.checked }
namespace Rows
def none {H : Type} : Left H := { results := [], args := [] }

/-- 'liverylaw14.TimersInOrder': WHATEVER THE INPUT: true; the input reads as it did. -/
def timersInOrderSpec : ChangeSpec := { name := "timersInOrder", fn := fun _ => fun
  | [d1, d2] => { results := [.lit (.bool true)], args := [d1, d2] }
  | _ => none }
def timersInOrderRow : OpenClaim := { program := "ytjoemkmckabpjaa", sum := "9a1ae2982aa57c8baff3de61a6d71c8d4ccbdafa5e0ab80a25cccb4b025b9a14", func := "livery/liverylaw14.TimersInOrder", spec := "timersInOrder", unfollowed := true, recurses := true, apart := false }
def TimersInOrderSaid : Prop := timersInOrderRow.holds Try.pinned (OpenSpec.ofChange timersInOrderSpec)

/-- ITS FALSE NEIGHBOUR: 'it returns false'. Refute it at one input. -/
def timersInOrderWrong : ChangeSpec := { name := "timersInOrder", fn := fun _ => fun
  | [d1, d2] => { results := [.lit (.bool false)], args := [d1, d2] }
  | _ => none }
def TimersInOrderWrongFalsely : Prop := timersInOrderRow.holds Try.pinned (OpenSpec.ofChange timersInOrderWrong)

/-- 'liverylaw14.TimersPlays': WHATEVER THE INPUT: true; the input reads as it did. -/
def timersPlaysSpec : ChangeSpec := { name := "timersPlays", fn := fun _ => fun
  | [d] => { results := [.lit (.bool true)], args := [d] }
  | _ => none }
def timersPlaysRow : OpenClaim := { program := "ytjoemkmckabpjaa", sum := "9a1ae2982aa57c8baff3de61a6d71c8d4ccbdafa5e0ab80a25cccb4b025b9a14", func := "livery/liverylaw14.TimersPlays", spec := "timersPlays", unfollowed := true, recurses := true, apart := false }
def TimersPlaysSaid : Prop := timersPlaysRow.holds Try.pinned (OpenSpec.ofChange timersPlaysSpec)

/-- ITS FALSE NEIGHBOUR: 'it returns false'. Refute it at one input. -/
def timersPlaysWrong : ChangeSpec := { name := "timersPlays", fn := fun _ => fun
  | [d] => { results := [.lit (.bool false)], args := [d] }
  | _ => none }
def TimersPlaysWrongFalsely : Prop := timersPlaysRow.holds Try.pinned (OpenSpec.ofChange timersPlaysWrong)

/-- 'liverylaw14.TimersOne': WHATEVER THE INPUT: true; the input reads as it did. -/
def timersOneSpec : ChangeSpec := { name := "timersOne", fn := fun _ => fun
  | [d1, d2, d3, d4] => { results := [.lit (.bool true)], args := [d1, d2, d3, d4] }
  | _ => none }
def timersOneRow : OpenClaim := { program := "ytjoemkmckabpjaa", sum := "9a1ae2982aa57c8baff3de61a6d71c8d4ccbdafa5e0ab80a25cccb4b025b9a14", func := "livery/liverylaw14.TimersOne", spec := "timersOne", unfollowed := true, recurses := true, apart := false }
def TimersOneSaid : Prop := timersOneRow.holds Try.pinned (OpenSpec.ofChange timersOneSpec)

/-- ITS FALSE NEIGHBOUR: 'it returns false'. Refute it at one input. -/
def timersOneWrong : ChangeSpec := { name := "timersOne", fn := fun _ => fun
  | [d1, d2, d3, d4] => { results := [.lit (.bool false)], args := [d1, d2, d3, d4] }
  | _ => none }
def TimersOneWrongFalsely : Prop := timersOneRow.holds Try.pinned (OpenSpec.ofChange timersOneWrong)

/-- 'liverylaw14.TimersOwns': WHATEVER THE INPUT: true; the input reads as it did. -/
def timersOwnsSpec : ChangeSpec := { name := "timersOwns", fn := fun _ => fun
  | [d] => { results := [.lit (.bool true)], args := [d] }
  | _ => none }
def timersOwnsRow : OpenClaim := { program := "ytjoemkmckabpjaa", sum := "9a1ae2982aa57c8baff3de61a6d71c8d4ccbdafa5e0ab80a25cccb4b025b9a14", func := "livery/liverylaw14.TimersOwns", spec := "timersOwns", unfollowed := true, recurses := true, apart := false }
def TimersOwnsSaid : Prop := timersOwnsRow.holds Try.pinned (OpenSpec.ofChange timersOwnsSpec)

/-- ITS FALSE NEIGHBOUR: 'it returns false'. Refute it at one input. -/
def timersOwnsWrong : ChangeSpec := { name := "timersOwns", fn := fun _ => fun
  | [d] => { results := [.lit (.bool false)], args := [d] }
  | _ => none }
def TimersOwnsWrongFalsely : Prop := timersOwnsRow.holds Try.pinned (OpenSpec.ofChange timersOwnsWrong)

/- THE SECOND FORM. 'bulk': how many values and letters a reading holds, each counted each time it is reached (what is shared counts as often as it is met; a slice's spare places count too). A statement '..UptoSaid' is the law's where the arguments, and the package variables that the reading takes, are together of bulk at most 1048576: NARROWER than '..Said'. Prove '..Said' where nothing that the law and all that it calls make is longer than what came in: it says more and counts as full. Else prove '..UptoSaid'. A law counts once. -/
mutual
def uptoBulk {H : Type} : DataW H → Nat
  | .lit (.string bytes) => bytes.length + 1
  | .lit _ => 1
  | .nil => 1
  | .ptr d => uptoBulk d + 1
  | .slice elems spare => uptoBulkAll elems + uptoBulkAll spare + 1
  | .agg parts => uptoBulkAll parts + 1
  | .iface _ d => uptoBulk d + 1
  | .map entries => uptoBulkEntries entries + 1
  | .held _ => 1
def uptoBulkAll {H : Type} : List (DataW H) → Nat
  | [] => 0
  | d :: r => uptoBulk d + uptoBulkAll r
def uptoBulkEntries {H : Type} : List (Lit × DataW H) → Nat
  | [] => 0
  | x :: r => uptoBulkEntry x + uptoBulkEntries r
def uptoBulkEntry {H : Type} : Lit × DataW H → Nat
  | (.string bytes, d) => bytes.length + uptoBulk d + 1
  | (_, d) => uptoBulk d + 1
 end
def uptoSmall : (H : Type) → List (DataW H) → Bool := fun _ ds => decide (uptoBulkAll ds ≤ 1048576)
def OpenSpec.upto (s : _root_.Go.ChangeSpec) : _root_.Go.OpenSpec := { _root_.Go.OpenSpec.ofChange s with cond := some uptoSmall }

/-- 'liverylaw14.TimersInOrder', WHERE WHAT IT READS IS OF BULK AT MOST 1048576: true; the input reads as it did. -/
def timersInOrderUptoRow : OpenClaim := { program := "ytjoemkmckabpjaa", sum := "9a1ae2982aa57c8baff3de61a6d71c8d4ccbdafa5e0ab80a25cccb4b025b9a14", func := "livery/liverylaw14.TimersInOrder", spec := "timersInOrder", unfollowed := true, recurses := true, apart := false, narrowed := true }
def TimersInOrderUptoSaid : Prop := timersInOrderUptoRow.holds Try.pinned (OpenSpec.upto timersInOrderSpec)

/-- 'liverylaw14.TimersPlays', WHERE WHAT IT READS IS OF BULK AT MOST 1048576: true; the input reads as it did. -/
def timersPlaysUptoRow : OpenClaim := { program := "ytjoemkmckabpjaa", sum := "9a1ae2982aa57c8baff3de61a6d71c8d4ccbdafa5e0ab80a25cccb4b025b9a14", func := "livery/liverylaw14.TimersPlays", spec := "timersPlays", unfollowed := true, recurses := true, apart := false, narrowed := true }
def TimersPlaysUptoSaid : Prop := timersPlaysUptoRow.holds Try.pinned (OpenSpec.upto timersPlaysSpec)

/-- 'liverylaw14.TimersOne', WHERE WHAT IT READS IS OF BULK AT MOST 1048576: true; the input reads as it did. -/
def timersOneUptoRow : OpenClaim := { program := "ytjoemkmckabpjaa", sum := "9a1ae2982aa57c8baff3de61a6d71c8d4ccbdafa5e0ab80a25cccb4b025b9a14", func := "livery/liverylaw14.TimersOne", spec := "timersOne", unfollowed := true, recurses := true, apart := false, narrowed := true }
def TimersOneUptoSaid : Prop := timersOneUptoRow.holds Try.pinned (OpenSpec.upto timersOneSpec)

/-- 'liverylaw14.TimersOwns', WHERE WHAT IT READS IS OF BULK AT MOST 1048576: true; the input reads as it did. -/
def timersOwnsUptoRow : OpenClaim := { program := "ytjoemkmckabpjaa", sum := "9a1ae2982aa57c8baff3de61a6d71c8d4ccbdafa5e0ab80a25cccb4b025b9a14", func := "livery/liverylaw14.TimersOwns", spec := "timersOwns", unfollowed := true, recurses := true, apart := false, narrowed := true }
def TimersOwnsUptoSaid : Prop := timersOwnsUptoRow.holds Try.pinned (OpenSpec.upto timersOwnsSpec)

end Rows
end Go.Proofs.Ytjoemkmckabpjaa
