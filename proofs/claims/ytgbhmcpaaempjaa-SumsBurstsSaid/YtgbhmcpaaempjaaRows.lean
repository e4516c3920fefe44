/-
  No cell of these rows narrows 'for every input' (looked for: loops, veiled, ifaces, maps, wideKeys, modest, calm, conditions, laid).
  DERIVED. THE GIVEN ROWS OF THIS SEAT. 5 by the template 'for every input the law returns true; each argument reads behind the call as it read before'; 0 by the template 'total and deterministic' (their statements: YtgbhmcpaaempjaaTotals.lean).
  GIVEN WITH THE SEED: the statements are not yours to turn. If you find one false, say at which input.
  Laid BY PROGRAM, IN A SANDBOX (cutbox-rows.mjs): the forced cells as the released guide's own fill.sh prints them over the translation 449edb388c903242… (all of the seat's roots in one cut). By AI agents, Wed Nov 11 2026. No macro, syntax, notation, axiom, sorry.
-/
import Derived.Test.YtgbhmcpaaempjaaChecked
import GoSem.Claim
import GoSem.ClaimJoined
import GoSem.ClaimMapViews
import Derived.JoinedTies
import Derived.KernelRfl
namespace Go.Proofs.Ytgbhmcpaaempjaa
/- THE CELL 'sum', in the pinned program and in every row, IS THE sha256 OF THE DUMP (.gsa) THAT YtgbhmcpaaempjaaProg.lean LOADS. Nothing in Lean hashes anything: it is a label: what it is worth is what the hold of that sum in a sandbox is worth. -/
noncomputable def Try.pinned : Pinned := { name := "ytgbhmcpaaempjaa", sum := "449edb388c90324245ea1fb7582f61fc40264c710b233a63a4952fba70b42408", checked := Try.checked }
namespace Rows
def none {H : Type} : Left H := { results := [], args := [] }

/-- 'liverylaw15.SumsSums': WHATEVER THE INPUT: true; the input reads as it did. -/
def sumsSumsSpec : ChangeSpec := { name := "sumsSums", fn := fun _ => fun
  | [d1, d2] => { results := [.lit (.bool true)], args := [d1, d2] }
  | _ => none }
def sumsSumsRow : OpenClaim := { program := "ytgbhmcpaaempjaa", sum := "449edb388c90324245ea1fb7582f61fc40264c710b233a63a4952fba70b42408", func := "livery/liverylaw15.SumsSums", spec := "sumsSums", apart := false }
def SumsSumsSaid : Prop := sumsSumsRow.holds Try.pinned (OpenSpec.ofChange sumsSumsSpec)

/-- ITS FALSE NEIGHBOUR: 'it returns false'. Refute it at one input. -/
def sumsSumsWrong : ChangeSpec := { name := "sumsSums", fn := fun _ => fun
  | [d1, d2] => { results := [.lit (.bool false)], args := [d1, d2] }
  | _ => none }
def SumsSumsWrongFalsely : Prop := sumsSumsRow.holds Try.pinned (OpenSpec.ofChange sumsSumsWrong)

/-- 'liverylaw15.SumsCuts': WHATEVER THE INPUT: true; the input reads as it did. -/
def sumsCutsSpec : ChangeSpec := { name := "sumsCuts", fn := fun _ => fun
  | [d1, d2] => { results := [.lit (.bool true)], args := [d1, d2] }
  | _ => none }
def sumsCutsRow : OpenClaim := { program := "ytgbhmcpaaempjaa", sum := "449edb388c90324245ea1fb7582f61fc40264c710b233a63a4952fba70b42408", func := "livery/liverylaw15.SumsCuts", spec := "sumsCuts", apart := false }
def SumsCutsSaid : Prop := sumsCutsRow.holds Try.pinned (OpenSpec.ofChange sumsCutsSpec)

/-- ITS FALSE NEIGHBOUR: 'it returns false'. Refute it at one input. -/
def sumsCutsWrong : ChangeSpec := { name := "sumsCuts", fn := fun _ => fun
  | [d1, d2] => { results := [.lit (.bool false)], args := [d1, d2] }
  | _ => none }
def SumsCutsWrongFalsely : Prop := sumsCutsRow.holds Try.pinned (OpenSpec.ofChange sumsCutsWrong)

/-- 'liverylaw15.SumsBursts': WHATEVER THE INPUT: true; the input reads as it did. -/
def sumsBurstsSpec : ChangeSpec := { name := "sumsBursts", fn := fun _ => fun
  | [d1, d2, d3] => { results := [.lit (.bool true)], args := [d1, d2, d3] }
  | _ => none }
def sumsBurstsRow : OpenClaim := { program := "ytgbhmcpaaempjaa", sum := "449edb388c90324245ea1fb7582f61fc40264c710b233a63a4952fba70b42408", func := "livery/liverylaw15.SumsBursts", spec := "sumsBursts", apart := false }
def SumsBurstsSaid : Prop := sumsBurstsRow.holds Try.pinned (OpenSpec.ofChange sumsBurstsSpec)

/-- ITS FALSE NEIGHBOUR: 'it returns false'. Refute it at one input. -/
def sumsBurstsWrong : ChangeSpec := { name := "sumsBursts", fn := fun _ => fun
  | [d1, d2, d3] => { results := [.lit (.bool false)], args := [d1, d2, d3] }
  | _ => none }
def SumsBurstsWrongFalsely : Prop := sumsBurstsRow.holds Try.pinned (OpenSpec.ofChange sumsBurstsWrong)

/-- 'liverylaw15.SumsTogether': WHATEVER THE INPUT: true; the input reads as it did. -/
def sumsTogetherSpec : ChangeSpec := { name := "sumsTogether", fn := fun _ => fun
  | [d1, d2, d3] => { results := [.lit (.bool true)], args := [d1, d2, d3] }
  | _ => none }
def sumsTogetherRow : OpenClaim := { program := "ytgbhmcpaaempjaa", sum := "449edb388c90324245ea1fb7582f61fc40264c710b233a63a4952fba70b42408", func := "livery/liverylaw15.SumsTogether", spec := "sumsTogether", apart := false }
def SumsTogetherSaid : Prop := sumsTogetherRow.holds Try.pinned (OpenSpec.ofChange sumsTogetherSpec)

/-- ITS FALSE NEIGHBOUR: 'it returns false'. Refute it at one input. -/
def sumsTogetherWrong : ChangeSpec := { name := "sumsTogether", fn := fun _ => fun
  | [d1, d2, d3] => { results := [.lit (.bool false)], args := [d1, d2, d3] }
  | _ => none }
def SumsTogetherWrongFalsely : Prop := sumsTogetherRow.holds Try.pinned (OpenSpec.ofChange sumsTogetherWrong)

/-- 'liverylaw15.SumsRange': WHATEVER THE INPUT: true; the input reads as it did. -/
def sumsRangeSpec : ChangeSpec := { name := "sumsRange", fn := fun _ => fun
  | [d1, d2] => { results := [.lit (.bool true)], args := [d1, d2] }
  | _ => none }
def sumsRangeRow : OpenClaim := { program := "ytgbhmcpaaempjaa", sum := "449edb388c90324245ea1fb7582f61fc40264c710b233a63a4952fba70b42408", func := "livery/liverylaw15.SumsRange", spec := "sumsRange", apart := false }
def SumsRangeSaid : Prop := sumsRangeRow.holds Try.pinned (OpenSpec.ofChange sumsRangeSpec)

/-- ITS FALSE NEIGHBOUR: 'it returns false'. Refute it at one input. -/
def sumsRangeWrong : ChangeSpec := { name := "sumsRange", fn := fun _ => fun
  | [d1, d2] => { results := [.lit (.bool false)], args := [d1, d2] }
  | _ => none }
def SumsRangeWrongFalsely : Prop := sumsRangeRow.holds Try.pinned (OpenSpec.ofChange sumsRangeWrong)

/- THE SECOND FORM. 'bulk': how many values and letters a reading holds, each counted each time it is reached (what is shared counts as often as it is met; a slice's spare places count too). A statement '..UptoSaid' is the law's where the arguments, and the package variables that the reading takes, are together of bulk at most 1048576: NARROWER than '..Said'. Prove '..Said' where nothing that the law and all that it calls make is longer than what came in: it says more and counts as full. Else prove '..UptoSaid'. A law counts once. -/
mutual
def uptoBulk {H : Type} : DataW H → Nat
  | .lit (.string bytes) => bytes.length + 1
  | .lit _ => 1
  | .nil => 1
  | .ptr d => uptoBulk d + 1
  | .slice elems spare => uptoBulkAll elems + uptoBulkAll spare + 1
  | .agg parts => uptoBulkAll parts + 1
  | .iface _ d => uptoBulk d + 1
  | .map entries => uptoBulkEntries entries + 1
  | .held _ => 1
def uptoBulkAll {H : Type} : List (DataW H) → Nat
  | [] => 0
  | d :: r => uptoBulk d + uptoBulkAll r
def uptoBulkEntries {H : Type} : List (Lit × DataW H) → Nat
  | [] => 0
  | x :: r => uptoBulkEntry x + uptoBulkEntries r
def uptoBulkEntry {H : Type} : Lit × DataW H → Nat
  | (.string bytes, d) => bytes.length + uptoBulk d + 1
  | (_, d) => uptoBulk d + 1
 end
def uptoSmall : (H : Type) → List (DataW H) → Bool := fun _ ds => decide (uptoBulkAll ds ≤ 1048576)
def OpenSpec.upto (s : _root_.Go.ChangeSpec) : _root_.Go.OpenSpec := { _root_.Go.OpenSpec.ofChange s with cond := some uptoSmall }

/-- 'liverylaw15.SumsSums', WHERE WHAT IT READS IS OF BULK AT MOST 1048576: true; the input reads as it did. -/
def sumsSumsUptoRow : OpenClaim := { program := "ytgbhmcpaaempjaa", sum := "449edb388c90324245ea1fb7582f61fc40264c710b233a63a4952fba70b42408", func := "livery/liverylaw15.SumsSums", spec := "sumsSums", apart := false, narrowed := true }
def SumsSumsUptoSaid : Prop := sumsSumsUptoRow.holds Try.pinned (OpenSpec.upto sumsSumsSpec)

/-- 'liverylaw15.SumsCuts', WHERE WHAT IT READS IS OF BULK AT MOST 1048576: true; the input reads as it did. -/
def sumsCutsUptoRow : OpenClaim := { program := "ytgbhmcpaaempjaa", sum := "449edb388c90324245ea1fb7582f61fc40264c710b233a63a4952fba70b42408", func := "livery/liverylaw15.SumsCuts", spec := "sumsCuts", apart := false, narrowed := true }
def SumsCutsUptoSaid : Prop := sumsCutsUptoRow.holds Try.pinned (OpenSpec.upto sumsCutsSpec)

/-- 'liverylaw15.SumsBursts', WHERE WHAT IT READS IS OF BULK AT MOST 1048576: true; the input reads as it did. -/
def sumsBurstsUptoRow : OpenClaim := { program := "ytgbhmcpaaempjaa", sum := "449edb388c90324245ea1fb7582f61fc40264c710b233a63a4952fba70b42408", func := "livery/liverylaw15.SumsBursts", spec := "sumsBursts", apart := false, narrowed := true }
def SumsBurstsUptoSaid : Prop := sumsBurstsUptoRow.holds Try.pinned (OpenSpec.upto sumsBurstsSpec)

/-- 'liverylaw15.SumsTogether', WHERE WHAT IT READS IS OF BULK AT MOST 1048576: true; the input reads as it did. -/
def sumsTogetherUptoRow : OpenClaim := { program := "ytgbhmcpaaempjaa", sum := "449edb388c90324245ea1fb7582f61fc40264c710b233a63a4952fba70b42408", func := "livery/liverylaw15.SumsTogether", spec := "sumsTogether", apart := false, narrowed := true }
def SumsTogetherUptoSaid : Prop := sumsTogetherUptoRow.holds Try.pinned (OpenSpec.upto sumsTogetherSpec)

/-- 'liverylaw15.SumsRange', WHERE WHAT IT READS IS OF BULK AT MOST 1048576: true; the input reads as it did. -/
def sumsRangeUptoRow : OpenClaim := { program := "ytgbhmcpaaempjaa", sum := "449edb388c90324245ea1fb7582f61fc40264c710b233a63a4952fba70b42408", func := "livery/liverylaw15.SumsRange", spec := "sumsRange", apart := false, narrowed := true }
def SumsRangeUptoSaid : Prop := sumsRangeUptoRow.holds Try.pinned (OpenSpec.upto sumsRangeSpec)

end Rows
end Go.Proofs.Ytgbhmcpaaempjaa
