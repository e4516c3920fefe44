/-
  NARROWER THAN 'FOR EVERY INPUT', by the rows' own cells (each row's printed sentence says how): SolveAll: laid · SolveHas: laid · SolveClosed: laid · SolveLeast: laid · SolveMore: laid · SolveOrder: laid.
  DERIVED. THE GIVEN ROWS OF THIS SEAT. 6 by the template 'for every input the law returns true; each argument reads behind the call as it read before'; 0 by the template 'total and deterministic' (their statements: YtpjddgmdgfjlfaaDoorTotals.lean).
  GIVEN WITH THE SEED: the statements are not yours to turn. If you find one false, say at which input.
  Laid BY PROGRAM, IN A SANDBOX (cutbox-rows.mjs): the forced cells as the released guide's own fill.sh prints them over the translation b9ab6e2e9209a2ba… (all of the seat's roots in one cut). By AI agents, Wed Nov 11 2026. No macro, syntax, notation, axiom, sorry.
-/
import Derived.Test.YtpjddgmdgfjlfaaDoorChecked
import GoSem.Claim
import GoSem.ClaimJoined
import GoSem.ClaimMapViews
import Derived.JoinedTies
import Derived.KernelRfl
namespace Go.Proofs.YtpjddgmdgfjlfaaDoor
/- THE CELL 'sum', in the pinned program and in every row, IS THE sha256 OF THE DUMP (.gsa) THAT YtpjddgmdgfjlfaaDoorProg.lean LOADS. Nothing in Lean hashes anything: it is a label: what it is worth is what the hold of that sum in a sandbox is worth. -/
noncomputable def Tryd.pinned : Pinned := { name := "ytpjddgmdgfjlfaadoor", sum := "b9ab6e2e9209a2ba4c2a2bcda788770c61778d7a6c367c478a4e97490fe60279", checked := Tryd.checked }
namespace Rows
def none {H : Type} : Left H := { results := [], args := [] }

/- WHAT THE LISTED PACKAGE-LEVEL VARIABLES READ AS WHEN THE CALL BEGINS. Each datum BY PROGRAM (the guide's laid-datum.mjs) off the statement by which the dump's own 'gosem.cut.vars' lays the variable. In a bare row this is a premise. The card (YtpjddgmdgfjlfaaDoorCards.lean) ties it to the program's text. -/
def laid_math_bits_deBruijn32tab {H : Type} : DataW H := .agg [.lit (.int .u8 0), .lit (.int .u8 1), .lit (.int .u8 28), .lit (.int .u8 2), .lit (.int .u8 29), .lit (.int .u8 14), .lit (.int .u8 24), .lit (.int .u8 3), .lit (.int .u8 30), .lit (.int .u8 22), .lit (.int .u8 20), .lit (.int .u8 15), .lit (.int .u8 25), .lit (.int .u8 17), .lit (.int .u8 4), .lit (.int .u8 8), .lit (.int .u8 31), .lit (.int .u8 27), .lit (.int .u8 13), .lit (.int .u8 23), .lit (.int .u8 21), .lit (.int .u8 19), .lit (.int .u8 16), .lit (.int .u8 7), .lit (.int .u8 26), .lit (.int .u8 12), .lit (.int .u8 18), .lit (.int .u8 6), .lit (.int .u8 11), .lit (.int .u8 5), .lit (.int .u8 10), .lit (.int .u8 9)]
def laid_math_bits_deBruijn64tab {H : Type} : DataW H := .agg [.lit (.int .u8 0), .lit (.int .u8 1), .lit (.int .u8 56), .lit (.int .u8 2), .lit (.int .u8 57), .lit (.int .u8 49), .lit (.int .u8 28), .lit (.int .u8 3), .lit (.int .u8 61), .lit (.int .u8 58), .lit (.int .u8 42), .lit (.int .u8 50), .lit (.int .u8 38), .lit (.int .u8 29), .lit (.int .u8 17), .lit (.int .u8 4), .lit (.int .u8 62), .lit (.int .u8 47), .lit (.int .u8 59), .lit (.int .u8 36), .lit (.int .u8 45), .lit (.int .u8 43), .lit (.int .u8 51), .lit (.int .u8 22), .lit (.int .u8 53), .lit (.int .u8 39), .lit (.int .u8 33), .lit (.int .u8 30), .lit (.int .u8 24), .lit (.int .u8 18), .lit (.int .u8 12), .lit (.int .u8 5), .lit (.int .u8 63), .lit (.int .u8 55), .lit (.int .u8 48), .lit (.int .u8 27), .lit (.int .u8 60), .lit (.int .u8 41), .lit (.int .u8 37), .lit (.int .u8 16), .lit (.int .u8 46), .lit (.int .u8 35), .lit (.int .u8 44), .lit (.int .u8 21), .lit (.int .u8 52), .lit (.int .u8 32), .lit (.int .u8 23), .lit (.int .u8 11), .lit (.int .u8 54), .lit (.int .u8 26), .lit (.int .u8 40), .lit (.int .u8 15), .lit (.int .u8 34), .lit (.int .u8 20), .lit (.int .u8 31), .lit (.int .u8 10), .lit (.int .u8 25), .lit (.int .u8 14), .lit (.int .u8 19), .lit (.int .u8 9), .lit (.int .u8 13), .lit (.int .u8 8), .lit (.int .u8 7), .lit (.int .u8 6)]
def laid_internal_strconv_uint64pow10 {H : Type} : DataW H := .agg [.lit (.int .u64 1), .lit (.int .u64 10), .lit (.int .u64 100), .lit (.int .u64 1000), .lit (.int .u64 10000), .lit (.int .u64 100000), .lit (.int .u64 1000000), .lit (.int .u64 10000000), .lit (.int .u64 100000000), .lit (.int .u64 1000000000), .lit (.int .u64 10000000000), .lit (.int .u64 100000000000), .lit (.int .u64 1000000000000), .lit (.int .u64 10000000000000), .lit (.int .u64 100000000000000), .lit (.int .u64 1000000000000000), .lit (.int .u64 10000000000000000), .lit (.int .u64 100000000000000000), .lit (.int .u64 1000000000000000000), .lit (.int .u64 10000000000000000000)]

/-- 'liverylaw06.SolveAll': WHATEVER THE INPUT: true; the input reads as it did. -/
def solveAllSpec : ChangeSpec := { name := "solveAll", fn := fun _ => fun
  | [d] => { results := [.lit (.bool true)], args := [d] }
  | _ => none }
def solveAllRow : OpenClaim := { program := "ytpjddgmdgfjlfaadoor", sum := "b9ab6e2e9209a2ba4c2a2bcda788770c61778d7a6c367c478a4e97490fe60279", func := "livery/liverylaw06.SolveAll", spec := "solveAll", unfollowed := true, recurses := true, named := ["internal/strconv.uint64pow10", "math/bits.deBruijn32tab", "math/bits.deBruijn64tab"], plainKeys := false, apart := false, laid := [("math/bits.deBruijn32tab", laid_math_bits_deBruijn32tab), ("math/bits.deBruijn64tab", laid_math_bits_deBruijn64tab), ("internal/strconv.uint64pow10", laid_internal_strconv_uint64pow10)] }
def SolveAllSaid : Prop := solveAllRow.holds Tryd.pinned (OpenSpec.ofChange solveAllSpec)

/-- ITS FALSE NEIGHBOUR: 'it returns false'. Refute it at one input. -/
def solveAllWrong : ChangeSpec := { name := "solveAll", fn := fun _ => fun
  | [d] => { results := [.lit (.bool false)], args := [d] }
  | _ => none }
def SolveAllWrongFalsely : Prop := solveAllRow.holds Tryd.pinned (OpenSpec.ofChange solveAllWrong)

/-- 'liverylaw06.SolveHas': WHATEVER THE INPUT: true; the input reads as it did. -/
def solveHasSpec : ChangeSpec := { name := "solveHas", fn := fun _ => fun
  | [d1, d2, d3] => { results := [.lit (.bool true)], args := [d1, d2, d3] }
  | _ => none }
def solveHasRow : OpenClaim := { program := "ytpjddgmdgfjlfaadoor", sum := "b9ab6e2e9209a2ba4c2a2bcda788770c61778d7a6c367c478a4e97490fe60279", func := "livery/liverylaw06.SolveHas", spec := "solveHas", unfollowed := true, recurses := true, named := ["internal/strconv.uint64pow10", "math/bits.deBruijn32tab", "math/bits.deBruijn64tab"], plainKeys := false, apart := false, laid := [("math/bits.deBruijn32tab", laid_math_bits_deBruijn32tab), ("math/bits.deBruijn64tab", laid_math_bits_deBruijn64tab), ("internal/strconv.uint64pow10", laid_internal_strconv_uint64pow10)] }
def SolveHasSaid : Prop := solveHasRow.holds Tryd.pinned (OpenSpec.ofChange solveHasSpec)

/-- ITS FALSE NEIGHBOUR: 'it returns false'. Refute it at one input. -/
def solveHasWrong : ChangeSpec := { name := "solveHas", fn := fun _ => fun
  | [d1, d2, d3] => { results := [.lit (.bool false)], args := [d1, d2, d3] }
  | _ => none }
def SolveHasWrongFalsely : Prop := solveHasRow.holds Tryd.pinned (OpenSpec.ofChange solveHasWrong)

/-- 'liverylaw06.SolveClosed': WHATEVER THE INPUT: true; the input reads as it did. -/
def solveClosedSpec : ChangeSpec := { name := "solveClosed", fn := fun _ => fun
  | [d] => { results := [.lit (.bool true)], args := [d] }
  | _ => none }
def solveClosedRow : OpenClaim := { program := "ytpjddgmdgfjlfaadoor", sum := "b9ab6e2e9209a2ba4c2a2bcda788770c61778d7a6c367c478a4e97490fe60279", func := "livery/liverylaw06.SolveClosed", spec := "solveClosed", unfollowed := true, recurses := true, named := ["internal/strconv.uint64pow10", "math/bits.deBruijn32tab", "math/bits.deBruijn64tab"], plainKeys := false, apart := false, laid := [("math/bits.deBruijn32tab", laid_math_bits_deBruijn32tab), ("math/bits.deBruijn64tab", laid_math_bits_deBruijn64tab), ("internal/strconv.uint64pow10", laid_internal_strconv_uint64pow10)] }
def SolveClosedSaid : Prop := solveClosedRow.holds Tryd.pinned (OpenSpec.ofChange solveClosedSpec)

/-- ITS FALSE NEIGHBOUR: 'it returns false'. Refute it at one input. -/
def solveClosedWrong : ChangeSpec := { name := "solveClosed", fn := fun _ => fun
  | [d] => { results := [.lit (.bool false)], args := [d] }
  | _ => none }
def SolveClosedWrongFalsely : Prop := solveClosedRow.holds Tryd.pinned (OpenSpec.ofChange solveClosedWrong)

/-- 'liverylaw06.SolveLeast': WHATEVER THE INPUT: true; the input reads as it did. -/
def solveLeastSpec : ChangeSpec := { name := "solveLeast", fn := fun _ => fun
  | [d1, d2] => { results := [.lit (.bool true)], args := [d1, d2] }
  | _ => none }
def solveLeastRow : OpenClaim := { program := "ytpjddgmdgfjlfaadoor", sum := "b9ab6e2e9209a2ba4c2a2bcda788770c61778d7a6c367c478a4e97490fe60279", func := "livery/liverylaw06.SolveLeast", spec := "solveLeast", unfollowed := true, recurses := true, named := ["internal/strconv.uint64pow10", "math/bits.deBruijn32tab", "math/bits.deBruijn64tab"], plainKeys := false, apart := false, laid := [("math/bits.deBruijn32tab", laid_math_bits_deBruijn32tab), ("math/bits.deBruijn64tab", laid_math_bits_deBruijn64tab), ("internal/strconv.uint64pow10", laid_internal_strconv_uint64pow10)] }
def SolveLeastSaid : Prop := solveLeastRow.holds Tryd.pinned (OpenSpec.ofChange solveLeastSpec)

/-- ITS FALSE NEIGHBOUR: 'it returns false'. Refute it at one input. -/
def solveLeastWrong : ChangeSpec := { name := "solveLeast", fn := fun _ => fun
  | [d1, d2] => { results := [.lit (.bool false)], args := [d1, d2] }
  | _ => none }
def SolveLeastWrongFalsely : Prop := solveLeastRow.holds Tryd.pinned (OpenSpec.ofChange solveLeastWrong)

/-- 'liverylaw06.SolveMore': WHATEVER THE INPUT: true; the input reads as it did. -/
def solveMoreSpec : ChangeSpec := { name := "solveMore", fn := fun _ => fun
  | [d1, d2] => { results := [.lit (.bool true)], args := [d1, d2] }
  | _ => none }
def solveMoreRow : OpenClaim := { program := "ytpjddgmdgfjlfaadoor", sum := "b9ab6e2e9209a2ba4c2a2bcda788770c61778d7a6c367c478a4e97490fe60279", func := "livery/liverylaw06.SolveMore", spec := "solveMore", unfollowed := true, recurses := true, named := ["internal/strconv.uint64pow10", "math/bits.deBruijn32tab", "math/bits.deBruijn64tab"], plainKeys := false, apart := false, laid := [("math/bits.deBruijn32tab", laid_math_bits_deBruijn32tab), ("math/bits.deBruijn64tab", laid_math_bits_deBruijn64tab), ("internal/strconv.uint64pow10", laid_internal_strconv_uint64pow10)] }
def SolveMoreSaid : Prop := solveMoreRow.holds Tryd.pinned (OpenSpec.ofChange solveMoreSpec)

/-- ITS FALSE NEIGHBOUR: 'it returns false'. Refute it at one input. -/
def solveMoreWrong : ChangeSpec := { name := "solveMore", fn := fun _ => fun
  | [d1, d2] => { results := [.lit (.bool false)], args := [d1, d2] }
  | _ => none }
def SolveMoreWrongFalsely : Prop := solveMoreRow.holds Tryd.pinned (OpenSpec.ofChange solveMoreWrong)

/-- 'liverylaw06.SolveOrder': WHATEVER THE INPUT: true; the input reads as it did. -/
def solveOrderSpec : ChangeSpec := { name := "solveOrder", fn := fun _ => fun
  | [d] => { results := [.lit (.bool true)], args := [d] }
  | _ => none }
def solveOrderRow : OpenClaim := { program := "ytpjddgmdgfjlfaadoor", sum := "b9ab6e2e9209a2ba4c2a2bcda788770c61778d7a6c367c478a4e97490fe60279", func := "livery/liverylaw06.SolveOrder", spec := "solveOrder", unfollowed := true, recurses := true, named := ["internal/strconv.uint64pow10", "math/bits.deBruijn32tab", "math/bits.deBruijn64tab"], plainKeys := false, apart := false, laid := [("math/bits.deBruijn32tab", laid_math_bits_deBruijn32tab), ("math/bits.deBruijn64tab", laid_math_bits_deBruijn64tab), ("internal/strconv.uint64pow10", laid_internal_strconv_uint64pow10)] }
def SolveOrderSaid : Prop := solveOrderRow.holds Tryd.pinned (OpenSpec.ofChange solveOrderSpec)

/-- ITS FALSE NEIGHBOUR: 'it returns false'. Refute it at one input. -/
def solveOrderWrong : ChangeSpec := { name := "solveOrder", fn := fun _ => fun
  | [d] => { results := [.lit (.bool false)], args := [d] }
  | _ => none }
def SolveOrderWrongFalsely : Prop := solveOrderRow.holds Tryd.pinned (OpenSpec.ofChange solveOrderWrong)

/- THE SECOND FORM. 'bulk': how many values and letters a reading holds, each counted each time it is reached (what is shared counts as often as it is met; a slice's spare places count too). A statement '..UptoSaid' is the law's where the arguments, and the package variables that the reading takes, are together of bulk at most 1048576: NARROWER than '..Said'. Prove '..Said' where nothing that the law and all that it calls make is longer than what came in: it says more and counts as full. Else prove '..UptoSaid'. A law counts once. -/
mutual
def uptoBulk {H : Type} : DataW H → Nat
  | .lit (.string bytes) => bytes.length + 1
  | .lit _ => 1
  | .nil => 1
  | .ptr d => uptoBulk d + 1
  | .slice elems spare => uptoBulkAll elems + uptoBulkAll spare + 1
  | .agg parts => uptoBulkAll parts + 1
  | .iface _ d => uptoBulk d + 1
  | .map entries => uptoBulkEntries entries + 1
  | .held _ => 1
def uptoBulkAll {H : Type} : List (DataW H) → Nat
  | [] => 0
  | d :: r => uptoBulk d + uptoBulkAll r
def uptoBulkEntries {H : Type} : List (Lit × DataW H) → Nat
  | [] => 0
  | x :: r => uptoBulkEntry x + uptoBulkEntries r
def uptoBulkEntry {H : Type} : Lit × DataW H → Nat
  | (.string bytes, d) => bytes.length + uptoBulk d + 1
  | (_, d) => uptoBulk d + 1
 end
def uptoSmall : (H : Type) → List (DataW H) → Bool := fun _ ds => decide (uptoBulkAll ds ≤ 1048576)
def OpenSpec.upto (s : _root_.Go.ChangeSpec) : _root_.Go.OpenSpec := { _root_.Go.OpenSpec.ofChange s with cond := some uptoSmall }

/-- 'liverylaw06.SolveAll', WHERE WHAT IT READS IS OF BULK AT MOST 1048576: true; the input reads as it did. -/
def solveAllUptoRow : OpenClaim := { program := "ytpjddgmdgfjlfaadoor", sum := "b9ab6e2e9209a2ba4c2a2bcda788770c61778d7a6c367c478a4e97490fe60279", func := "livery/liverylaw06.SolveAll", spec := "solveAll", unfollowed := true, recurses := true, named := ["internal/strconv.uint64pow10", "math/bits.deBruijn32tab", "math/bits.deBruijn64tab"], plainKeys := false, apart := false, laid := [("math/bits.deBruijn32tab", laid_math_bits_deBruijn32tab), ("math/bits.deBruijn64tab", laid_math_bits_deBruijn64tab), ("internal/strconv.uint64pow10", laid_internal_strconv_uint64pow10)], narrowed := true }
def SolveAllUptoSaid : Prop := solveAllUptoRow.holds Tryd.pinned (OpenSpec.upto solveAllSpec)

/-- 'liverylaw06.SolveHas', WHERE WHAT IT READS IS OF BULK AT MOST 1048576: true; the input reads as it did. -/
def solveHasUptoRow : OpenClaim := { program := "ytpjddgmdgfjlfaadoor", sum := "b9ab6e2e9209a2ba4c2a2bcda788770c61778d7a6c367c478a4e97490fe60279", func := "livery/liverylaw06.SolveHas", spec := "solveHas", unfollowed := true, recurses := true, named := ["internal/strconv.uint64pow10", "math/bits.deBruijn32tab", "math/bits.deBruijn64tab"], plainKeys := false, apart := false, laid := [("math/bits.deBruijn32tab", laid_math_bits_deBruijn32tab), ("math/bits.deBruijn64tab", laid_math_bits_deBruijn64tab), ("internal/strconv.uint64pow10", laid_internal_strconv_uint64pow10)], narrowed := true }
def SolveHasUptoSaid : Prop := solveHasUptoRow.holds Tryd.pinned (OpenSpec.upto solveHasSpec)

/-- 'liverylaw06.SolveClosed', WHERE WHAT IT READS IS OF BULK AT MOST 1048576: true; the input reads as it did. -/
def solveClosedUptoRow : OpenClaim := { program := "ytpjddgmdgfjlfaadoor", sum := "b9ab6e2e9209a2ba4c2a2bcda788770c61778d7a6c367c478a4e97490fe60279", func := "livery/liverylaw06.SolveClosed", spec := "solveClosed", unfollowed := true, recurses := true, named := ["internal/strconv.uint64pow10", "math/bits.deBruijn32tab", "math/bits.deBruijn64tab"], plainKeys := false, apart := false, laid := [("math/bits.deBruijn32tab", laid_math_bits_deBruijn32tab), ("math/bits.deBruijn64tab", laid_math_bits_deBruijn64tab), ("internal/strconv.uint64pow10", laid_internal_strconv_uint64pow10)], narrowed := true }
def SolveClosedUptoSaid : Prop := solveClosedUptoRow.holds Tryd.pinned (OpenSpec.upto solveClosedSpec)

/-- 'liverylaw06.SolveLeast', WHERE WHAT IT READS IS OF BULK AT MOST 1048576: true; the input reads as it did. -/
def solveLeastUptoRow : OpenClaim := { program := "ytpjddgmdgfjlfaadoor", sum := "b9ab6e2e9209a2ba4c2a2bcda788770c61778d7a6c367c478a4e97490fe60279", func := "livery/liverylaw06.SolveLeast", spec := "solveLeast", unfollowed := true, recurses := true, named := ["internal/strconv.uint64pow10", "math/bits.deBruijn32tab", "math/bits.deBruijn64tab"], plainKeys := false, apart := false, laid := [("math/bits.deBruijn32tab", laid_math_bits_deBruijn32tab), ("math/bits.deBruijn64tab", laid_math_bits_deBruijn64tab), ("internal/strconv.uint64pow10", laid_internal_strconv_uint64pow10)], narrowed := true }
def SolveLeastUptoSaid : Prop := solveLeastUptoRow.holds Tryd.pinned (OpenSpec.upto solveLeastSpec)

/-- 'liverylaw06.SolveMore', WHERE WHAT IT READS IS OF BULK AT MOST 1048576: true; the input reads as it did. -/
def solveMoreUptoRow : OpenClaim := { program := "ytpjddgmdgfjlfaadoor", sum := "b9ab6e2e9209a2ba4c2a2bcda788770c61778d7a6c367c478a4e97490fe60279", func := "livery/liverylaw06.SolveMore", spec := "solveMore", unfollowed := true, recurses := true, named := ["internal/strconv.uint64pow10", "math/bits.deBruijn32tab", "math/bits.deBruijn64tab"], plainKeys := false, apart := false, laid := [("math/bits.deBruijn32tab", laid_math_bits_deBruijn32tab), ("math/bits.deBruijn64tab", laid_math_bits_deBruijn64tab), ("internal/strconv.uint64pow10", laid_internal_strconv_uint64pow10)], narrowed := true }
def SolveMoreUptoSaid : Prop := solveMoreUptoRow.holds Tryd.pinned (OpenSpec.upto solveMoreSpec)

/-- 'liverylaw06.SolveOrder', WHERE WHAT IT READS IS OF BULK AT MOST 1048576: true; the input reads as it did. -/
def solveOrderUptoRow : OpenClaim := { program := "ytpjddgmdgfjlfaadoor", sum := "b9ab6e2e9209a2ba4c2a2bcda788770c61778d7a6c367c478a4e97490fe60279", func := "livery/liverylaw06.SolveOrder", spec := "solveOrder", unfollowed := true, recurses := true, named := ["internal/strconv.uint64pow10", "math/bits.deBruijn32tab", "math/bits.deBruijn64tab"], plainKeys := false, apart := false, laid := [("math/bits.deBruijn32tab", laid_math_bits_deBruijn32tab), ("math/bits.deBruijn64tab", laid_math_bits_deBruijn64tab), ("internal/strconv.uint64pow10", laid_internal_strconv_uint64pow10)], narrowed := true }
def SolveOrderUptoSaid : Prop := solveOrderUptoRow.holds Tryd.pinned (OpenSpec.upto solveOrderSpec)

end Rows
end Go.Proofs.YtpjddgmdgfjlfaaDoor
