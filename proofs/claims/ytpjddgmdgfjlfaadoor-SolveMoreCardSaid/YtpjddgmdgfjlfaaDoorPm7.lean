/- The proof's own texts, joined: part 7. No conditions. -/
import Derived.Below
import Derived.Deep.Draws
import Derived.Deep.AppendLies
import Derived.Maps.AppendAt
import Derived.OwnWalk
import Derived.Laws.BytesArg
import Derived.Laws.MakeOwn
import Derived.Laws.OwnMore
import Derived.Deep.OwnRows
import Derived.Tactics
import Derived.Lib.ConvBytes
import Derived.Laws.Slices
import Derived.WalkKit
import Derived.KernelRfl
import Derived.RowKit3
import Derived.Deep.LoopGhost
import Derived.Deep.QuietTactic
import Derived.BigQuiet
import Derived.WideLaws
import Derived.Deep.DeepCutAuto
import Derived.Deep.CutBlock
import Derived.Deep.RegionHeld3
import Derived.Laws.Rows
import Derived.Lib.AppendStr
import Derived.ArgAppend
import Derived.Laws.IdiomCopy
import Derived.RowKit
import Derived.Test.YtpjddgmdgfjlfaaDoorProg
import Derived.OrdersHeld
import Derived.Laws.BitsLemmas
import Derived.Maps.OwnSet
import Derived.Maps.RangeRun
import Derived.Maps.Range
import Derived.Carry
import Derived.Sort.Walk0
import Derived.Laws.Strings
import Derived.Lib.SlicesS
import Derived.Laws.StructEq
import Derived.DeepKeys4
import Derived.WalkSpells
import Derived.WalkLawsBesides
import Derived.Lib.Hide
import Derived.Deep.RegionWith
import Derived.RegionTactic
import Derived.ChangeAlike
import Derived.Deep.RegionLaw
import Derived.Lib.SmallJoins
import Derived.Sort.Grow
import Derived.Shelf.SlSortCmp.NoneTotal
import Derived.Shelf.SlicesG.Cmp
import Derived.Ground.SlgcProg
import Derived.Shelf.SlSortCmp.WholeK
import Derived.Shelf.SlicesE.Clone
import Derived.Ground.SlsfProg
import Derived.Ground.SlgnProg
import Derived.StillTailTactics
import Derived.Outline
import Derived.Laws.RangeAny
import Derived.Laws.Closers25
import Derived.Shelf.GgSortFunc.InsertionK
import Derived.Test.YtpjddgmdgfjlfaaDoorPm0
import Derived.Test.YtpjddgmdgfjlfaaDoorPm1
import Derived.Test.YtpjddgmdgfjlfaaDoorPm2
import Derived.Test.YtpjddgmdgfjlfaaDoorPm3
import Derived.Test.YtpjddgmdgfjlfaaDoorPm4
import Derived.Test.YtpjddgmdgfjlfaaDoorPm5
import Derived.Test.YtpjddgmdgfjlfaaDoorPm6
section
namespace Go.Proofs.YtpjddgmdgfjlfaaDoor.Pr
open Go.RowKit Go.Proofs.YtpjddgmdgfjlfaaDoorW.PrintWords Go.Proofs.YtpjddgmdgfjlfaaDoorW.PrintLast Go.Proofs.YtpjddgmdgfjlfaaDoorW.PrintMore
attribute [local go_sem] QaF QaD max_two min_two QaB QaA QaE QaC
set_option linter.unusedVariables false
set_option linter.unusedSimpArgs false

end Go.Proofs.YtpjddgmdgfjlfaaDoor.Pr
end
section
namespace Go.Proofs.YtpjddgmdgfjlfaaDoor.Pr
open Go.RowKit Go.Proofs.YtpjddgmdgfjlfaaDoorW.PrintWords Go.Proofs.YtpjddgmdgfjlfaaDoorW.PrintLast Go.Proofs.YtpjddgmdgfjlfaaDoorW.PrintMore
attribute [local go_sem] QaF QaD max_two min_two QaB QaA QaE QaC
set_option linter.unusedVariables false
set_option linter.unusedSimpArgs false
attribute [local go_sem high] eqA33

end Go.Proofs.YtpjddgmdgfjlfaaDoor.Pr
end
section
namespace Go.Proofs.YtpjddgmdgfjlfaaDoor.Pr
open Go.RowKit Go.Proofs.YtpjddgmdgfjlfaaDoorW.PrintWords Go.Proofs.YtpjddgmdgfjlfaaDoorW.PrintLast Go.Proofs.YtpjddgmdgfjlfaaDoorW.PrintMore
attribute [local go_sem] QaF QaD max_two min_two QaB QaA QaE QaC
set_option linter.unusedVariables false
set_option linter.unusedSimpArgs false



end Go.Proofs.YtpjddgmdgfjlfaaDoor.Pr
end
