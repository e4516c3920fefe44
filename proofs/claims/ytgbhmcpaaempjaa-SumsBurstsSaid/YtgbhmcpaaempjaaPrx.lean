-- Laid by wip/myprint.py (the kit's print.py with functions proved by hand put in): no print of print.sh. Not trusted: Lean checks it.
import Derived.Test.YtgbhmcpaaempjaaPrx0
import Derived.Test.YtgbhmcpaaempjaaPrx1
import Derived.Test.YtgbhmcpaaempjaaPrx2
import Derived.Test.YtgbhmcpaaempjaaPrx3
import Derived.Test.YtgbhmcpaaempjaaPrx4
import Derived.Test.YtgbhmcpaaempjaaPrx5
import Derived.Test.YtgbhmcpaaempjaaPrx6
import Derived.Test.YtgbhmcpaaempjaaPrx7
import Derived.Test.YtgbhmcpaaempjaaPrx8
namespace Go.Proofs.Ytgbhmcpaaempjaa.Pr
open Go.RowKit Go.Proofs.YtgbhmcpaaempjaaW.PrintWords Go.Proofs.YtgbhmcpaaempjaaW.PrintLast Go.Proofs.YtgbhmcpaaempjaaW.PrintMore
attribute [local go_sem] max2_int min2_int max_two min_two max_three min_three max_four min_four   -- for this text's walks alone
set_option linter.unusedVariables false
set_option linter.unusedSimpArgs false

end Go.Proofs.Ytgbhmcpaaempjaa.Pr
