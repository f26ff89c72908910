-- PRINTED by print.py (a twelfth state) out of the translation. Not trusted: Lean checks it.
import Derived.Test.YtalghfnjelcpnaaHx0
import Derived.Test.YtalghfnjelcpnaaHx1
import Derived.Test.YtalghfnjelcpnaaHx2
import Derived.Test.YtalghfnjelcpnaaHx3
import Derived.Test.YtalghfnjelcpnaaHx4
import Derived.Test.YtalghfnjelcpnaaHx5
import Derived.Test.YtalghfnjelcpnaaHx6
import Derived.Test.YtalghfnjelcpnaaHx7
import Derived.Test.YtalghfnjelcpnaaHx8
namespace Go.Proofs.Ytalghfnjelcpnaa.Hx
open Go.RowKit Go.Proofs.YtalghfnjelcpnaaW.PrintWords Go.Proofs.YtalghfnjelcpnaaW.PrintLast Go.Proofs.YtalghfnjelcpnaaW.PrintMore
attribute [local go_sem] max2_int min2_int max_two min_two max_three min_three max_four min_four   -- for this text's walks alone
set_option linter.unusedVariables false
set_option linter.unusedSimpArgs false

end Go.Proofs.Ytalghfnjelcpnaa.Hx
