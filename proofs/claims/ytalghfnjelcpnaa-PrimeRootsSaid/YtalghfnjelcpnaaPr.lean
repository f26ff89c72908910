-- PRINTED by print.py (a twelfth state) out of the translation. Not trusted: Lean checks it.
import Derived.Test.YtalghfnjelcpnaaPr0
import Derived.Test.YtalghfnjelcpnaaPr1
import Derived.Test.YtalghfnjelcpnaaPr2
import Derived.Test.YtalghfnjelcpnaaPr3
import Derived.Test.YtalghfnjelcpnaaPr4
import Derived.Test.YtalghfnjelcpnaaPr5
import Derived.Test.YtalghfnjelcpnaaPr6
import Derived.Test.YtalghfnjelcpnaaPr7
import Derived.Test.YtalghfnjelcpnaaPr8
import Derived.Test.YtalghfnjelcpnaaPr9
import Derived.Test.YtalghfnjelcpnaaPr10
namespace Go.Proofs.Ytalghfnjelcpnaa.Pr
open Go.RowKit Go.Proofs.YtalghfnjelcpnaaW.PrintWords Go.Proofs.YtalghfnjelcpnaaW.PrintLast Go.Proofs.YtalghfnjelcpnaaW.PrintMore
attribute [local go_sem] max2_int min2_int max_two min_two max_three min_three max_four min_four   -- for this text's walks alone
set_option linter.unusedVariables false
set_option linter.unusedSimpArgs false

end Go.Proofs.Ytalghfnjelcpnaa.Pr
