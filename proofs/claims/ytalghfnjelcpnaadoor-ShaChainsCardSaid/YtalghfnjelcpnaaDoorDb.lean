-- PRINTED by print.py (a twelfth state) out of the translation. Not trusted: Lean checks it.
import Derived.Test.YtalghfnjelcpnaaDoorDb0
import Derived.Test.YtalghfnjelcpnaaDoorDb1
import Derived.Test.YtalghfnjelcpnaaDoorDb2
import Derived.Test.YtalghfnjelcpnaaDoorDb3
import Derived.Test.YtalghfnjelcpnaaDoorDb4
import Derived.Test.YtalghfnjelcpnaaDoorDb5
import Derived.Test.YtalghfnjelcpnaaDoorDb6
import Derived.Test.YtalghfnjelcpnaaDoorDb7
import Derived.Test.YtalghfnjelcpnaaDoorDb8
namespace Go.Proofs.YtalghfnjelcpnaaDoor.Db
open Go.RowKit Go.Proofs.YtalghfnjelcpnaaDoorW.PrintWords Go.Proofs.YtalghfnjelcpnaaDoorW.PrintLast Go.Proofs.YtalghfnjelcpnaaDoorW.PrintMore
attribute [local go_sem] max2_int min2_int max_two min_two max_three min_three max_four min_four   -- for this text's walks alone
set_option linter.unusedVariables false
set_option linter.unusedSimpArgs false

end Go.Proofs.YtalghfnjelcpnaaDoor.Db
