-- PRINTED by print.py (a twelfth state) out of the translation. Not trusted: Lean checks it.
import Derived.Test.YtalghfnjelcpnaaDoorTf0
import Derived.Test.YtalghfnjelcpnaaDoorTf1
import Derived.Test.YtalghfnjelcpnaaDoorTf2
import Derived.Test.YtalghfnjelcpnaaDoorTf3
import Derived.Test.YtalghfnjelcpnaaDoorTf4
import Derived.Test.YtalghfnjelcpnaaDoorTf5
import Derived.Test.YtalghfnjelcpnaaDoorTf6
import Derived.Test.YtalghfnjelcpnaaDoorTf7
import Derived.Test.YtalghfnjelcpnaaDoorTf8
import Derived.Test.YtalghfnjelcpnaaDoorTf9
namespace Go.Proofs.YtalghfnjelcpnaaDoor.Tf
open Go.RowKit Go.Proofs.YtalghfnjelcpnaaDoor Go.Proofs.YtalghfnjelcpnaaDoorW.PrintWords Go.Proofs.YtalghfnjelcpnaaDoorW.PrintLast Go.Proofs.YtalghfnjelcpnaaDoorW.PrintMore
attribute [local go_sem] max2_int min2_int max_two min_two max_three min_three max_four min_four   -- for this text's walks alone
set_option linter.unusedVariables false
set_option linter.unusedSimpArgs false

end Go.Proofs.YtalghfnjelcpnaaDoor.Tf
