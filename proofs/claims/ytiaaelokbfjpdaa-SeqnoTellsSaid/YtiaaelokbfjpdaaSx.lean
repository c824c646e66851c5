/- What the program's functions compute, as plain functions, and that they do: walks laid by a program of the session's. -/
import Derived.Test.YtiaaelokbfjpdaaSx0
import Derived.Test.YtiaaelokbfjpdaaSx1
import Derived.Test.YtiaaelokbfjpdaaSx2
import Derived.Test.YtiaaelokbfjpdaaSx3
namespace Go.Proofs.Ytiaaelokbfjpdaa.S
open Go.RowKit Go.Proofs.YtiaaelokbfjpdaaW.PrintWords Go.Proofs.YtiaaelokbfjpdaaW.PrintLast Go.Proofs.YtiaaelokbfjpdaaW.PrintMore
open Go.Proofs.Ytiaaelokbfjpdaa.Given
attribute [local go_sem] max2_int min2_int max_two min_two max_three min_three max_four min_four   -- for this text's walks alone
set_option linter.unusedVariables false
set_option linter.unusedSimpArgs false

end Go.Proofs.Ytiaaelokbfjpdaa.S
