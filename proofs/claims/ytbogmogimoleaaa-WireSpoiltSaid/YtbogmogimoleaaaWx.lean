/- What the program's functions compute, as plain functions, and that they do: walks laid by a program of the session's. -/
import Derived.Test.YtbogmogimoleaaaWx0
import Derived.Test.YtbogmogimoleaaaWx1
import Derived.Test.YtbogmogimoleaaaWx2
import Derived.Test.YtbogmogimoleaaaWx3
import Derived.Test.YtbogmogimoleaaaWx4
import Derived.Test.YtbogmogimoleaaaWx5
import Derived.Test.YtbogmogimoleaaaWx6
import Derived.Test.YtbogmogimoleaaaWx7
namespace Go.Proofs.Ytbogmogimoleaaa.W
open Go.RowKit Go.Proofs.YtbogmogimoleaaaW.PrintWords Go.Proofs.YtbogmogimoleaaaW.PrintLast Go.Proofs.YtbogmogimoleaaaW.PrintMore
open Go.Proofs.Ytbogmogimoleaaa.Given
attribute [local go_sem] max2_int min2_int max_two min_two max_three min_three max_four min_four   -- for this text's walks alone
set_option linter.unusedVariables false
set_option linter.unusedSimpArgs false

end Go.Proofs.Ytbogmogimoleaaa.W
