/- What the program's functions compute, as plain functions, and that they do: walks laid by a program of the session's. -/
import Derived.Test.YtbogmogimoleaaaWx0
namespace Go.Proofs.Ytbogmogimoleaaa.W
open Go.RowKit Go.Proofs.YtbogmogimoleaaaW.PrintWords Go.Proofs.YtbogmogimoleaaaW.PrintLast Go.Proofs.YtbogmogimoleaaaW.PrintMore
open Go.Proofs.Ytbogmogimoleaaa.Given
attribute [local go_sem] max2_int min2_int max_two min_two max_three min_three max_four min_four   -- for this text's walks alone
set_option linter.unusedVariables false
set_option linter.unusedSimpArgs false

-- NOT PRINTED: function 10 (fourinhandlaw07_WireGets)

-- NOT PRINTED: function 11 (fourinhandlaw07_WireBack)

-- NOT PRINTED: function 12 (fourinhandlaw07_WireSpoilt)

-- NOT PRINTED: function 13 (fourinhandlaw07_WireLong)

end Go.Proofs.Ytbogmogimoleaaa.W
