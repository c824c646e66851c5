/- A namespace for the walks that are laid by hand: it holds the plain truth True alone. -/
import Derived.Test.YtnfgcjeenjomgaaProg
namespace Go.Proofs.Ytnfgcjeenjomgaa.Given
theorem base : True := trivial
end Go.Proofs.Ytnfgcjeenjomgaa.Given
