/- A namespace for the walks that are laid by hand: it holds the plain truth True alone. -/
import Derived.Test.YtenpchgnjhmaaaaProg
namespace Go.Proofs.Ytenpchgnjhmaaaa.Given
theorem base : True := trivial
end Go.Proofs.Ytenpchgnjhmaaaa.Given
