/- A namespace for the walks that are laid by hand: it holds the plain truth True alone. -/
import Derived.Test.YtefpdneokkcmpaaProg
namespace Go.Proofs.Ytefpdneokkcmpaa.Given
theorem base : True := trivial
end Go.Proofs.Ytefpdneokkcmpaa.Given
