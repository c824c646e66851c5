/- The plain statement of SeqnoLess holds: for all numbers of their kinds the law's plain function answers true. -/
import Derived.Test.YtiaaelokbfjpdaaPureAll
namespace Go.Proofs.Ytiaaelokbfjpdaa.Pure
theorem SeqnoLess : S.fourinhandlaw02_SeqnoLess.Pure := Plain.SeqnoLess
end Go.Proofs.Ytiaaelokbfjpdaa.Pure
