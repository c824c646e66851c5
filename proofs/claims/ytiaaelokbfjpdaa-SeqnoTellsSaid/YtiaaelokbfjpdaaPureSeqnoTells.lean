/- The plain statement of SeqnoTells holds: for all numbers of their kinds the law's plain function answers true. -/
import Derived.Test.YtiaaelokbfjpdaaPureAll
namespace Go.Proofs.Ytiaaelokbfjpdaa.Pure
theorem SeqnoTells : S.fourinhandlaw02_SeqnoTells.Pure := Plain.SeqnoTells
end Go.Proofs.Ytiaaelokbfjpdaa.Pure
