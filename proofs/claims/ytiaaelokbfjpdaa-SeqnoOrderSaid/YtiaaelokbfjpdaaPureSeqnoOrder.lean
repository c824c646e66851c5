/- The plain statement of SeqnoOrder holds: for all numbers of their kinds the law's plain function answers true. -/
import Derived.Test.YtiaaelokbfjpdaaPureAll
namespace Go.Proofs.Ytiaaelokbfjpdaa.Pure
theorem SeqnoOrder : S.fourinhandlaw02_SeqnoOrder.Pure := Plain.SeqnoOrder
end Go.Proofs.Ytiaaelokbfjpdaa.Pure
