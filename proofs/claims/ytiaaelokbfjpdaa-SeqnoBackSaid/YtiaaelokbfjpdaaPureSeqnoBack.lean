/- The plain statement of SeqnoBack holds: for all numbers of their kinds the law's plain function answers true. -/
import Derived.Test.YtiaaelokbfjpdaaPureAll
namespace Go.Proofs.Ytiaaelokbfjpdaa.Pure
theorem SeqnoBack : S.fourinhandlaw02_SeqnoBack.Pure := Plain.SeqnoBack
end Go.Proofs.Ytiaaelokbfjpdaa.Pure
