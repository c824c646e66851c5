/- The plain statement of SeqnoNear holds: for all numbers of their kinds the law's plain function answers true. -/
import Derived.Test.YtiaaelokbfjpdaaPureAll
namespace Go.Proofs.Ytiaaelokbfjpdaa.Pure
theorem SeqnoNear : S.fourinhandlaw02_SeqnoNear.Pure := Plain.SeqnoNear
end Go.Proofs.Ytiaaelokbfjpdaa.Pure
