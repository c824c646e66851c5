/- The plain statement of SeqnoParts holds: for all numbers of their kinds the law's plain function answers true. -/
import Derived.Test.YtiaaelokbfjpdaaPureAll
namespace Go.Proofs.Ytiaaelokbfjpdaa.Pure
theorem SeqnoParts : S.fourinhandlaw02_SeqnoParts.Pure := Plain.SeqnoParts
end Go.Proofs.Ytiaaelokbfjpdaa.Pure
