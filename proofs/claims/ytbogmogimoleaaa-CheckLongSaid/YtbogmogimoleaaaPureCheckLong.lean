/- The plain statement of CheckLong holds: for all inputs of their kinds the law's plain function answers true. -/
import Derived.Test.YtbogmogimoleaaaPlainB
namespace Go.Proofs.Ytbogmogimoleaaa.Pure
theorem CheckLong : S.fourinhandlaw03_CheckLong.Pure := Plain.CheckLong
end Go.Proofs.Ytbogmogimoleaaa.Pure
