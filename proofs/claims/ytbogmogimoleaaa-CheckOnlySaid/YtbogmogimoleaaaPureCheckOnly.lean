/- The plain statement of CheckOnly holds: for all inputs of their kinds the law's plain function answers true. -/
import Derived.Test.YtbogmogimoleaaaPlainB
namespace Go.Proofs.Ytbogmogimoleaaa.Pure
theorem CheckOnly : S.fourinhandlaw03_CheckOnly.Pure := Plain.CheckOnly
end Go.Proofs.Ytbogmogimoleaaa.Pure
