/- The plain statement of CheckBack holds: for all inputs of their kinds the law's plain function answers true. -/
import Derived.Test.YtbogmogimoleaaaPlainB
namespace Go.Proofs.Ytbogmogimoleaaa.Pure
theorem CheckBack : S.fourinhandlaw03_CheckBack.Pure := Plain.CheckBack
end Go.Proofs.Ytbogmogimoleaaa.Pure
