import Derived.Test.YtenpchgnjhmaaaaPlainB
import Derived.Test.YtenpchgnjhmaaaaSx10
namespace Go.Proofs.Ytenpchgnjhmaaaa.Pure
open Go.RowKit Go.Proofs.Ytenpchgnjhmaaaa.S Go.Proofs.Ytenpchgnjhmaaaa.Given Go.Proofs.YtenpchgnjhmaaaaW.PrintWords Go.Proofs.YtenpchgnjhmaaaaW.PrintLast
theorem LeastTells (span : Int) (l : List S38) (high at_ n : Int) : fourinhandlaw09_LeastTells.f 400 span l high at_ n = some true := by
  unfold fourinhandlaw09_LeastTells.f
  rw [awake_eq 400 (by omega), Option.bind_some, if_pos rfl, fourinhandlaw09_LeastTells.j0]
  by_cases c : (l.length : Int) > 200
  · rw [decide_eq_true c, if_pos rfl]
  · rw [decide_eq_false c, if_neg (by simp)]
    unfold fourinhandref09_Own.f
    have hs1 := same_eq 399 (metR span l high at_ n).1 (metR span l high at_ n).2.2.1 (metR span l high at_ n).2.1 (by have := metR_len span l high at_ n; omega) (by have := metR_len span l high at_ n; omega)
    have hs2 := same_eq 399 span high l (by omega) (by omega)
    rw [if_pos (by simp; omega), Option.bind_some, met_eq, Option.bind_some, refmet_eq 399 (by omega), Option.bind_some, hs1, Option.bind_some, of_eq, Option.bind_some, refof_eq 399 (by omega), Option.bind_some]
    simp only [List.nil_append, hs2, Option.bind_some, may_eq 399 (show 103 ≤ 399 by omega), refmay_eq 399 (show 203 ≤ 399 by omega), beq_self_eq_true, if_true]
end Go.Proofs.Ytenpchgnjhmaaaa.Pure
