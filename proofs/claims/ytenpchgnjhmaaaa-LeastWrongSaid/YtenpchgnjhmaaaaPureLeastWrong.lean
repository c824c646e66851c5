import Derived.Test.YtenpchgnjhmaaaaPlainB
import Derived.Test.YtenpchgnjhmaaaaSx14
namespace Go.Proofs.Ytenpchgnjhmaaaa.Pure
open Go.RowKit Go.Proofs.Ytenpchgnjhmaaaa.S Go.Proofs.Ytenpchgnjhmaaaa.Given Go.Proofs.YtenpchgnjhmaaaaW.PrintWords Go.Proofs.YtenpchgnjhmaaaaW.PrintLast
theorem metR_ok {span : Int} {l : List S38} {high at_ n : Int} (h : metOK (good span l high) l at_ n = true) : (metR span l high at_ n).2.2.2.2 = 0 := by
  unfold metR
  rw [if_pos h]
  split <;> rfl
theorem metR_no {span : Int} {l : List S38} {high at_ n : Int} (h : ¬ metOK (good span l high) l at_ n = true) : metR span l high at_ n = (0, [], 0, false, 1) := by
  unfold metR
  rw [if_neg h]
theorem LeastWrong (span : Int) (l : List S38) (high at_ n : Int) : fourinhandlaw09_LeastWrong.f 400 span l high at_ n = some true := by
  unfold fourinhandlaw09_LeastWrong.f
  rw [awake_eq 400 (by omega), Option.bind_some, if_pos rfl, fourinhandlaw09_LeastWrong.j0]
  by_cases c : (l.length : Int) > 200
  · rw [decide_eq_true c, if_pos rfl]
  · rw [decide_eq_false c, if_neg (by simp), met_eq, Option.bind_some, may_eq 399 (by omega), Option.bind_some]
    have bad : ¬ metOK (good span l high) l at_ n = true → metR span l high at_ n = (0, [], 0, false, 1) := metR_no
    have hno : ¬ (good span l high = true ∧ inB at_ 0 1152921504606846976 = true ∧ inB n 0 1152921504606846976 = true ∧ Given.ahead l at_ = false) → ¬ metOK (good span l high) l at_ n = true := fun h e => h (metOK_iff.1 e)
    by_cases cg : good span l high = true
    case neg =>
      rw [if_neg cg, bad (hno (fun e => cg e.1))]
      rfl
    rw [if_pos cg]
    by_cases c1 : at_ ≥ 0
    case neg => rw [if_neg c1, bad (hno (fun e => by have := inB_iff.1 e.2.1; omega))]; rfl
    rw [if_pos c1]
    by_cases c2 : at_ ≤ 1152921504606846976
    case neg => rw [if_neg c2, bad (hno (fun e => by have := inB_iff.1 e.2.1; omega))]; rfl
    rw [if_pos c2]
    by_cases c3 : n ≥ 0
    case neg => rw [if_neg c3, bad (hno (fun e => by have := inB_iff.1 e.2.2.1; omega))]; rfl
    rw [if_pos c3]
    by_cases c4 : n ≤ 1152921504606846976
    case neg => rw [if_neg c4, bad (hno (fun e => by have := inB_iff.1 e.2.2.1; omega))]; rfl
    rw [if_pos c4]
    have hat : inB at_ 0 1152921504606846976 = true := inB_iff.2 ⟨by omega, by omega⟩
    have hn : inB n 0 1152921504606846976 = true := inB_iff.2 ⟨by omega, by omega⟩
    by_cases c5 : (l.length : Int) = 0
    · rw [if_pos c5, metR_ok (metOK_iff.2 ⟨cg, hat, hn, by unfold Given.ahead; rw [decide_eq_false (show ¬ 0 < l.length by omega)]; rfl⟩)]
      rfl
    · rw [if_neg c5, w64 ((l.length : Int) - 1) (by omega) (by omega), if_pos (by omega), if_pos (by omega)]
      by_cases c6 : (rd_T38 l ((l.length : Int) - 1)).f0 ≤ at_
      · rw [decide_eq_true c6, metR_ok (metOK_iff.2 ⟨cg, hat, hn, by unfold Given.ahead; rw [decide_eq_false (show ¬ at_ < (rd_T38 l ((l.length : Int) - 1)).f0 by omega), Bool.and_false]⟩), if_pos c6]
        rfl
      · rw [decide_eq_false c6, bad (hno (fun e => by
          have h := e.2.2.2
          unfold Given.ahead at h
          rw [decide_eq_true (show 0 < l.length by omega), decide_eq_true (show at_ < (rd_T38 l ((l.length : Int) - 1)).f0 by omega)] at h
          cases h)), if_neg c6]
        rfl
end Go.Proofs.Ytenpchgnjhmaaaa.Pure
