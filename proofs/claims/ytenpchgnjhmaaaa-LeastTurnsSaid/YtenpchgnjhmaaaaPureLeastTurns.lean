import Derived.Test.YtenpchgnjhmaaaaPlainC
import Derived.Test.YtenpchgnjhmaaaaSx12
namespace Go.Proofs.Ytenpchgnjhmaaaa.Pure
open Go.RowKit Go.Proofs.Ytenpchgnjhmaaaa.S Go.Proofs.Ytenpchgnjhmaaaa.Given Go.Proofs.YtenpchgnjhmaaaaW.PrintWords Go.Proofs.YtenpchgnjhmaaaaW.PrintLast
theorem LeastTurns (span : Int) (l : List S38) (high at_ n : Int) : fourinhandlaw09_LeastTurns.f 400 span l high at_ n = some true := by
  unfold fourinhandlaw09_LeastTurns.f
  rw [awake_eq 400 (by omega), Option.bind_some, if_pos rfl, fourinhandlaw09_LeastTurns.j0]
  by_cases c : (l.length : Int) > 200
  · rw [decide_eq_true c, if_pos rfl]
  rw [decide_eq_false c, if_neg (by simp), met_eq, Option.bind_some]
  by_cases cm : metOK (good span l high) l at_ n = true
  case neg =>
    rw [metR_no cm]
    rfl
  obtain ⟨hg, ha, hn, hah⟩ := metOK_iff.1 cm
  have g := good_iff.1 hg
  have hof : (if good span l high && inB at_ 0 1152921504606846976 then ofL span at_ l else (0, false)) = ofL span at_ l := by rw [hg, ha]; rfl
  by_cases c8 : highM span at_ n high l = 8
  · rw [metR_turn cm c8]
    rw [of_eq, Option.bind_some, hof]
    have hfar : (ofL span at_ l).2 = true ∧ wrap64 (2 * (ofL span at_ l).1) < n ∧ wrap64 (high + 1) = 8 := by
      unfold highM farB at c8
      by_cases c : ((ofL span at_ l).2 && decide (wrap64 (2 * (ofL span at_ l).1) < n)) = true
      · rw [if_pos c] at c8
        simp only [Bool.and_eq_true, decide_eq_true_eq] at c
        exact ⟨c.1, c.2, c8⟩
      · rw [if_neg c] at c8
        omega
    have h7 : high = 7 := by
      have := hfar.2.2
      rw [w64 (high + 1) (by omega) (by omega)] at this
      omega
    rw [if_pos rfl, if_pos hfar.1, if_pos rfl, if_pos hfar.2.1, if_pos h7]
    have e : rd_T38 [(⟨at_, n⟩ : S38)] 0 = ⟨at_, n⟩ := rfl
    simp [e]
  · have hgm := good_more cm c8
    rw [metR_more cm c8]
    rw [of_eq, Option.bind_some, hof, if_pos rfl]
    have hmay : least_May.f 399 span ((moreL span at_ n l).take 100) (highM span at_ n high l) = some true := by rw [may_eq 399 (by omega), hgm]
    by_cases c2 : (ofL span at_ l).2 = true
    · rw [if_pos c2, if_neg (by simp)]
      by_cases c3 : n > wrap64 (2 * (ofL span at_ l).1)
      · have hh : highM span at_ n high l = wrap64 (high + 1) := by
          unfold highM farB
          rw [c2, decide_eq_true (show wrap64 (2 * (ofL span at_ l).1) < n from c3)]
          rfl
        have hh2 : highM span at_ n high l > 0 := by
          rw [hh, w64 (high + 1) (by omega) (by omega)]
          omega
        rw [decide_eq_true c3, decide_eq_true hh2, if_pos (by rfl), if_pos c3, if_pos hh, if_pos rfl, hmay]
        rfl
      · have hh : highM span at_ n high l = 0 := by
          unfold highM farB
          rw [c2, decide_eq_false (show ¬ wrap64 (2 * (ofL span at_ l).1) < n from c3)]
          rfl
        rw [decide_eq_false c3, decide_eq_false (show ¬ highM span at_ n high l > 0 by omega), if_pos (by rfl), if_neg c3, if_pos rfl, hmay]
        rfl
    · have hh : highM span at_ n high l = 0 := by
        unfold highM farB
        rw [Bool.eq_false_iff.2 c2]
        rfl
      rw [if_neg c2, if_neg (by simp), decide_eq_false (show ¬ highM span at_ n high l > 0 by omega), if_pos (by rfl), if_pos rfl, hmay]
      rfl
end Go.Proofs.Ytenpchgnjhmaaaa.Pure
