import Derived.Test.YtenpchgnjhmaaaaPlainC
import Derived.Test.YtenpchgnjhmaaaaSx13
namespace Go.Proofs.Ytenpchgnjhmaaaa.Pure
open Go.RowKit Go.Proofs.Ytenpchgnjhmaaaa.S Go.Proofs.Ytenpchgnjhmaaaa.Given Go.Proofs.YtenpchgnjhmaaaaW.PrintWords Go.Proofs.YtenpchgnjhmaaaaW.PrintLast
theorem later_j0 (span : Int) (l : List S38) (high at_ more n : Int) (b : Bool) (h : b = false → good span l high = true ∧ 0 ≤ at_ ∧ at_ ≤ 1000000000 ∧ 0 ≤ more ∧ more ≤ 1000000000) : fourinhandlaw09_LeastLater.j0 400 at_ more n true b span l high = some true := by
  rw [fourinhandlaw09_LeastLater.j0]
  cases b with
  | true => rw [if_pos rfl]
  | false =>
    obtain ⟨hg, h1, h2, h3, h4⟩ := h rfl
    have g := good_iff.1 hg
    have ha : inB at_ 0 1152921504606846976 = true := inB_iff.2 ⟨by omega, by omega⟩
    have ha2 : inB (at_ + more) 0 1152921504606846976 = true := inB_iff.2 ⟨by omega, by omega⟩
    rw [if_neg (by simp), of_eq, Option.bind_some, w64 (at_ + more) (by omega) (by omega), of_eq, Option.bind_some, hg, ha, ha2]
    simp only [Bool.and_self, if_true]
    have hl := of_later (span := span) h1 (show at_ ≤ at_ + more by omega) (by omega) l 0 (-1) (by omega) g.2.2.2
    have key : fourinhandlaw09_LeastLater.j1 399 at_ n (ofL span at_ l).1 (ofL span at_ l).2 false span l high = some true := by
      rw [fourinhandlaw09_LeastLater.j1, if_neg (by simp), met_eq, Option.bind_some]
      by_cases cm : metOK (good span l high) l at_ n = true
      case neg =>
        rw [metR_no cm, of_eq]
        rfl
      by_cases c8 : highM span at_ n high l = 8
      · rw [metR_turn cm c8]
        rw [of_eq, Option.bind_some, good_turn cm, ha]
        rw [show (if (true && true) = true then ofL span at_ [⟨at_, n⟩] else ((0 : Int), false)) = (n, true) from of_own (by omega) ⟨by omega, by omega⟩]
        rw [if_pos rfl, if_pos rfl, if_pos (Int.le_refl n), if_pos rfl]
      · rw [metR_more cm c8]
        rw [of_eq, Option.bind_some, good_more cm c8, ha]
        rw [show (if (true && true) = true then ofL span at_ ((moreL span at_ n l).take 100) else ((0 : Int), false)) = _ from of_more (by omega) ⟨by omega, by omega⟩ g.2.2.2]
        rw [if_pos rfl, if_pos rfl]
        by_cases c : (ofL span at_ l).2 = true ∧ (ofL span at_ l).1 < n
        · rw [if_pos c, if_pos (by omega), if_neg (by simp), if_pos c.1, if_pos (Int.le_refl _)]
        · rw [if_neg c, if_pos (Int.le_refl _), if_neg (by simp)]
          by_cases c2 : (ofL span at_ l).2 = true
          · rw [if_pos c2, if_pos (by
              have : ¬ (ofL span at_ l).1 < n := fun h => c ⟨c2, h⟩
              omega)]
          · rw [if_neg c2]
            simp
    by_cases c1 : (ofL span (at_ + more) l).2 = true
    · have := hl c1
      rw [if_pos c1, if_pos this.1, decide_eq_false (show ¬ (ofL span (at_ + more) l).1 < (ofL span at_ l).1 by omega)]
      exact key
    · rw [if_neg c1]
      exact key
theorem LeastLater (span : Int) (l : List S38) (high at_ more n : Int) : fourinhandlaw09_LeastLater.f 400 span l high at_ more n = some true := by
  unfold fourinhandlaw09_LeastLater.f
  rw [awake_eq 400 (by omega), Option.bind_some, if_pos rfl]
  have bad := later_j0 span l high at_ more n true (fun h => by cases h)
  by_cases c : (l.length : Int) > 200
  · rw [if_pos c, bad]
  rw [if_neg c, may_eq 400 (by omega), Option.bind_some]
  by_cases cg : good span l high = true
  case neg => rw [if_neg cg, bad]
  rw [if_pos cg]
  by_cases c1 : at_ < 0
  · rw [if_pos c1, bad]
  rw [if_neg c1]
  by_cases c2 : more < 0
  · rw [if_pos c2, bad]
  rw [if_neg c2]
  by_cases c3 : at_ > 1000000000
  · rw [if_pos c3, bad]
  rw [if_neg c3]
  refine later_j0 _ _ _ _ _ _ _ (fun h => ?_)
  rw [decide_eq_false_iff_not] at h
  exact ⟨cg, by omega, by omega, by omega, by omega⟩
end Go.Proofs.Ytenpchgnjhmaaaa.Pure
