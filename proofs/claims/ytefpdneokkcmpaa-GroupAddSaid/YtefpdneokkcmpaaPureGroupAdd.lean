/- One delay more is the last one, the others are as they were, but that the first of sixteen goes: the plain law. -/
import Derived.Test.YtefpdneokkcmpaaPlainA
import Derived.Test.YtefpdneokkcmpaaSx15
namespace Go.Proofs.Ytefpdneokkcmpaa.Given
open Go.RowKit Go.Proofs.YtefpdneokkcmpaaW.PrintWords Go.Proofs.YtefpdneokkcmpaaW.PrintLast Go.Proofs.YtefpdneokkcmpaaW.PrintMore Go.Proofs.Ytefpdneokkcmpaa.S
set_option linter.unusedVariables false
theorem may_add {l : List Int} {d : Int} (h : mayB l = true) (hd : outB d = false) (n : Nat) (hn : l.length + 1 - n ≤ 16) : mayB ((l ++ [d]).drop n) = true := by
  unfold mayB at h ⊢
  simp only [Bool.and_eq_true, decide_eq_true_eq, Bool.not_eq_true', List.any_eq_false] at h ⊢
  refine ⟨by rw [List.length_drop]; simp only [List.length_append, List.length_cons, List.length_nil]; omega, fun x hx => ?_⟩
  have := List.mem_of_mem_drop hx
  rw [List.mem_append] at this
  rcases this with h1 | h1
  · exact h.2 x h1
  · rw [List.mem_singleton] at h1
    rw [h1, hd]
    simp
theorem GroupAdd (l : List Int) (d : Int) (hl : l.length ≤ 9223372036854775807) : fourinhandlaw17_GroupAdd.f 400 l d = some true := by
  unfold fourinhandlaw17_GroupAdd.f fourinhandlaw17_awake.f
  simp only [Option.bind_some, if_true]
  by_cases c0 : (l.length : Int) > 40
  · rw [decide_eq_true c0, fourinhandlaw17_GroupAdd.j0, if_pos rfl]
  · rw [decide_eq_false c0, fourinhandlaw17_GroupAdd.j0, if_neg (by simp), add_eq, may_eq]
    simp only [Option.bind_some]
    by_cases c1 : mayB l = true
    · obtain ⟨_, hlen⟩ := may_ok c1
      rw [if_pos c1]
      by_cases c2 : outB d = true
      · -- what may not be
        have ha : addB l d = ([], 1) := by unfold addB; rw [if_neg (by rw [c2]; simp)]
        rw [ha]
        have hj : fourinhandlaw17_GroupAdd.j1 399 l d [] 1 false = some true := by
          rw [fourinhandlaw17_GroupAdd.j1, if_neg (by omega), if_neg (by simp)]
          rfl
        unfold outB at c2
        by_cases c3 : d ≥ 0
        · rw [if_pos c3]
          by_cases c4 : d ≤ 262144
          · rw [decide_eq_false (by omega), decide_eq_false (by omega)] at c2
            cases c2
          · rw [decide_eq_false c4]
            exact hj
        · rw [if_neg c3]
          exact hj
      · replace c2 := Bool.eq_false_iff.mpr c2
        have ha : addB l d = ((l ++ [d]).drop (l.length + 1 - 16), 0) := by unfold addB; rw [if_pos (by rw [c1, c2]; rfl)]
        rw [ha]
        have hd : 0 ≤ d ∧ d ≤ 262144 := by
          unfold outB at c2
          simp at c2
          omega
        rw [if_pos hd.1, decide_eq_true hd.2]
        have hm := may_add c1 c2 (l.length + 1 - 16) (by omega)
        have hx : ((l ++ [d]).drop (l.length + 1 - 16)).length = l.length + 1 - (l.length + 1 - 16) := by rw [List.length_drop]; simp
        have hlast : ∀ h, ((l ++ [d]).drop (l.length + 1 - 16))[l.length - (l.length + 1 - 16)]'h = d := by
          intro h
          rw [List.getElem_drop, List.getElem_append_right (by omega)]
          simp
        have htk : ((l ++ [d]).drop (l.length + 1 - 16)).take (l.length - (l.length + 1 - 16)) = l.drop (l.length + 1 - 16) := by
          rw [List.drop_append_of_le_length (by omega), List.take_append_of_le_length (by rw [List.length_drop]; omega), List.take_of_length_le (by rw [List.length_drop]; omega)]
        generalize (l ++ [d]).drop (l.length + 1 - 16) = X at *
        show fourinhandlaw17_GroupAdd.j1 399 l d X 0 true = some true
        rw [fourinhandlaw17_GroupAdd.j1, if_pos rfl]
        have hwX : wrap64 ((X.length : Int) - 1) = ((l.length - (l.length + 1 - 16) : Nat) : Int) := by
          rw [w64 _ (by omega) (by omega)]
          omega
        rw [hwX, rd_at X _ (by omega), hlast, Int.toNat_natCast, htk]
        by_cases c5 : (l.length : Int) = 16
        · rw [if_pos c5, if_pos rfl, if_pos (by rw [w64 ((l.length : Int) + 1) (by omega) (by omega), w64 _ (by omega) (by omega)]; omega), if_pos (by omega), if_pos (by omega), if_pos rfl, if_pos (by omega), if_pos (by omega), show l.length + 1 - 16 = 1 by omega]
          rw [ints_eq 398 _ _ (by rw [List.length_drop]; omega) (by rw [List.length_drop]; omega), decide_eq_true rfl]
          simp only [Option.bind_some, if_true, may_eq, hm]
        · rw [if_neg c5, if_pos rfl, if_pos (by rw [w64 ((l.length : Int) + 1) (by omega) (by omega), w64 _ (by omega) (by omega)]; omega), if_pos (by omega), if_pos (by omega), if_pos rfl, if_pos (by omega), if_pos (by omega), show l.length + 1 - 16 = 0 by omega]
          rw [ints_eq 398 _ _ (by rw [List.length_drop]; omega) (by rw [List.length_drop]; omega), decide_eq_true rfl]
          simp only [Option.bind_some, if_true, may_eq, hm]
    · have ha : addB l d = ([], 1) := by unfold addB; rw [if_neg (by simp [Bool.eq_false_iff.mpr c1])]
      rw [if_neg c1, ha]
      show fourinhandlaw17_GroupAdd.j1 399 l d [] 1 false = some true
      rw [fourinhandlaw17_GroupAdd.j1, if_neg (by omega), if_neg (by simp)]
      rfl
end Go.Proofs.Ytefpdneokkcmpaa.Given
