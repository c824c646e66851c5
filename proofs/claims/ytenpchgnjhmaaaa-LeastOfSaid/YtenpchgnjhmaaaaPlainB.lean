/- Plain laws of chapter 09: what is met. -/
import Derived.Test.YtenpchgnjhmaaaaPlainA
namespace Go.Proofs.Ytenpchgnjhmaaaa.Pure
open Go.RowKit Go.Proofs.Ytenpchgnjhmaaaa.S Go.Proofs.Ytenpchgnjhmaaaa.Given Go.Proofs.YtenpchgnjhmaaaaW.PrintWords Go.Proofs.YtenpchgnjhmaaaaW.PrintLast
set_option linter.unusedVariables false
def metR (span : Int) (l : List S38) (high at_ n : Int) : Int × List S38 × Int × Bool × Int :=
  if metOK (good span l high) l at_ n = true then (if highM span at_ n high l = 8 then (span, [⟨at_, n⟩], 0, true, 0) else (span, (moreL span at_ n l).take 100, highM span at_ n high l, false, 0)) else (0, [], 0, false, 1)
theorem good_len {span : Int} {l : List S38} {high : Int} (h : good span l high = true) : l.length ≤ 100 := by
  unfold good at h
  simp only [Bool.and_eq_true, decide_eq_true_eq] at h
  exact h.2.1
theorem metOK_iff {m : Bool} {l : List S38} {a n : Int} : metOK m l a n = true ↔ m = true ∧ inB a 0 1152921504606846976 = true ∧ inB n 0 1152921504606846976 = true ∧ Given.ahead l a = false := by
  unfold metOK
  simp [and_assoc]
theorem met_eq (span : Int) (l : List S38) (high at_ n : Int) : least_Met.f span l high at_ n = some (metR span l high at_ n) := by
  unfold least_Met.f metR
  rw [may_eq 110 (by omega), Option.bind_some]
  by_cases c : metOK (good span l high) l at_ n = true
  · rw [if_pos c, if_pos c, if_pos (good_len (metOK_iff.1 c).1)]
    by_cases c8 : highM span at_ n high l = 8
    · rw [if_pos c8, if_pos c8]
    · rw [if_neg c8, if_neg c8]
  · rw [if_neg c, if_neg c]
theorem refmet_loop (l : List S38) (hl : l.length ≤ 100) (span high at_ n H : Int) : ∀ (m i k : Nat) (acc : List S38), l.length - i = m → i ≤ l.length → m < k → acc.length + m ≤ 100 →
    fourinhandref09_Met.l0 k at_ n (l.length : Int) H acc i span l high at_ n = some (span, (acc ++ ((cntL span at_ (l.drop i)).filter (fun p : S38 => decide (p.f1 < n)) ++ [(⟨at_, n⟩ : S38)])).take 100, H, false, 0) := by
  intro m
  induction m with
  | zero =>
    intro i k acc h1 h2 hk ha
    obtain ⟨k, rfl⟩ : ∃ j, k = j + 1 := ⟨k - 1, by omega⟩
    obtain rfl : i = l.length := by omega
    rw [fourinhandref09_Met.l0, if_neg (by omega), List.drop_length, show cntL span at_ [] = [] from rfl, List.filter_nil, List.nil_append]
    by_cases c : (acc.length : Int) < 100
    · rw [if_pos c, if_pos (by omega), List.take_of_length_le (by simp; omega)]
    · rw [if_neg c, List.take_append_of_le_length (by omega), List.take_of_length_le (by omega)]
  | succ m ih =>
    intro i k acc h1 h2 hk ha
    obtain ⟨k, rfl⟩ : ∃ j, k = j + 1 := ⟨k - 1, by omega⟩
    have hi : i < l.length := by omega
    have hrec := fun acc => ih (i + 1) k acc (by omega) (by omega) (by omega)
    rw [show ((i + 1 : Nat) : Int) = (i : Int) + 1 by omega] at hrec
    rw [fourinhandref09_Met.l0, if_pos (by omega), if_pos (by omega), if_pos (by omega), rd_at l i hi, List.drop_eq_getElem_cons hi, w64 (i + 1) (by omega) (by omega)]
    unfold cntL
    by_cases c : wrap64 (at_ - l[i].f0) ≤ span
    · rw [if_pos c, List.filter_cons_of_pos (by unfold cnts; simp; omega)]
      by_cases c2 : l[i].f1 < n
      · rw [if_pos c2, if_pos (by omega), hrec _ (by simp; omega), List.filter_cons_of_pos (by simpa using c2)]
        simp [cntL]
      · rw [if_neg c2, hrec _ (by omega), List.filter_cons_of_neg (by simpa using c2)]
        rfl
    · rw [if_neg c, List.filter_cons_of_neg (by unfold cnts; simp; omega), hrec _ (by omega)]
      rfl
theorem refmet_eq (k : Nat) (hk : 320 ≤ k) (span : Int) (l : List S38) (high at_ n : Int) : fourinhandref09_Met.f k span l high at_ n = some (metR span l high at_ n) := by
  obtain ⟨k, rfl⟩ : ∃ j, k = j + 4 := ⟨k - 4, by omega⟩
  unfold fourinhandref09_Met.f metR
  rw [refmay_eq (k + 4) (by omega), Option.bind_some]
  have hbad : fourinhandref09_Met.j0 (k + 4) at_ n true span l high = some (0, [], 0, false, 1) := by rw [fourinhandref09_Met.j0, if_pos rfl]
  have hno : ∀ {m : Bool}, ¬ (m = true ∧ inB at_ 0 1152921504606846976 = true ∧ inB n 0 1152921504606846976 = true ∧ Given.ahead l at_ = false) → ¬ metOK m l at_ n = true := fun h e => h (metOK_iff.1 e)
  by_cases cg : good span l high = true
  case neg => rw [if_neg cg, hbad, if_neg (hno (fun e => cg e.1))]
  rw [if_pos cg]
  by_cases c1 : at_ < 0
  · rw [if_pos c1, hbad, if_neg (hno (fun e => by have := inB_iff.1 e.2.1; omega))]
  rw [if_neg c1]
  by_cases c2 : at_ > 1152921504606846976
  · rw [if_pos c2, hbad, if_neg (hno (fun e => by have := inB_iff.1 e.2.1; omega))]
  rw [if_neg c2]
  by_cases c3 : n < 0
  · rw [if_pos c3, hbad, if_neg (hno (fun e => by have := inB_iff.1 e.2.2.1; omega))]
  rw [if_neg c3]
  by_cases c4 : n > 1152921504606846976
  · rw [decide_eq_true c4, hbad, if_neg (hno (fun e => by have := inB_iff.1 e.2.2.1; omega))]
  rw [decide_eq_false c4, fourinhandref09_Met.j0, if_neg (by simp)]
  have hlen := good_len cg
  have hat : inB at_ 0 1152921504606846976 = true := inB_iff.2 ⟨by omega, by omega⟩
  have hn : inB n 0 1152921504606846976 = true := inB_iff.2 ⟨by omega, by omega⟩
  have key : ∀ b, b = Given.ahead l at_ → fourinhandref09_Met.j1 (k + 3) at_ n (l.length : Int) b span l high = some (if metOK (good span l high) l at_ n = true then (if highM span at_ n high l = 8 then (span, [⟨at_, n⟩], 0, true, 0) else (span, (moreL span at_ n l).take 100, highM span at_ n high l, false, 0)) else (0, [], 0, false, 1)) := by
    intro b hb
    rw [fourinhandref09_Met.j1]
    cases b with
    | true => rw [if_pos rfl, if_neg (hno (fun e => by rw [← hb] at e; exact Bool.noConfusion e.2.2.2))]
    | false =>
      rw [if_neg (by simp), if_pos (metOK_iff.2 ⟨cg, hat, hn, hb.symm⟩), refof_eq (k + 2) (by omega), Option.bind_some, cg, hat]
      simp only [Bool.and_self, if_true]
      have hj3 : ∀ H, fourinhandref09_Met.j3 (k + 1) at_ n (l.length : Int) H span l high = some (if H = 8 then (span, [⟨at_, n⟩], 0, true, 0) else (span, (moreL span at_ n l).take 100, H, false, 0)) := by
        intro H
        rw [fourinhandref09_Met.j3]
        by_cases c8 : H = 8
        · rw [if_pos c8, if_pos c8]
        · rw [if_neg c8, if_neg c8]
          have := refmet_loop l hlen span high at_ n H l.length 0 k [] (by omega) (by omega) (by omega) (by simp; omega)
          rw [List.drop_zero, List.nil_append] at this
          exact this
      have hj2 : ∀ x, fourinhandref09_Met.j2 (k + 2) at_ n (l.length : Int) 0 x span l high = some (if (if x = true then wrap64 (high + 1) else 0) = 8 then (span, [⟨at_, n⟩], 0, true, 0) else (span, (moreL span at_ n l).take 100, (if x = true then wrap64 (high + 1) else 0), false, 0)) := by
        intro x
        rw [fourinhandref09_Met.j2]
        cases x with
        | true => rw [if_pos rfl, hj3]; rfl
        | false => rw [if_neg (by simp), hj3]; rfl
      unfold highM farB
      cases h2 : (ofL span at_ l).2 with
      | true => rw [if_pos rfl, hj2, Bool.true_and]
      | false => rw [if_neg (by simp), hj2, Bool.false_and]
  by_cases c5 : (l.length : Int) > 0
  · rw [if_pos c5, w64 ((l.length : Int) - 1) (by omega) (by omega), if_pos (by omega), if_pos (by omega)]
    refine key _ ?_
    unfold Given.ahead
    rw [decide_eq_true (show 0 < l.length by omega)]
    rfl
  · rw [if_neg c5]
    refine key _ ?_
    unfold Given.ahead
    rw [decide_eq_false (show ¬ 0 < l.length by omega)]
    rfl
theorem same_loop (l : List S38) (hl : l.length ≤ 1000) (s h : Int) : ∀ (m i k : Nat), l.length - i = m → i ≤ l.length → m < k → fourinhandref09_Same.l0 k i s l h s l h = some true := by
  intro m
  induction m with
  | zero =>
    intro i k h1 h2 hk
    obtain ⟨k, rfl⟩ : ∃ j, k = j + 1 := ⟨k - 1, by omega⟩
    rw [fourinhandref09_Same.l0, if_neg (by omega), if_pos rfl]
    simp
  | succ m ih =>
    intro i k h1 h2 hk
    obtain ⟨k, rfl⟩ : ∃ j, k = j + 1 := ⟨k - 1, by omega⟩
    have := ih (i + 1) k (by omega) (by omega) (by omega)
    rw [show ((i + 1 : Nat) : Int) = (i : Int) + 1 by omega] at this
    rw [fourinhandref09_Same.l0, if_pos (by omega), if_pos (by omega), if_pos (by omega), if_neg (by simp), w64 (i + 1) (by omega) (by omega)]
    exact this
theorem same_eq (k : Nat) (s h : Int) (l : List S38) (hl : l.length ≤ 1000) (hk : l.length < k) : fourinhandref09_Same.f k s l h s l h = some true := by
  unfold fourinhandref09_Same.f
  rw [if_pos rfl]
  exact same_loop l hl s h l.length 0 k (by omega) (by omega) hk
theorem awake_eq (k : Nat) (hk : 103 ≤ k) : fourinhandlaw09_awake.f k = some true := by
  unfold fourinhandlaw09_awake.f
  simp only [met_eq, of_eq, may_eq k hk, Option.bind_some]
  decide +kernel
theorem metR_len (span : Int) (l : List S38) (high at_ n : Int) : (metR span l high at_ n).2.1.length ≤ 100 := by
  unfold metR
  split
  · split
    · simp
    · simp only [List.length_take]
      omega
  · simp
end Go.Proofs.Ytenpchgnjhmaaaa.Pure
