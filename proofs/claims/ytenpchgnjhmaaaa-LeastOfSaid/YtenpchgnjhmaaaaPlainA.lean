/- Plain laws of chapter 09: what may be, what is told, and what is met, by lists. -/
import Derived.Test.YtenpchgnjhmaaaaSx6
import Derived.Test.YtenpchgnjhmaaaaSx7
import Derived.Test.YtenpchgnjhmaaaaSx8
import Derived.Test.YtenpchgnjhmaaaaSx9
namespace Go.Proofs.Ytenpchgnjhmaaaa.Pure
open Go.RowKit Go.Proofs.Ytenpchgnjhmaaaa.S Go.Proofs.Ytenpchgnjhmaaaa.Given Go.Proofs.YtenpchgnjhmaaaaW.PrintWords Go.Proofs.YtenpchgnjhmaaaaW.PrintLast
set_option linter.unusedVariables false
theorem w64 (x : Int) (h1 : -9223372036854775808 ≤ x) (h2 : x ≤ 9223372036854775807) : wrap64 x = x := by
  unfold wrap64
  omega
theorem rd_at (l : List S38) (i : Nat) (h : i < l.length) : rd_T38 l (i : Int) = l[i] := by unfold rd_T38; simp [List.getD_eq_getElem?_getD, h]
/-- The points of a list, behind a time and a size. -/
def okL : Int → Int → List S38 → Bool
  | _, _, [] => true
  | lo, pr, p :: t => inB p.f0 lo 1152921504606846976 && (inB p.f1 (pr + 1) 1152921504606846976 && okL p.f0 p.f1 t)
def good (span : Int) (l : List S38) (high : Int) : Bool := inB span 1 1099511627776 && (decide (l.length ≤ 100) && (inB high 0 7 && okL 0 (-1) l))
theorem inB_iff {a lo hi : Int} : inB a lo hi = true ↔ lo ≤ a ∧ a ≤ hi := by unfold inB; simp
theorem may_loop (l : List S38) (hl : l.length ≤ 1000) : ∀ (m i k : Nat) (lo pr : Int), l.length - i = m → i ≤ l.length → m < k → -1 ≤ pr → pr ≤ 1152921504606846976 → least_May.l0 k l (l.length : Int) i lo pr = some (okL lo pr (l.drop i)) := by
  intro m
  induction m with
  | zero =>
    intro i k lo pr h1 h2 hk _ _
    obtain ⟨k, rfl⟩ : ∃ j, k = j + 1 := ⟨k - 1, by omega⟩
    obtain rfl : i = l.length := by omega
    rw [least_May.l0, if_neg (by omega), List.drop_length]
    rfl
  | succ m ih =>
    intro i k lo pr h1 h2 hk hp1 hp2
    obtain ⟨k, rfl⟩ : ∃ j, k = j + 1 := ⟨k - 1, by omega⟩
    have hi : i < l.length := by omega
    rw [least_May.l0, if_pos (by omega), if_pos (by omega), if_pos (by omega), rd_at l i hi, in_eq, Option.bind_some, in_eq, Option.bind_some, w64 (pr + 1) (by omega) (by omega), w64 (i + 1) (by omega) (by omega), List.drop_eq_getElem_cons hi]
    unfold okL
    by_cases c1 : inB l[i].f0 lo 1152921504606846976 = true
    · rw [if_pos c1, c1]
      by_cases c2 : inB l[i].f1 (pr + 1) 1152921504606846976 = true
      · rw [if_pos c2, c2]
        have c2' := inB_iff.1 c2
        have := ih (i + 1) k l[i].f0 l[i].f1 (by omega) (by omega) (by omega) (by omega) (by omega)
        rw [show ((i + 1 : Nat) : Int) = (i : Int) + 1 by omega] at this
        rw [this]
        simp
      · rw [if_neg c2, Bool.eq_false_iff.2 c2]
        simp
    · rw [if_neg c1, Bool.eq_false_iff.2 c1]
      simp
theorem may_eq (k : Nat) (hk : 103 ≤ k) (span : Int) (l : List S38) (high : Int) : least_May.f k span l high = some (good span l high) := by
  unfold least_May.f good
  obtain ⟨k, rfl⟩ : ∃ j, k = j + 1 := ⟨k - 1, by omega⟩
  rw [in_eq, Option.bind_some]
  by_cases c1 : inB span 1 1099511627776 = true
  · rw [if_pos c1, c1]
    by_cases c2 : (l.length : Int) > 100
    · rw [if_pos c2, least_May.j0, if_pos rfl, decide_eq_false (show ¬ l.length ≤ 100 by omega)]
      rfl
    · rw [if_neg c2, in_eq, Option.bind_some, decide_eq_true (show l.length ≤ 100 by omega), least_May.j0]
      cases c3 : inB high 0 7 with
      | false => rfl
      | true =>
        rw [if_neg (by simp)]
        have := may_loop l (by omega) l.length 0 k 0 (-1) (by omega) (by omega) (by omega) (by omega) (by omega)
        rw [List.drop_zero] at this
        exact this.trans (by simp)
  · rw [if_neg c1, Bool.eq_false_iff.2 c1, least_May.j0, if_pos rfl]
    rfl
/-- The time and the size ahead of a place. -/
def loAt (l : List S38) (i : Nat) : Int := if i = 0 then 0 else (rd_T38 l ((i : Int) - 1)).f0
def prAt (l : List S38) (i : Nat) : Int := if i = 0 then -1 else (rd_T38 l ((i : Int) - 1)).f1
theorem loAt_succ (l : List S38) (i : Nat) (h : i < l.length) : loAt l (i + 1) = l[i].f0 := by
  unfold loAt
  rw [if_neg (by omega), show ((i + 1 : Nat) : Int) - 1 = (i : Int) by omega, rd_at l i h]
theorem prAt_succ (l : List S38) (i : Nat) (h : i < l.length) : prAt l (i + 1) = l[i].f1 := by
  unfold prAt
  rw [if_neg (by omega), show ((i + 1 : Nat) : Int) - 1 = (i : Int) by omega, rd_at l i h]
theorem refmay_loop (l : List S38) (hl : l.length ≤ 1000) (span high : Int) : ∀ (m i k : Nat), l.length - i = m → i ≤ l.length → 2 * m < k → 0 ≤ loAt l i → loAt l i ≤ 1152921504606846976 → -1 ≤ prAt l i → prAt l i ≤ 1152921504606846976 → fourinhandref09_May.l0 k i span l high = some (okL (loAt l i) (prAt l i) (l.drop i)) := by
  intro m
  induction m with
  | zero =>
    intro i k h1 h2 hk _ _ _ _
    obtain ⟨k, rfl⟩ : ∃ j, k = j + 1 := ⟨k - 1, by omega⟩
    obtain rfl : i = l.length := by omega
    rw [fourinhandref09_May.l0, if_neg (by omega), List.drop_length]
    rfl
  | succ m ih =>
    intro i k h1 h2 hk hl1 hl2 hp1 hp2
    obtain ⟨k, rfl⟩ : ∃ j, k = j + 2 := ⟨k - 2, by omega⟩
    have hi : i < l.length := by omega
    have hrec := ih (i + 1) k (by omega) (by omega) (by omega)
    rw [loAt_succ l i hi, prAt_succ l i hi] at hrec
    rw [show ((i + 1 : Nat) : Int) = (i : Int) + 1 by omega] at hrec
    have hbad : ∀ a b c d e f, fourinhandref09_May.j2 (k + 1) a true b c d e f = some false := fun _ _ _ _ _ _ => by rw [fourinhandref09_May.j2, if_pos rfl]
    rw [fourinhandref09_May.l0, if_pos (by omega), if_pos (by omega), rd_at l i hi, List.drop_eq_getElem_cons hi]
    unfold okL
    unfold inB
    by_cases c1 : l[i].f0 < 0
    · rw [if_pos c1, hbad, decide_eq_false (show ¬ loAt l i ≤ l[i].f0 by omega)]
      rfl
    rw [if_neg c1]
    by_cases c2 : l[i].f0 > 1152921504606846976
    · rw [if_pos c2, hbad, decide_eq_false (show ¬ l[i].f0 ≤ 1152921504606846976 by omega)]
      simp
    rw [if_neg c2, decide_eq_true (show l[i].f0 ≤ 1152921504606846976 by omega)]
    by_cases c3 : l[i].f1 < 0
    · rw [if_pos c3, hbad, decide_eq_false (show ¬ prAt l i + 1 ≤ l[i].f1 by omega)]
      simp
    rw [if_neg c3]
    by_cases c4 : l[i].f1 > 1152921504606846976
    · rw [decide_eq_true c4, hbad, decide_eq_false (show ¬ l[i].f1 ≤ 1152921504606846976 by omega)]
      simp
    rw [decide_eq_false c4, fourinhandref09_May.j2, if_neg (by simp), decide_eq_true (show l[i].f1 ≤ 1152921504606846976 by omega), w64 (i + 1) (by omega) (by omega)]
    have hrec' := hrec (by omega) (by omega) (by omega) (by omega)
    by_cases c5 : (i : Int) > 0
    · rw [if_pos c5, w64 (i - 1) (by omega) (by omega), if_pos (by omega), if_pos (by omega)]
      have e1 : (rd_T38 l ((i : Int) - 1)).f0 = loAt l i := by unfold loAt; rw [if_neg (by omega)]
      have e2 : (rd_T38 l ((i : Int) - 1)).f1 = prAt l i := by unfold prAt; rw [if_neg (by omega)]
      rw [e1, e2]
      by_cases c6 : l[i].f0 < loAt l i
      · rw [if_pos c6, decide_eq_false (show ¬ loAt l i ≤ l[i].f0 by omega)]
        simp
      rw [if_neg c6, decide_eq_true (show loAt l i ≤ l[i].f0 by omega)]
      by_cases c7 : l[i].f1 ≤ prAt l i
      · rw [if_pos c7, decide_eq_false (show ¬ prAt l i + 1 ≤ l[i].f1 by omega)]
        simp
      rw [if_neg c7, decide_eq_true (show prAt l i + 1 ≤ l[i].f1 by omega), hrec']
      simp
    · rw [if_neg c5]
      obtain rfl : i = 0 := by omega
      rw [show loAt l 0 = 0 from rfl, show prAt l 0 = -1 from rfl, decide_eq_true (show (0 : Int) ≤ l[0].f0 by omega), hrec']
      have c8 : (-1 : Int) + 1 ≤ l[0].f1 := by omega
      simp [c8]
      intro _
      omega
theorem refmay_eq (k : Nat) (hk : 203 ≤ k) (span : Int) (l : List S38) (high : Int) : fourinhandref09_May.f k span l high = some (good span l high) := by
  unfold fourinhandref09_May.f good inB
  obtain ⟨k, rfl⟩ : ∃ j, k = j + 1 := ⟨k - 1, by omega⟩
  have hbad : ∀ a b c, fourinhandref09_May.j0 (k + 1) true a b c = some false := fun _ _ _ => by rw [fourinhandref09_May.j0, if_pos rfl]
  by_cases c1 : span < 1
  · rw [if_pos c1, hbad, decide_eq_false (show ¬ 1 ≤ span by omega)]
    rfl
  rw [if_neg c1, decide_eq_true (show 1 ≤ span by omega)]
  by_cases c2 : span > 1099511627776
  · rw [if_pos c2, hbad, decide_eq_false (show ¬ span ≤ 1099511627776 by omega)]
    rfl
  rw [if_neg c2, decide_eq_true (show span ≤ 1099511627776 by omega)]
  by_cases c3 : (l.length : Int) > 100
  · rw [if_pos c3, hbad, decide_eq_false (show ¬ l.length ≤ 100 by omega)]
    rfl
  rw [if_neg c3, decide_eq_true (show l.length ≤ 100 by omega)]
  by_cases c4 : high < 0
  · rw [if_pos c4, hbad, decide_eq_false (show ¬ 0 ≤ high by omega)]
    rfl
  rw [if_neg c4, decide_eq_true (show 0 ≤ high by omega)]
  by_cases c5 : high > 7
  · rw [decide_eq_true c5, hbad, decide_eq_false (show ¬ high ≤ 7 by omega)]
    rfl
  rw [decide_eq_false c5, decide_eq_true (show high ≤ 7 by omega), fourinhandref09_May.j0, if_neg (by simp)]
  have := refmay_loop l (by omega) span high l.length 0 k (by omega) (by omega) (by omega) (Int.le_refl 0) (show (0 : Int) ≤ 1152921504606846976 by omega) (show (-1 : Int) ≤ -1 by omega) (show (-1 : Int) ≤ 1152921504606846976 by omega)
  rw [List.drop_zero, show loAt l 0 = 0 from rfl, show prAt l 0 = -1 from rfl] at this
  exact this.trans (by simp)
theorem of_eq (span : Int) (l : List S38) (high at_ : Int) : least_Of.f span l high at_ = some (if good span l high && inB at_ 0 1152921504606846976 then ofL span at_ l else (0, false)) := by
  unfold least_Of.f
  rw [may_eq 110 (by omega), Option.bind_some]
  cases good span l high <;> cases inB at_ 0 1152921504606846976 <;> simp
theorem refof_loop (l : List S38) (hl : l.length ≤ 1000) (span high at_ : Int) (h1 : 0 ≤ at_) (h2 : at_ ≤ 1152921504606846976) : ∀ (m i k : Nat), l.length - i = m → i ≤ l.length → 2 * m + 1 < k → fourinhandref09_Of.l0 k at_ true i span l high = some (ofL span at_ (l.drop i)) := by
  intro m
  induction m with
  | zero =>
    intro i k e1 e2 hk
    obtain ⟨k, rfl⟩ : ∃ j, k = j + 2 := ⟨k - 2, by omega⟩
    obtain rfl : i = l.length := by omega
    rw [fourinhandref09_Of.l0, if_neg (by omega), fourinhandref09_Of.j1, if_neg (by simp), List.drop_length]
    rfl
  | succ m ih =>
    intro i k e1 e2 hk
    obtain ⟨k, rfl⟩ : ∃ j, k = j + 2 := ⟨k - 2, by omega⟩
    have hi : i < l.length := by omega
    rw [fourinhandref09_Of.l0, if_pos (by omega), if_pos rfl, if_pos (by omega), decide_eq_true h2, fourinhandref09_Of.j1, if_pos rfl, if_pos (by omega), if_pos (by omega), rd_at l i hi, List.drop_eq_getElem_cons hi]
    unfold ofL cntL
    by_cases c : wrap64 (at_ - l[i].f0) ≤ span
    · rw [if_pos c, List.filter_cons_of_pos (by unfold cnts; simp; omega)]
    · rw [if_neg c, List.filter_cons_of_neg (by unfold cnts; simp; omega), w64 (i + 1) (by omega) (by omega)]
      have := ih (i + 1) k (by omega) (by omega) (by omega)
      rw [show ((i + 1 : Nat) : Int) = (i : Int) + 1 by omega] at this
      rw [this]
      rfl
theorem refof_no (k : Nat) (hk : 2 ≤ k) (l : List S38) (span high at_ : Int) (m : Bool) (h : (m && inB at_ 0 1152921504606846976) = false) : fourinhandref09_Of.l0 k at_ m 0 span l high = some (0, false) := by
  obtain ⟨k, rfl⟩ : ∃ j, k = j + 2 := ⟨k - 2, by omega⟩
  have hb : ∀ (b : Bool), b = false → fourinhandref09_Of.j1 (k + 1) at_ m 0 b span l high = some (0, false) := fun b e => by rw [e, fourinhandref09_Of.j1, if_neg (by simp)]
  rw [fourinhandref09_Of.l0]
  split
  · split
    · rename_i hm
      split
      · refine hb _ ?_
        unfold inB at h
        rw [hm] at h
        simp only [Bool.true_and, Bool.and_eq_false_iff, decide_eq_false_iff_not] at h
        rw [decide_eq_false_iff_not]
        omega
      · exact hb _ rfl
    · exact hb _ rfl
  · exact hb _ rfl
theorem refof_eq (k : Nat) (hk : 203 ≤ k) (span : Int) (l : List S38) (high at_ : Int) : fourinhandref09_Of.f k span l high at_ = some (if good span l high && inB at_ 0 1152921504606846976 then ofL span at_ l else (0, false)) := by
  unfold fourinhandref09_Of.f
  rw [refmay_eq k hk, Option.bind_some]
  cases h : good span l high && inB at_ 0 1152921504606846976 with
  | false => rw [refof_no k (by omega) l span high at_ _ h]; rfl
  | true =>
    simp only [Bool.and_eq_true] at h
    have hg := h.1
    have hi := inB_iff.1 h.2
    unfold good at hg
    simp only [Bool.and_eq_true, decide_eq_true_eq] at hg
    have := refof_loop l (by omega) span high at_ hi.1 hi.2 l.length 0 k (by omega) (by omega) (by omega)
    rw [List.drop_zero] at this
    rw [h.1]
    exact this.trans (by rw [if_pos]; simp [h.2])
end Go.Proofs.Ytenpchgnjhmaaaa.Pure
