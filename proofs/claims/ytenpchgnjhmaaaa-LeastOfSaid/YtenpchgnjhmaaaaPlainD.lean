/- Plain laws of chapter 09: what is told behind many that were met. -/
import Derived.Test.YtenpchgnjhmaaaaPlainC
namespace Go.Proofs.Ytenpchgnjhmaaaa.Pure
open Go.RowKit Go.Proofs.Ytenpchgnjhmaaaa.S Go.Proofs.Ytenpchgnjhmaaaa.Given Go.Proofs.YtenpchgnjhmaaaaW.PrintWords Go.Proofs.YtenpchgnjhmaaaaW.PrintLast
set_option linter.unusedVariables false
def stepM (span a : Int) (o : Option Int) (p : S38) : Option Int := if a - p.f0 ≤ span then some (match o with | none => p.f1 | some m => if p.f1 < m then p.f1 else m) else o
def mnF (span a : Int) (Q : List S38) : Option Int := Q.foldl (stepM span a) none
def stepW (span a : Int) (w : Int) (p : S38) : Int := if a - p.f0 ≤ span then (if p.f1 < w then p.f1 else w) else w
def wfold (span a w : Int) (Q : List S38) : Int := Q.foldl (stepW span a) w
def comb : Option Int → Int → Int
  | none, n => n
  | some m, n => if m < n then m else n
def conv : Option Int → Int × Bool
  | none => (0, false)
  | some m => (m, true)
theorem mnF_snoc (span a : Int) (Q : List S38) (q : S38) : mnF span a (Q ++ [q]) = stepM span a (mnF span a Q) q := by
  unfold mnF
  rw [List.foldl_append]
  rfl
theorem step_comb (span a n : Int) (o : Option Int) (p : S38) : stepW span a (comb o n) p = comb (stepM span a o p) n := by
  unfold stepW stepM
  by_cases c : a - p.f0 ≤ span
  · rw [if_pos c, if_pos c]
    cases o with
    | none => rfl
    | some m =>
      show (if p.f1 < (if m < n then m else n) then p.f1 else (if m < n then m else n)) = (if (if p.f1 < m then p.f1 else m) < n then (if p.f1 < m then p.f1 else m) else n)
      repeat' split
      all_goals omega
  · rw [if_neg c, if_neg c]
theorem fold_comb (span a n : Int) : ∀ (Q : List S38) (o : Option Int), Q.foldl (stepW span a) (comb o n) = comb (Q.foldl (stepM span a) o) n
  | [], _ => rfl
  | p :: t, o => by
    rw [List.foldl_cons, List.foldl_cons, step_comb]
    exact fold_comb span a n t _
theorem wfold_eq (span a n : Int) (Q : List S38) : wfold span a n Q = comb (mnF span a Q) n := fold_comb span a n Q none
/-- What is told behind a meeting that adds, at any later time. -/
theorem of_more_later {span at_ a n : Int} {l : List S38} (hs : 0 ≤ span) (ha : 0 ≤ at_) (h1 : at_ ≤ a) (h2 : a ≤ 1152921504606846976) (h : okL 0 (-1) l = true) (hf : ∀ p ∈ l, p.f0 ≤ at_) (hlen : l.length ≤ 99) :
    ofL span a ((moreL span at_ n l).take 100) = (if a - at_ ≤ span then (if (ofL span a l).2 = true ∧ (ofL span a l).1 < n then (ofL span a l).1 else n, true) else (0, false)) := by
  have hl2 : (moreL span at_ n l).length ≤ 100 := by
    unfold moreL cntL
    have h3 := List.length_filter_le (cnts span at_) l
    have h4 := List.length_filter_le (fun p : S38 => decide (p.f1 < n)) (l.filter (cnts span at_))
    simp only [List.length_append, List.length_cons, List.length_nil]
    omega
  rw [List.take_of_length_le hl2]
  have hr : ∀ p ∈ l, 0 ≤ p.f0 ∧ p.f0 ≤ 1152921504606846976 := fun p hp => (okL_mem l _ _ h p hp).1
  have hcm : cntL span a (moreL span at_ n l) = (cntL span a l).filter (fun p : S38 => decide (p.f1 < n)) ++ (if a - at_ ≤ span then [⟨at_, n⟩] else []) := by
    unfold moreL cntL
    rw [List.filter_append]
    congr 1
    · rw [List.filter_filter, List.filter_filter, List.filter_filter]
      refine List.filter_congr (fun p hp => ?_)
      have e1 := cnts_iff (span := span) (at_ := a) (hr p hp) ⟨by omega, h2⟩
      have e2 := cnts_iff (span := span) (at_ := at_) (hr p hp) ⟨by omega, by omega⟩
      have := hf p hp
      cases x1 : cnts span a p <;> cases x2 : cnts span at_ p <;> cases decide (p.f1 < n) <;> simp
      rw [x1] at e1
      rw [x2] at e2
      have := e1.1 rfl
      have : ¬ (at_ - p.f0 ≤ span) := fun h => by simpa using e2.2 h
      omega
    · by_cases c : a - at_ ≤ span
      · rw [if_pos c, List.filter_cons_of_pos ((cnts_iff (p := ⟨at_, n⟩) ⟨ha, by show at_ ≤ 1152921504606846976; omega⟩ ⟨by omega, h2⟩).2 c)]
        rfl
      · rw [if_neg c, List.filter_cons_of_neg (fun h => c ((cnts_iff (p := ⟨at_, n⟩) ⟨ha, by show at_ ≤ 1152921504606846976; omega⟩ ⟨by omega, h2⟩).1 h))]
        rfl
  have hc := okL_filter (cnts span a) l _ _ h
  by_cases c : a - at_ ≤ span
  · rw [if_pos c] at hcm ⊢
    cases hq : cntL span a l with
    | nil =>
      have e : ofL span a l = (0, false) := by unfold ofL; rw [hq]
      rw [hq] at hcm
      unfold ofL
      rw [hcm, hq]
      rfl
    | cons q t =>
      have e : ofL span a l = (q.f1, true) := by unfold ofL; rw [hq]
      rw [e]
      rw [hq] at hcm
      have hc' : okL 0 (-1) (q :: t) = true := by
        have := hc
        unfold cntL at hq
        rwa [hq] at this
      by_cases c2 : q.f1 < n
      · rw [if_pos ⟨rfl, c2⟩]
        rw [List.filter_cons_of_pos (by simpa using c2), List.cons_append] at hcm
        unfold ofL
        rw [hcm]
      · rw [if_neg (fun h => c2 h.2)]
        have e2 : (q :: t).filter (fun p : S38 => decide (p.f1 < n)) = [] := by
          rw [List.filter_eq_nil_iff]
          intro p hp
          rcases List.mem_cons.1 hp with rfl | hp
          · simpa using c2
          · have := (okL_mem t _ _ (okL_cons.1 hc').2.2 p hp).2.1
            simp
            omega
        rw [e2, List.nil_append] at hcm
        unfold ofL
        rw [hcm]
  · rw [if_neg c] at hcm ⊢
    have e0 : cntL span a l = [] := by
      unfold cntL
      rw [List.filter_eq_nil_iff]
      intro p hp hcp
      have := (cnts_iff (hr p hp) ⟨by omega, h2⟩).1 hcp
      have := hf p hp
      omega
    rw [e0] at hcm
    unfold ofL
    rw [hcm]
    rfl
/-- What the points tell, and those that were met. -/
structure Tells (span at_ : Int) (L P : List S38) (high : Int) (i : Nat) : Prop where
  good : good span L high = true
  below : ∀ p ∈ L, p.f0 ≤ at_
  len : L.length ≤ i
  at0 : 0 ≤ at_
  pts : ∀ p ∈ P, 0 ≤ p.f0 ∧ p.f0 ≤ at_
  told : ∀ a, at_ ≤ a → a ≤ 1152921504606846976 → ofL span a L = conv (mnF span a P)
theorem Tells.more {span at_ at2 n high : Int} {L P : List S38} {i : Nat} (h : Tells span at_ L P high i) (hi : i ≤ 90) (h1 : at_ ≤ at2) (h2 : at2 ≤ 1152921504606846976) (cm : metOK (Pure.good span L high) L at2 n = true) (h8 : highM span at2 n high L ≠ 8) :
    Tells span at2 ((moreL span at2 n L).take 100) (P ++ [⟨at2, n⟩]) (highM span at2 n high L) (i + 1) := by
  have g := good_iff.1 h.good
  have hb : ∀ p ∈ L, p.f0 ≤ at2 := fun p hp => by have := h.below p hp; omega
  refine ⟨good_more cm h8, ?_, ?_, by have := h.at0; omega, ?_, ?_⟩
  · intro p hp
    have hp2 := List.mem_of_mem_take hp
    unfold moreL cntL at hp2
    rcases List.mem_append.1 hp2 with hp3 | hp3
    · exact hb p (List.mem_filter.1 (List.mem_filter.1 hp3).1).1
    · obtain rfl : p = ⟨at2, n⟩ := by simpa using hp3
      exact Int.le_refl _
  · have h3 := List.length_filter_le (cnts span at2) L
    have h4 := List.length_filter_le (fun p : S38 => decide (p.f1 < n)) (L.filter (cnts span at2))
    have := h.len
    unfold moreL cntL
    simp only [List.length_take, List.length_append, List.length_cons, List.length_nil]
    omega
  · intro p hp
    rcases List.mem_append.1 hp with hp | hp
    · have := h.pts p hp
      omega
    · obtain rfl : p = ⟨at2, n⟩ := by simpa using hp
      have := h.at0
      exact ⟨by show 0 ≤ at2; omega, Int.le_refl _⟩
  · intro a ha1 ha2
    rw [of_more_later (by omega) (by have := h.at0; omega) ha1 ha2 g.2.2.2 hb (by have := h.len; omega), mnF_snoc, h.told a (by omega) ha2]
    unfold stepM
    by_cases c : a - at2 ≤ span
    · rw [if_pos c, if_pos (show a - (⟨at2, n⟩ : S38).f0 ≤ span from c)]
      cases mnF span a P with
      | none => rfl
      | some m =>
        show ((if true = true ∧ m < n then m else n), true) = ((if n < m then n else m), true)
        by_cases c1 : m < n
        · rw [if_pos ⟨rfl, c1⟩, if_neg (by omega)]
        · rw [if_neg (fun h => c1 h.2)]
          by_cases c2 : n < m
          · rw [if_pos c2]
          · rw [if_neg c2, show n = m by omega]
    · rw [if_neg c, if_neg (show ¬ a - (⟨at2, n⟩ : S38).f0 ≤ span from c)]
      have e0 : mnF span a P = none := by
        have := h.told a (by omega) ha2
        have e1 : ofL span a L = (0, false) := by
          have : cntL span a L = [] := by
            unfold cntL
            rw [List.filter_eq_nil_iff]
            intro p hp hcp
            have := (cnts_iff (okL_mem L _ _ g.2.2.2 p hp).1 ⟨by have := h.at0; omega, ha2⟩).1 hcp
            have := hb p hp
            omega
          unfold ofL
          rw [this]
        rw [e1] at this
        cases hm : mnF span a P with
        | none => rfl
        | some m => rw [hm] at this; cases this
      rw [e0]
      rfl
theorem Tells.turn {span at_ at2 n high : Int} {L P : List S38} {i : Nat} (h : Tells span at_ L P high i) (h1 : at_ ≤ at2) (h2 : at2 ≤ 1152921504606846976) (cm : metOK (Pure.good span L high) L at2 n = true) :
    Tells span at2 [⟨at2, n⟩] [⟨at2, n⟩] 0 (i + 1) := by
  have g := good_iff.1 h.good
  have h0 := h.at0
  refine ⟨good_turn cm, ?_, by simp, by omega, ?_, ?_⟩
  · intro p hp
    obtain rfl : p = ⟨at2, n⟩ := by simpa using hp
    exact Int.le_refl _
  · intro p hp
    obtain rfl : p = ⟨at2, n⟩ := by simpa using hp
    exact ⟨by show 0 ≤ at2; omega, Int.le_refl _⟩
  · intro a ha1 ha2
    have hh : mnF span a [⟨at2, n⟩] = if a - at2 ≤ span then some n else none := rfl
    rw [hh]
    have ci := cnts_iff (span := span) (at_ := a) (p := ⟨at2, n⟩) ⟨by show 0 ≤ at2; omega, h2⟩ ⟨by omega, ha2⟩
    unfold ofL cntL
    by_cases c : a - at2 ≤ span
    · rw [List.filter_cons_of_pos (ci.2 c), if_pos c]
      rfl
    · rw [List.filter_cons_of_neg (fun h => c (ci.1 h)), if_neg c]
      rfl
theorem Tells.ok {span at_ at2 n high : Int} {L P : List S38} {i : Nat} (h : Tells span at_ L P high i) (h1 : at_ ≤ at2) (h2 : at2 ≤ 1152921504606846976) (hn : 0 ≤ n) (hn2 : n ≤ 1152921504606846976) : metOK (Pure.good span L high) L at2 n = true := by
  have h0 := h.at0
  refine metOK_iff.2 ⟨h.good, inB_iff.2 ⟨by omega, h2⟩, inB_iff.2 ⟨hn, hn2⟩, ?_⟩
  unfold Given.ahead
  by_cases c : 0 < L.length
  · rw [decide_eq_true c, Bool.true_and, decide_eq_false_iff_not, show ((L.length : Int) - 1) = ((L.length - 1 : Nat) : Int) by omega, rd_at L (L.length - 1) (by omega)]
    have := h.below L[L.length - 1] (List.getElem_mem _)
    omega
  · rw [decide_eq_false c]
    rfl
end Go.Proofs.Ytenpchgnjhmaaaa.Pure
