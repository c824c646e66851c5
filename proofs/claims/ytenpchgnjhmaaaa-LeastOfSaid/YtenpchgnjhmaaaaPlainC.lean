/- Plain laws of chapter 09: what stays so behind a meeting. -/
import Derived.Test.YtenpchgnjhmaaaaPlainB
namespace Go.Proofs.Ytenpchgnjhmaaaa.Pure
open Go.RowKit Go.Proofs.Ytenpchgnjhmaaaa.S Go.Proofs.Ytenpchgnjhmaaaa.Given Go.Proofs.YtenpchgnjhmaaaaW.PrintWords Go.Proofs.YtenpchgnjhmaaaaW.PrintLast
set_option linter.unusedVariables false
theorem okL_cons {lo pr : Int} {p : S38} {t : List S38} : okL lo pr (p :: t) = true ↔ (lo ≤ p.f0 ∧ p.f0 ≤ 1152921504606846976) ∧ (pr + 1 ≤ p.f1 ∧ p.f1 ≤ 1152921504606846976) ∧ okL p.f0 p.f1 t = true := by
  show (inB p.f0 lo 1152921504606846976 && (inB p.f1 (pr + 1) 1152921504606846976 && okL p.f0 p.f1 t)) = true ↔ _
  rw [Bool.and_eq_true, Bool.and_eq_true, inB_iff, inB_iff]
theorem okL_mono {lo lo' pr pr' : Int} {l : List S38} (h : okL lo pr l = true) (h1 : lo' ≤ lo) (h2 : pr' ≤ pr) : okL lo' pr' l = true := by
  cases l with
  | nil => rfl
  | cons p t =>
    obtain ⟨a, b, c⟩ := okL_cons.1 h
    exact okL_cons.2 ⟨⟨by omega, a.2⟩, ⟨by omega, b.2⟩, c⟩
theorem okL_filter (q : S38 → Bool) : ∀ (l : List S38) (lo pr : Int), okL lo pr l = true → okL lo pr (l.filter q) = true
  | [], _, _, _ => rfl
  | p :: t, lo, pr, h => by
    obtain ⟨a, b, c⟩ := okL_cons.1 h
    have ih := okL_filter q t _ _ c
    by_cases hq : q p = true
    · rw [List.filter_cons_of_pos hq]
      exact okL_cons.2 ⟨a, b, ih⟩
    · rw [List.filter_cons_of_neg hq]
      exact okL_mono ih a.1 (by omega)
theorem okL_take : ∀ (k : Nat) (l : List S38) (lo pr : Int), okL lo pr l = true → okL lo pr (l.take k) = true
  | 0, _, _, _, _ => by rw [List.take_zero]; rfl
  | _ + 1, [], _, _, _ => rfl
  | k + 1, p :: t, lo, pr, h => by
    obtain ⟨a, b, c⟩ := okL_cons.1 h
    rw [List.take_succ_cons]
    exact okL_cons.2 ⟨a, b, okL_take k t _ _ c⟩
theorem okL_mem : ∀ (l : List S38) (lo pr : Int), okL lo pr l = true → ∀ p ∈ l, (lo ≤ p.f0 ∧ p.f0 ≤ 1152921504606846976) ∧ (pr + 1 ≤ p.f1 ∧ p.f1 ≤ 1152921504606846976)
  | [], _, _, _, p, hp => by cases hp
  | q :: t, lo, pr, h, p, hp => by
    obtain ⟨a, b, c⟩ := okL_cons.1 h
    rcases List.mem_cons.1 hp with rfl | hp
    · exact ⟨a, b⟩
    · have := okL_mem t _ _ c p hp
      omega
theorem okL_snoc {a n : Int} (ha : a ≤ 1152921504606846976) (hn : n ≤ 1152921504606846976) : ∀ (l : List S38) (lo pr : Int), okL lo pr l = true → (∀ p ∈ l, p.f0 ≤ a ∧ p.f1 < n) → lo ≤ a → pr < n → okL lo pr (l ++ [⟨a, n⟩]) = true
  | [], lo, pr, _, _, h1, h2 => okL_cons.2 ⟨⟨h1, ha⟩, ⟨by show pr + 1 ≤ n; omega, hn⟩, rfl⟩
  | q :: t, lo, pr, h, hm, h1, h2 => by
    obtain ⟨x, y, c⟩ := okL_cons.1 h
    have hq := hm q List.mem_cons_self
    exact okL_cons.2 ⟨x, y, okL_snoc ha hn t _ _ c (fun p hp => hm p (List.mem_cons_of_mem _ hp)) hq.1 hq.2⟩
theorem okL_last : ∀ (l : List S38) (lo pr : Int), okL lo pr l = true → (hn : l ≠ []) → ∀ p ∈ l, p.f0 ≤ (l.getLast hn).f0
  | [], _, _, _, hn, _, _ => absurd rfl hn
  | [q], _, _, _, _, p, hp => by
    obtain rfl : p = q := by simpa using hp
    exact Int.le_refl _
  | q :: r :: t, lo, pr, h, hn, p, hp => by
    obtain ⟨x, y, c⟩ := okL_cons.1 h
    have ih := okL_last (r :: t) _ _ c (by simp)
    rw [List.getLast_cons (by simp)]
    rcases List.mem_cons.1 hp with rfl | hp
    · have := ih r List.mem_cons_self
      have := (okL_cons.1 c).1
      omega
    · exact ih p hp
theorem not_ahead {l : List S38} {lo pr a : Int} (h : okL lo pr l = true) (ha : Given.ahead l a = false) : ∀ p ∈ l, p.f0 ≤ a := by
  intro p hp
  have hn : l ≠ [] := by rintro rfl; cases hp
  have hl : 0 < l.length := List.length_pos_iff.2 hn
  have := okL_last l lo pr h hn p hp
  unfold Given.ahead at ha
  rw [decide_eq_true hl, Bool.true_and, decide_eq_false_iff_not, show ((l.length : Int) - 1) = ((l.length - 1 : Nat) : Int) by omega, rd_at l (l.length - 1) (by omega), ← List.getLast_eq_getElem hn] at ha
  omega
theorem good_iff {span : Int} {l : List S38} {high : Int} : good span l high = true ↔ (1 ≤ span ∧ span ≤ 1099511627776) ∧ l.length ≤ 100 ∧ (0 ≤ high ∧ high ≤ 7) ∧ okL 0 (-1) l = true := by
  unfold good
  rw [Bool.and_eq_true, Bool.and_eq_true, Bool.and_eq_true, inB_iff, inB_iff, decide_eq_true_eq]
theorem okL_more {span at_ n : Int} {l : List S38} (h : okL 0 (-1) l = true) (ha : inB at_ 0 1152921504606846976 = true) (hn : inB n 0 1152921504606846976 = true) (hah : Given.ahead l at_ = false) : okL 0 (-1) (moreL span at_ n l) = true := by
  have ha' := inB_iff.1 ha
  have hn' := inB_iff.1 hn
  unfold moreL cntL
  refine okL_snoc ha'.2 hn'.2 _ _ _ (okL_filter _ _ _ _ (okL_filter _ _ _ _ h)) ?_ ha'.1 (by omega)
  intro p hp
  have h1 := List.mem_filter.1 hp
  have h2 := List.mem_filter.1 h1.1
  exact ⟨not_ahead h hah p h2.1, by simpa using h1.2⟩
theorem highM_le {span at_ n high : Int} {l : List S38} (h : 0 ≤ high ∧ high ≤ 7) (h8 : highM span at_ n high l ≠ 8) : 0 ≤ highM span at_ n high l ∧ highM span at_ n high l ≤ 7 := by
  unfold highM at h8 ⊢
  split
  · rename_i c
    rw [if_pos c, w64 (high + 1) (by omega) (by omega)] at h8
    rw [w64 (high + 1) (by omega) (by omega)]
    omega
  · omega
theorem metR_turn {span : Int} {l : List S38} {high at_ n : Int} (h : metOK (good span l high) l at_ n = true) (h8 : highM span at_ n high l = 8) : metR span l high at_ n = (span, [⟨at_, n⟩], 0, true, 0) := by
  unfold metR
  rw [if_pos h, if_pos h8]
theorem metR_more {span : Int} {l : List S38} {high at_ n : Int} (h : metOK (good span l high) l at_ n = true) (h8 : highM span at_ n high l ≠ 8) : metR span l high at_ n = (span, (moreL span at_ n l).take 100, highM span at_ n high l, false, 0) := by
  unfold metR
  rw [if_pos h, if_neg h8]
theorem metR_no {span : Int} {l : List S38} {high at_ n : Int} (h : ¬ metOK (good span l high) l at_ n = true) : metR span l high at_ n = (0, [], 0, false, 1) := by
  unfold metR
  rw [if_neg h]
theorem good_turn {span : Int} {l : List S38} {high at_ n : Int} (h : metOK (good span l high) l at_ n = true) : good span [⟨at_, n⟩] 0 = true := by
  obtain ⟨hg, ha, hn, hah⟩ := metOK_iff.1 h
  have ha' := inB_iff.1 ha
  have hn' := inB_iff.1 hn
  exact good_iff.2 ⟨(good_iff.1 hg).1, by simp, by omega, okL_cons.2 ⟨ha', ⟨by show (-1 : Int) + 1 ≤ n; omega, hn'.2⟩, rfl⟩⟩
theorem good_more {span : Int} {l : List S38} {high at_ n : Int} (h : metOK (good span l high) l at_ n = true) (h8 : highM span at_ n high l ≠ 8) : good span ((moreL span at_ n l).take 100) (highM span at_ n high l) = true := by
  obtain ⟨hg, ha, hn, hah⟩ := metOK_iff.1 h
  have g := good_iff.1 hg
  exact good_iff.2 ⟨g.1, by rw [List.length_take]; omega, highM_le g.2.2.1 h8, okL_take _ _ _ _ (okL_more g.2.2.2 ha hn hah)⟩
theorem cnts_iff {span at_ : Int} {p : S38} (h : 0 ≤ p.f0 ∧ p.f0 ≤ 1152921504606846976) (ha : 0 ≤ at_ ∧ at_ ≤ 1152921504606846976) : cnts span at_ p = true ↔ at_ - p.f0 ≤ span := by
  unfold cnts
  rw [w64 (at_ - p.f0) (by omega) (by omega)]
  simp
theorem of_later {span at_ at2 : Int} (h0 : 0 ≤ at_) (h1 : at_ ≤ at2) (h2 : at2 ≤ 1152921504606846976) : ∀ (l : List S38) (lo pr : Int), 0 ≤ lo → okL lo pr l = true → (ofL span at2 l).2 = true → (ofL span at_ l).2 = true ∧ (ofL span at_ l).1 ≤ (ofL span at2 l).1
  | [], _, _, _, _, h => by cases h
  | p :: t, lo, pr, hlo, h, hs => by
    obtain ⟨a, b, c⟩ := okL_cons.1 h
    by_cases c1 : cnts span at_ p = true
    · have e1 : ofL span at_ (p :: t) = (p.f1, true) := by unfold ofL cntL; rw [List.filter_cons_of_pos c1]
      rw [e1]
      refine ⟨rfl, ?_⟩
      by_cases c2 : cnts span at2 p = true
      · have e2 : ofL span at2 (p :: t) = (p.f1, true) := by unfold ofL cntL; rw [List.filter_cons_of_pos c2]
        rw [e2]
        exact Int.le_refl _
      · unfold ofL cntL at hs ⊢
        rw [List.filter_cons_of_neg c2] at hs ⊢
        cases hf : t.filter (cnts span at2) with
        | nil => rw [hf] at hs; cases hs
        | cons q t2 =>
          have hq : q ∈ t := (List.mem_filter.1 (show q ∈ t.filter (cnts span at2) by rw [hf]; exact List.mem_cons_self)).1
          have := (okL_mem t _ _ c q hq).2.1
          show p.f1 ≤ q.f1
          omega
    · have c2 : ¬ cnts span at2 p = true := by
        rw [cnts_iff ⟨by omega, a.2⟩ ⟨by omega, by omega⟩] at c1 ⊢
        omega
      have e1 : ofL span at_ (p :: t) = ofL span at_ t := by unfold ofL cntL; rw [List.filter_cons_of_neg c1]
      have e2 : ofL span at2 (p :: t) = ofL span at2 t := by unfold ofL cntL; rw [List.filter_cons_of_neg c2]
      rw [e1, e2]
      rw [e2] at hs
      exact of_later h0 h1 h2 t _ _ (by omega) c hs
theorem of_own {span at_ n : Int} (hs : 0 ≤ span) (ha : 0 ≤ at_ ∧ at_ ≤ 1152921504606846976) : ofL span at_ [⟨at_, n⟩] = (n, true) := by
  unfold ofL cntL
  rw [List.filter_cons_of_pos ((cnts_iff (p := ⟨at_, n⟩) ha ha).2 (by show at_ - at_ ≤ span; omega))]
/-- What is told behind a meeting that adds. -/
theorem of_more {span at_ n : Int} {l : List S38} (hs : 0 ≤ span) (ha : 0 ≤ at_ ∧ at_ ≤ 1152921504606846976) (h : okL 0 (-1) l = true) :
    ofL span at_ ((moreL span at_ n l).take 100) = (if (ofL span at_ l).2 = true ∧ (ofL span at_ l).1 < n then (ofL span at_ l).1 else n, true) := by
  have hc := okL_filter (cnts span at_) l _ _ h
  have own : cnts span at_ ⟨at_, n⟩ = true := (cnts_iff (p := ⟨at_, n⟩) ha ha).2 (by show at_ - at_ ≤ span; omega)
  unfold moreL
  cases hf : cntL span at_ l with
  | nil =>
    have e : ofL span at_ l = (0, false) := by unfold ofL; rw [hf]
    rw [e, if_neg (by simp), List.filter_nil, List.nil_append, List.take_of_length_le (by simp)]
    exact of_own hs ha
  | cons q t =>
    have e : ofL span at_ l = (q.f1, true) := by unfold ofL; rw [hf]
    have hq : cnts span at_ q = true := (List.mem_filter.1 (show q ∈ cntL span at_ l by rw [hf]; exact List.mem_cons_self)).2
    rw [e]
    by_cases c : q.f1 < n
    · rw [if_pos ⟨rfl, c⟩, List.filter_cons_of_pos (by simpa using c), List.cons_append, List.take_succ_cons]
      unfold ofL cntL
      rw [List.filter_cons_of_pos hq]
    · rw [if_neg (fun h => c h.2)]
      have hc' : okL 0 (-1) (q :: t) = true := by
        have := hc
        unfold cntL at hf
        rwa [hf] at this
      have e2 : (q :: t).filter (fun p : S38 => decide (p.f1 < n)) = [] := by
        rw [List.filter_eq_nil_iff]
        intro p hp
        rcases List.mem_cons.1 hp with rfl | hp
        · simpa using c
        · have := (okL_mem t _ _ (okL_cons.1 hc').2.2 p hp).2.1
          simp
          omega
      rw [e2, List.nil_append, List.take_of_length_le (by simp)]
      exact of_own hs ha
end Go.Proofs.Ytenpchgnjhmaaaa.Pure
