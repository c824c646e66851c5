/- Plain facts of chapter 17: few; what is said of a list that is good. -/
import Derived.Test.YtefpdneokkcmpaaPlainD
namespace Go.Proofs.Ytefpdneokkcmpaa.Given
open Go.RowKit Go.Proofs.YtefpdneokkcmpaaW.PrintWords Go.Proofs.YtefpdneokkcmpaaW.PrintLast Go.Proofs.YtefpdneokkcmpaaW.PrintMore Go.Proofs.Ytefpdneokkcmpaa.S
set_option linter.unusedVariables false
theorem rdL (l : List (List Int)) (i : Nat) (h : i < l.length) : rd_L1 l (i : Int) = l[i] := by
  unfold rd_L1
  simp [List.getD_eq_getElem?_getD, h]
theorem few_l0 (l : List (List Int)) (hl : l.length ≤ 20) : ∀ (m i k : Nat) (s : Bool), l.length - i = m → i ≤ l.length → m < k → (s = true → ∀ j (h : j < l.length), j < i → l[j].length ≤ 40) →
    ∃ b, fourinhandlaw17_few.l0 k l s i = some b ∧ (b = true → ∀ j (h : j < l.length), l[j].length ≤ 40) := by
  intro m
  induction m with
  | zero =>
    intro i k s h1 h2 hk hs
    obtain ⟨k, rfl⟩ : ∃ j, k = j + 1 := ⟨k - 1, by omega⟩
    obtain rfl : i = l.length := by omega
    rw [fourinhandlaw17_few.l0, if_neg (by omega)]
    exact ⟨s, rfl, fun e j h => hs e j h h⟩
  | succ m ih =>
    intro i k s h1 h2 hk hs
    obtain ⟨k, rfl⟩ : ∃ j, k = j + 1 := ⟨k - 1, by omega⟩
    have hi : i < l.length := by omega
    rw [fourinhandlaw17_few.l0, if_pos (by omega)]
    cases s with
    | false =>
      rw [if_neg (by simp)]
      exact ⟨false, rfl, fun e => by cases e⟩
    | true =>
      rw [if_pos rfl, if_pos (by omega), rdL l i hi, w64 ((i : Int) + 1) (by omega) (by omega), show (i : Int) + 1 = ((i + 1 : Nat) : Int) by omega]
      refine ih (i + 1) k _ (by omega) (by omega) (by omega) ?_
      intro e j h hj
      rw [decide_eq_true_eq] at e
      rcases Nat.lt_or_ge j i with h3 | h3
      · exact hs rfl j h h3
      · obtain rfl : j = i := by omega
        omega
theorem few_eq (k : Nat) (hk : 100 ≤ k) (l : List (List Int)) : ∃ b, fourinhandlaw17_few.f k l = some b ∧ (b = true → l.length ≤ 20 ∧ ∀ i : Int, (rd_L1 l i).length ≤ 40) := by
  unfold fourinhandlaw17_few.f
  by_cases c : l.length ≤ 20
  · rw [decide_eq_true (by omega)]
    obtain ⟨b, h1, h2⟩ := few_l0 l c l.length 0 k true (by omega) (by omega) (by omega) (fun _ j h hj => absurd hj (by omega))
    refine ⟨b, h1, fun e => ⟨c, fun i => ?_⟩⟩
    unfold rd_L1
    rw [List.getD_eq_getElem?_getD]
    by_cases ci : i.toNat < l.length
    · rw [List.getElem?_eq_getElem ci]
      exact h2 e _ ci
    · rw [List.getElem?_eq_none (by omega)]
      simp
  · rw [decide_eq_false (by omega)]
    obtain ⟨k, rfl⟩ : ∃ j, k = j + 1 := ⟨k - 1, by omega⟩
    rw [fourinhandlaw17_few.l0, if_pos (by omega), if_neg (by simp)]
    exact ⟨false, rfl, fun e => by cases e⟩
theorem mem_oth {n i k : Nat} : k ∈ oth n i ↔ k < n ∧ k ≠ i := by
  unfold oth
  rw [List.mem_filter, List.mem_range]
  simp
/-- What a good list says of one place. -/
structure At (t : Tb) (n : Nat) (o : List Int) (i : Nat) : Prop where
  low : 0 ≤ rd o i
  high : rd o i ≤ i
  first : rd o (rd o i) = rd o i
  alike : ∀ k, k < n → k ≠ i → tbN t i k = true → rd o i = rd o k
  joined : rd o i = i ∨ ∃ k, k < n ∧ k ≠ i ∧ tbN t i k = true
  alone : (∀ k, k < n → k ≠ i → tbN t i k = false) → rd o i = i ∧ ∀ k, k < n → k ≠ i → rd o k ≠ i
theorem good_len {t : Tb} {n : Nat} {o : List Int} (h : good t n o = true) : o.length = n := by
  unfold good at h
  rw [Bool.and_eq_true, beq_iff_eq] at h
  exact h.1
theorem good_at {t : Tb} {n : Nat} {o : List Int} (h : good t n o = true) (i : Nat) (hi : i < n) : At t n o i := by
  unfold good at h
  rw [Bool.and_eq_true, List.all_eq_true] at h
  have h2 := h.2 i (List.mem_range.2 hi)
  simp only [Bool.and_eq_true, decide_eq_true_eq, beq_iff_eq, List.all_eq_true, List.any_eq_true, Bool.or_eq_true, Bool.not_eq_true', bne_iff_ne, ne_eq] at h2
  obtain ⟨⟨⟨⟨⟨a1, a2⟩, a3⟩, a4⟩, a5⟩, a6⟩ := h2
  refine ⟨a1, a2, a3, ?_, ?_, ?_⟩
  · intro k hk hne he
    rcases a4 k (mem_oth.2 ⟨hk, hne⟩) with h | h
    · rw [he] at h
      cases h
    · exact h
  · rcases a5 with h | ⟨k, hk, he⟩
    · exact .inl h
    · exact .inr ⟨k, (mem_oth.1 hk).1, (mem_oth.1 hk).2, he⟩
  · intro hn
    rcases a6 with ⟨k, hk, he⟩ | ⟨h1, h2⟩
    · rw [hn k (mem_oth.1 hk).1 (mem_oth.1 hk).2] at he
      cases he
    · exact ⟨h1, fun k hk hne => h2 k (mem_oth.2 ⟨hk, hne⟩)⟩
theorem tb_alike (l : List (List Int)) (h : l.length ≤ 4) (i k : Nat) (hi : i < l.length) (hk : k < l.length) (hne : i ≠ k) : tbN (tbOf l) i k = alikeB (rd_L1 l i) (rd_L1 l k) :=
  (agree l h i k (by omega) (by omega) (by omega) (by omega) (by omega)).symm
end Go.Proofs.Ytefpdneokkcmpaa.Given
