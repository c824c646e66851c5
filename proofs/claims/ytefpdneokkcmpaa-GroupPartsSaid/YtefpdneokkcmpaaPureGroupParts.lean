/- Lists that are alike have one number, and so on: the plain law. -/
import Derived.Test.YtefpdneokkcmpaaPlainE
import Derived.Test.YtefpdneokkcmpaaSx9
namespace Go.Proofs.Ytefpdneokkcmpaa.Given
open Go.RowKit Go.Proofs.YtefpdneokkcmpaaW.PrintWords Go.Proofs.YtefpdneokkcmpaaW.PrintLast Go.Proofs.YtefpdneokkcmpaaW.PrintMore Go.Proofs.Ytefpdneokkcmpaa.S
set_option linter.unusedVariables false
theorem parts_l1 (l : List (List Int)) (o : List Int) (hl : l.length ≤ 4) (ho : o.length = l.length) (hg : ∀ i : Nat, i < l.length → At (tbOf l) l.length o i) (i : Nat) (hi : i < l.length) (R : Nat) (hnext : ∀ k', R ≤ k' → fourinhandlaw17_GroupParts.l0 k' l o (wrap64 ((i : Int) + 1)) = some true) :
    ∀ (m j k : Nat) (s : Bool), l.length - j = m → j ≤ l.length → R + m + 1 ≤ k → (s = true ∨ ∃ q, j ≤ q ∧ q < l.length ∧ q ≠ i ∧ alikeB (rd_L1 l i) (rd_L1 l q) = true) → fourinhandlaw17_GroupParts.l1 k l o i s j = some true := by
  intro m
  induction m with
  | zero =>
    intro j k s h1 h2 hk hs
    obtain ⟨k, rfl⟩ : ∃ q, k = q + 1 := ⟨k - 1, by omega⟩
    obtain rfl : j = l.length := by omega
    have : s = true := by
      rcases hs with h | ⟨q, a, b, _⟩
      · exact h
      · omega
    rw [fourinhandlaw17_GroupParts.l1, if_neg (by omega), if_pos this]
    exact hnext k (by omega)
  | succ m ih =>
    intro j k s h1 h2 hk hs
    obtain ⟨k, rfl⟩ : ∃ q, k = q + 1 := ⟨k - 1, by omega⟩
    have hj : j < l.length := by omega
    rw [fourinhandlaw17_GroupParts.l1, if_pos (by omega), if_pos (by omega), if_pos (by omega), if_pos (by omega), alike_eq, alike_eq, alike_comm (rd_L1 l (j : Int))]
    simp only [Option.bind_some, bne_self_eq_false, Bool.false_eq_true, if_false]
    rw [w64 ((j : Int) + 1) (by omega) (by omega), show (j : Int) + 1 = ((j + 1 : Nat) : Int) by omega]
    have step : ∀ s' : Bool, (s' = true ∨ ∃ q, j + 1 ≤ q ∧ q < l.length ∧ q ≠ i ∧ alikeB (rd_L1 l i) (rd_L1 l q) = true) → fourinhandlaw17_GroupParts.l1 k l o i s' ((j + 1 : Nat) : Int) = some true := fun s' hs' => ih (j + 1) k s' (by omega) (by omega) (by omega) hs'
    have keep : (j = i ∨ alikeB (rd_L1 l i) (rd_L1 l j) = false) → s = false → ∃ q, j + 1 ≤ q ∧ q < l.length ∧ q ≠ i ∧ alikeB (rd_L1 l i) (rd_L1 l q) = true := by
      intro h1 h2
      rcases hs with h | ⟨q, a, b, c, d⟩
      · rw [h2] at h; cases h
      · refine ⟨q, ?_, b, c, d⟩
        rcases Nat.lt_or_ge j q with h3 | h3
        · omega
        · obtain rfl : q = j := by omega
          rcases h1 with h | h
          · exact absurd h c
          · rw [h] at d; cases d
    by_cases ca : alikeB (rd_L1 l i) (rd_L1 l j) = true
    · rw [if_pos ca, if_pos (by omega), if_pos (by omega)]
      have heq : rd o i = rd o j := by
        by_cases e : j = i
        · rw [e]
        · exact (hg i hi).alike j hj e (by rw [tb_alike l hl i j hi hj (by omega)]; exact ca)
      rw [if_pos heq, ca]
      cases s with
      | true =>
        rw [if_pos rfl]
        exact step true (.inl rfl)
      | false =>
        rw [if_neg (by simp)]
        by_cases e : j = i
        · rw [if_pos (by omega)]
          exact step false (.inr (keep (.inl e) rfl))
        · rw [if_neg (by omega)]
          exact step true (.inl rfl)
    · rw [if_neg ca]
      cases s with
      | true =>
        rw [if_pos rfl]
        exact step true (.inl rfl)
      | false =>
        rw [if_neg (by simp), Bool.eq_false_iff.mpr ca]
        have := step false (.inr (keep (.inr (Bool.eq_false_iff.mpr ca)) rfl))
        split <;> exact this
theorem parts_l0 (l : List (List Int)) (o : List Int) (hl : l.length ≤ 4) (ho : o.length = l.length) (hg : ∀ i : Nat, i < l.length → At (tbOf l) l.length o i) : ∀ (m i k : Nat), l.length - i = m → i ≤ l.length → m * 10 + 1 ≤ k → fourinhandlaw17_GroupParts.l0 k l o i = some true := by
  intro m
  induction m with
  | zero =>
    intro i k h1 h2 hk
    obtain ⟨k, rfl⟩ : ∃ q, k = q + 1 := ⟨k - 1, by omega⟩
    rw [fourinhandlaw17_GroupParts.l0, if_neg (by omega)]
  | succ m ih =>
    intro i k h1 h2 hk
    obtain ⟨k, rfl⟩ : ∃ q, k = q + 2 := ⟨k - 2, by omega⟩
    have hi : i < l.length := by omega
    have g := hg i hi
    have g1 := g.low
    have g2 := g.high
    rw [fourinhandlaw17_GroupParts.l0, if_pos (by omega), if_pos (by omega), if_pos (by omega), if_neg (by omega), if_neg (by omega), if_pos (by omega), if_pos (by omega), g.first, bne_self_eq_false]
    rw [fourinhandlaw17_GroupParts.j2, if_neg (by simp), if_pos (by omega), if_pos (by omega)]
    refine parts_l1 l o hl ho hg i hi (m * 10 + 1) ?_ l.length 0 k _ (by omega) (by omega) (by omega) ?_
    · intro k' hk'
      rw [w64 ((i : Int) + 1) (by omega) (by omega), show (i : Int) + 1 = ((i + 1 : Nat) : Int) by omega]
      exact ih (i + 1) k' (by omega) (by omega) hk'
    · rcases g.joined with h | ⟨q, a, b, c⟩
      · left
        rw [h]
        exact beq_self_eq_true _
      · right
        rw [tb_alike l hl i q hi a (by omega)] at c
        exact ⟨q, by omega, a, b, c⟩
theorem GroupParts (l : List (List Int)) : fourinhandlaw17_GroupParts.f 600 l = some true := by
  unfold fourinhandlaw17_GroupParts.f fourinhandlaw17_awake.f
  obtain ⟨b, hb, hfew⟩ := few_eq 600 (by omega) l
  rw [hb]
  simp only [Option.bind_some, if_true]
  have hgo : fourinhandlaw17_GroupParts.j0 600 l true true = some true := by rw [fourinhandlaw17_GroupParts.j0, if_pos rfl]
  cases b with
  | false => rw [if_neg (by simp), hgo]
  | true =>
    rw [if_pos rfl]
    by_cases c : (l.length : Int) > 4
    · rw [decide_eq_true c, hgo]
    · rw [decide_eq_false c, fourinhandlaw17_GroupParts.j0, if_neg (by simp)]
      obtain ⟨o, e1, e2, _⟩ := of_good l (by omega) 599 (by omega)
      have ho := good_len e2
      rw [e1, Option.bind_some, if_pos (by omega)]
      exact parts_l0 l o (by omega) ho (fun i hi => good_at e2 i hi) l.length 0 599 (by omega) (by omega) (by omega)
end Go.Proofs.Ytefpdneokkcmpaa.Given
