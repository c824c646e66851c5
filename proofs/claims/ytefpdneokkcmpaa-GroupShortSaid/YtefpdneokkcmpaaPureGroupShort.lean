/- What has fewer than four delays, or may not be, is in a group of its own: the plain law. -/
import Derived.Test.YtefpdneokkcmpaaPlainE
import Derived.Test.YtefpdneokkcmpaaSx11
namespace Go.Proofs.Ytefpdneokkcmpaa.Given
open Go.RowKit Go.Proofs.YtefpdneokkcmpaaW.PrintWords Go.Proofs.YtefpdneokkcmpaaW.PrintLast Go.Proofs.YtefpdneokkcmpaaW.PrintMore Go.Proofs.Ytefpdneokkcmpaa.S
set_option linter.unusedVariables false
theorem alike_none (a b : List Int) (h : mayB a = false ∨ a.length < 4) : alikeB a b = false := by
  unfold alikeB
  simp only
  rw [if_neg]
  intro e
  simp only [Bool.and_eq_true, decide_eq_true_eq] at e
  rcases h with h | h
  · rw [e.1.1] at h; cases h
  · omega
theorem short_l1 (l : List (List Int)) (o : List Int) (hl : l.length ≤ 4) (ho : o.length = l.length) (i : Nat) (hi : i < l.length) (hno : ∀ q : Int, alikeB (rd_L1 l i) (rd_L1 l q) = false) (h1 : rd o i = i) (h2 : ∀ k : Nat, k < l.length → k ≠ i → rd o k ≠ i) (R : Nat) (hnext : ∀ k', R ≤ k' → fourinhandlaw17_GroupShort.l0 k' l o (wrap64 ((i : Int) + 1)) = some true) :
    ∀ (m j k : Nat), l.length - j = m → j ≤ l.length → R + m + 1 ≤ k → fourinhandlaw17_GroupShort.l1 k l o i j = some true := by
  intro m
  induction m with
  | zero =>
    intro j k a1 a2 hk
    obtain ⟨k, rfl⟩ : ∃ q, k = q + 1 := ⟨k - 1, by omega⟩
    rw [fourinhandlaw17_GroupShort.l1, if_neg (by omega), if_pos (by omega), if_pos (by omega), if_pos h1]
    exact hnext k (by omega)
  | succ m ih =>
    intro j k a1 a2 hk
    obtain ⟨k, rfl⟩ : ∃ q, k = q + 1 := ⟨k - 1, by omega⟩
    rw [fourinhandlaw17_GroupShort.l1, if_pos (by omega), if_pos (by omega), if_pos (by omega), if_pos (by omega), alike_eq, alike_eq, alike_comm (rd_L1 l (j : Int)), hno]
    simp only [Option.bind_some, Bool.false_eq_true, if_false]
    rw [w64 ((j : Int) + 1) (by omega) (by omega), show (j : Int) + 1 = ((j + 1 : Nat) : Int) by omega]
    have := ih (j + 1) k (by omega) (by omega) (by omega)
    by_cases e : j = i
    · rw [if_pos (by omega)]
      exact this
    · rw [if_neg (by omega), if_pos (by omega), if_neg (h2 j (by omega) e)]
      exact this
theorem short_l0 (l : List (List Int)) (o : List Int) (hl : l.length ≤ 4) (ho : o.length = l.length) (hg : ∀ i : Nat, i < l.length → At (tbOf l) l.length o i) : ∀ (m i k : Nat), l.length - i = m → i ≤ l.length → m * 10 + 1 ≤ k → fourinhandlaw17_GroupShort.l0 k l o i = some true := by
  intro m
  induction m with
  | zero =>
    intro i k h1 h2 hk
    obtain ⟨k, rfl⟩ : ∃ q, k = q + 1 := ⟨k - 1, by omega⟩
    rw [fourinhandlaw17_GroupShort.l0, if_neg (by omega), ho]
    simp
  | succ m ih =>
    intro i k h1 h2 hk
    obtain ⟨k, rfl⟩ : ∃ q, k = q + 2 := ⟨k - 2, by omega⟩
    have hi : i < l.length := by omega
    have g := hg i hi
    have next : ∀ k', m * 10 + 1 ≤ k' → fourinhandlaw17_GroupShort.l0 k' l o (wrap64 ((i : Int) + 1)) = some true := by
      intro k' hk'
      rw [w64 ((i : Int) + 1) (by omega) (by omega), show (i : Int) + 1 = ((i + 1 : Nat) : Int) by omega]
      exact ih (i + 1) k' (by omega) (by omega) hk'
    have bad : (mayB (rd_L1 l i) = false ∨ (rd_L1 l i).length < 4) → fourinhandlaw17_GroupShort.j2 (k + 1) l o i false = some true := by
      intro h
      rw [fourinhandlaw17_GroupShort.j2, if_neg (by simp)]
      have hno : ∀ q : Int, alikeB (rd_L1 l i) (rd_L1 l q) = false := fun q => alike_none _ _ h
      obtain ⟨a, b⟩ := g.alone (fun q hq hne => by rw [tb_alike l hl i q hi hq (by omega)]; exact hno q)
      exact short_l1 l o hl ho i hi hno a b (m * 10 + 1) next l.length 0 k (by omega) (by omega) (by omega)
    rw [fourinhandlaw17_GroupShort.l0, if_pos (by omega), if_pos (by omega)]
    by_cases c : ((rd_L1 l i).length : Int) ≥ 4
    · rw [if_pos c, may_eq, Option.bind_some]
      by_cases c2 : mayB (rd_L1 l i) = true
      · rw [c2, fourinhandlaw17_GroupShort.j2, if_pos rfl]
        exact next k (by omega)
      · rw [Bool.eq_false_iff.mpr c2]
        exact bad (.inl (Bool.eq_false_iff.mpr c2))
    · rw [if_neg c]
      exact bad (.inr (by omega))
theorem GroupShort (l : List (List Int)) : fourinhandlaw17_GroupShort.f 600 l = some true := by
  unfold fourinhandlaw17_GroupShort.f fourinhandlaw17_awake.f
  obtain ⟨b, hb, hfew⟩ := few_eq 600 (by omega) l
  rw [hb]
  simp only [Option.bind_some, if_true]
  cases b with
  | false => rw [Bool.not_false, fourinhandlaw17_GroupShort.j0, if_pos rfl]
  | true =>
    rw [Bool.not_true, fourinhandlaw17_GroupShort.j0, if_neg (by simp)]
    by_cases c : (l.length : Int) > 4
    · have : group_Of.f 599 l = some [] := by unfold group_Of.f; rw [if_pos c]
      rw [this, Option.bind_some, if_pos c]
      rfl
    · obtain ⟨o, e1, e2, _⟩ := of_good l (by omega) 599 (by omega)
      have ho := good_len e2
      rw [e1, Option.bind_some, if_neg c, if_pos (by omega)]
      exact short_l0 l o (by omega) ho (fun i hi => good_at e2 i hi) l.length 0 599 (by omega) (by omega) (by omega)
end Go.Proofs.Ytefpdneokkcmpaa.Given
