/- Any delays may be, or not, have one more, are alike, and in groups, as the document says: the plain law. -/
import Derived.Test.YtefpdneokkcmpaaPlainE
import Derived.Test.YtefpdneokkcmpaaSx14
namespace Go.Proofs.Ytefpdneokkcmpaa.Given
open Go.RowKit Go.Proofs.YtefpdneokkcmpaaW.PrintWords Go.Proofs.YtefpdneokkcmpaaW.PrintLast Go.Proofs.YtefpdneokkcmpaaW.PrintMore Go.Proofs.Ytefpdneokkcmpaa.S
set_option linter.unusedVariables false
theorem addB_len (l : List Int) (d : Int) (h : l.length ≤ 40) : (addB l d).1.length ≤ 50 := by
  unfold addB
  split
  · simp only [List.length_drop, List.length_append, List.length_cons, List.length_nil]
    omega
  · simp
theorem of_both (l : List (List Int)) (hlen : ∀ i : Int, (rd_L1 l i).length ≤ 50) (k : Nat) (hk : 500 ≤ k) : ∃ o, group_Of.f k l = some o ∧ fourinhandref17_Of.f k l = some o ∧ o.length ≤ 4 := by
  by_cases c : (l.length : Int) > 4
  · refine ⟨[], ?_, ?_, by simp⟩
    · unfold group_Of.f
      rw [if_pos c]
    · unfold fourinhandref17_Of.f
      rw [if_pos c]
  · obtain ⟨o, e1, e2, e3⟩ := of_good l (by omega) k (by omega)
    have hl := good_len e2
    exact ⟨o, e1, at_rounds (fun k => fourinhandref17_Of.mono l k) hk (e3 hlen), by omega⟩
theorem tells_l1 (l : List (List Int)) (d : Int) (hl : l.length ≤ 20) (hlen : ∀ i : Int, (rd_L1 l i).length ≤ 40) (i : Nat) (hi : i < l.length) (R : Nat) (hR : 1000 ≤ R) (hnext : ∀ k', R ≤ k' → fourinhandlaw17_GroupTells.l0 k' l d (wrap64 ((i : Int) + 1)) = some true) :
    ∀ (m j k : Nat), l.length - j = m → j ≤ l.length → R + m + 1 ≤ k → fourinhandlaw17_GroupTells.l1 k l d i j = some true := by
  intro m
  induction m with
  | zero =>
    intro j k a1 a2 hk
    obtain ⟨k, rfl⟩ : ∃ q, k = q + 1 := ⟨k - 1, by omega⟩
    rw [fourinhandlaw17_GroupTells.l1, if_neg (by omega)]
    exact hnext k (by omega)
  | succ m ih =>
    intro j k a1 a2 hk
    obtain ⟨k, rfl⟩ : ∃ q, k = q + 1 := ⟨k - 1, by omega⟩
    rw [fourinhandlaw17_GroupTells.l1, if_pos (by omega), if_pos (by omega), if_pos (by omega), if_pos (by omega), alike_eq, ralike_eq k (by omega) _ _ (by have := hlen i; omega) (by have := hlen j; omega)]
    simp only [Option.bind_some, bne_self_eq_false, Bool.false_eq_true, if_false]
    rw [w64 ((j : Int) + 1) (by omega) (by omega), show (j : Int) + 1 = ((j + 1 : Nat) : Int) by omega]
    exact ih (j + 1) k (by omega) (by omega) (by omega)
theorem tells_l0 (l : List (List Int)) (d : Int) (hl : l.length ≤ 20) (hlen : ∀ i : Int, (rd_L1 l i).length ≤ 40) : ∀ (m i k : Nat), l.length - i = m → i ≤ l.length → 1000 + m * 30 + 1 ≤ k → fourinhandlaw17_GroupTells.l0 k l d i = some true := by
  intro m
  induction m with
  | zero =>
    intro i k h1 h2 hk
    obtain ⟨k, rfl⟩ : ∃ q, k = q + 1 := ⟨k - 1, by omega⟩
    obtain ⟨o, e1, e2, e3⟩ := of_both l (fun i => by have := hlen i; omega) k (by omega)
    rw [fourinhandlaw17_GroupTells.l0, if_neg (by omega), e1, e2]
    simp only [Option.bind_some]
    rw [ints_eq k o o (by omega) (by omega), decide_eq_true rfl]
    rfl
  | succ m ih =>
    intro i k h1 h2 hk
    obtain ⟨k, rfl⟩ : ∃ q, k = q + 2 := ⟨k - 2, by omega⟩
    have hi : i < l.length := by omega
    have hli := hlen i
    rw [fourinhandlaw17_GroupTells.l0, if_pos (by omega), if_pos (by omega), add_eq, radd_eq (k + 1) _ _ (by omega) (by omega)]
    simp only [Option.bind_some]
    have ha := addB_len (rd_L1 l i) d hli
    rw [ints_eq (k + 1) _ _ (by omega) (by omega), decide_eq_true rfl]
    simp only [Option.bind_some, if_true]
    rw [may_eq, rmay_eq (k + 1) _ (by omega) (by omega)]
    simp only [Option.bind_some, bne_self_eq_false]
    rw [fourinhandlaw17_GroupTells.j2, if_neg (by simp)]
    refine tells_l1 l d hl hlen i hi (1000 + m * 30 + 1) (by omega) ?_ l.length 0 k (by omega) (by omega) (by omega)
    intro k' hk'
    rw [w64 ((i : Int) + 1) (by omega) (by omega), show (i : Int) + 1 = ((i + 1 : Nat) : Int) by omega]
    exact ih (i + 1) k' (by omega) (by omega) hk'
theorem GroupTells (l : List (List Int)) (d : Int) : fourinhandlaw17_GroupTells.f 2000 l d = some true := by
  unfold fourinhandlaw17_GroupTells.f fourinhandlaw17_awake.f
  obtain ⟨b, hb, hfew⟩ := few_eq 2000 (by omega) l
  rw [hb]
  simp only [Option.bind_some, if_true]
  cases b with
  | false => rw [Bool.not_false, fourinhandlaw17_GroupTells.j0, if_pos rfl]
  | true =>
    obtain ⟨hl, hlen⟩ := hfew rfl
    rw [Bool.not_true, fourinhandlaw17_GroupTells.j0, if_neg (by simp)]
    exact tells_l0 l d hl hlen l.length 0 1999 (by omega) (by omega) (by omega)
end Go.Proofs.Ytefpdneokkcmpaa.Given
