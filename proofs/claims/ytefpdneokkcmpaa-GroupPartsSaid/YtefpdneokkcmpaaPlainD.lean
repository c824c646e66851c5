/- What Of answers: over all tables of six answers, by computing; and that lists have such a table. -/
import Derived.Test.YtefpdneokkcmpaaPlainC
namespace Go.Proofs.Ytefpdneokkcmpaa.Given
open Go.RowKit Go.Proofs.YtefpdneokkcmpaaW.PrintWords Go.Proofs.YtefpdneokkcmpaaW.PrintLast Go.Proofs.YtefpdneokkcmpaaW.PrintMore Go.Proofs.Ytefpdneokkcmpaa.S
set_option linter.unusedVariables false
def tbN (t : Tb) (i j : Nat) : Bool := tbZ t i j
def oth (n i : Nat) : List Nat := (List.range n).filter (fun k => k != i)
def good (t : Tb) (n : Nat) (o : List Int) : Bool :=
  (o.length == n) &&
  (List.range n).all fun i => decide (0 ≤ rd o i) && decide (rd o i ≤ i) && (rd o (rd o i) == rd o i) && (oth n i).all (fun k => !tbN t i k || (rd o i == rd o k)) && ((rd o i == i) || (oth n i).any (fun k => tbN t i k)) &&
    ((oth n i).any (fun k => tbN t i k) || ((rd o i == i) && (oth n i).all (fun k => rd o k != i)))
def chk (t : Tb) (n : Nat) : Bool :=
  match Gt.f 300 t n, Rt.f 300 t n with
  | some o, some q => good t n o && (o == q)
  | _, _ => false
theorem chk_all : ∀ a b c d e f : Bool, (List.range 5).all (fun n => chk ⟨a, b, c, d, e, f⟩ n) = true := by decide +kernel
def Agree (x0 : List (List Int)) (t : Tb) : Prop := ∀ i j : Int, 0 ≤ i → i < (x0.length : Int) → 0 ≤ j → j < (x0.length : Int) → i ≠ j → alikeB (rd_L1 x0 i) (rd_L1 x0 j) = tbZ t i j
theorem of_eq (x0 : List (List Int)) (t : Tb) (hA : Agree x0 t) : ∀ k, (∀ a b c, group_Of.l0 k x0 a b c = Gt.l0 k t x0.length a b c) ∧ (∀ a b c, group_Of.l1 k x0 a b c = Gt.l1 k t x0.length a b c) ∧ (∀ a b c d e f, group_Of.l2 k x0 a b c d e f = Gt.l2 k t x0.length a b c d e f) ∧
    (∀ a b c d e f g h i, group_Of.j3 k x0 a b c d e f g h i = Gt.j3 k t x0.length a b c d e f g h i) ∧ (∀ a b c d e f g h i j, group_Of.l3 k x0 a b c d e f g h i j = Gt.l3 k t x0.length a b c d e f g h i j)
  | 0 => ⟨fun _ _ _ => by rw [group_Of.l0, Gt.l0], fun _ _ _ => by rw [group_Of.l1, Gt.l1], fun _ _ _ _ _ _ => by rw [group_Of.l2, Gt.l2], fun _ _ _ _ _ _ _ _ _ => by rw [group_Of.j3, Gt.j3], fun _ _ _ _ _ _ _ _ _ _ => by rw [group_Of.l3, Gt.l3]⟩
  | k + 1 => by
    obtain ⟨h0, h1, h2, h3, h4⟩ := of_eq x0 t hA k
    refine ⟨?_, ?_, ?_, ?_, ?_⟩
    · intro a b c
      rw [group_Of.l0, Gt.l0, h0, h1]
    · intro a b c
      rw [group_Of.l1, Gt.l1, h2]
    · intro a b c d e f
      rw [group_Of.l2, Gt.l2, h1, h3]
      by_cases c1 : f < e
      · rw [if_pos c1, if_pos c1]
        by_cases c2 : 0 ≤ b
        · rw [if_pos c2, if_pos c2]
          by_cases c3 : b < (a.length : Int)
          · rw [if_pos c3, if_pos c3]
            by_cases c4 : 0 ≤ f
            · rw [if_pos c4, if_pos c4]
              by_cases c5 : f < (a.length : Int)
              · rw [if_pos c5, if_pos c5]
                by_cases c6 : mn (rd a b) (rd a f) = mx (rd a b) (rd a f)
                · rw [if_pos c6, if_pos c6]
                · rw [if_neg c6, if_neg c6]
                  by_cases c7 : f < (x0.length : Int)
                  · rw [if_pos c7, if_pos c7]
                    by_cases c8 : b < (x0.length : Int)
                    · rw [if_pos c8, if_pos c8, alike_eq, hA f b c4 c7 c2 c8]
                      · simp only [Option.bind_some, h3]
                      · intro e
                        apply c6
                        rw [e]
                        unfold mn mx
                        simp
                    · rw [if_neg c8, if_neg c8]
                  · rw [if_neg c7, if_neg c7]
              · rw [if_neg c5, if_neg c5]
            · rw [if_neg c4, if_neg c4]
          · rw [if_neg c3, if_neg c3]
        · rw [if_neg c2, if_neg c2]
      · rw [if_neg c1, if_neg c1]
    · intro a b c d e f g h i
      rw [group_Of.j3, Gt.j3, h2, h4]
    · intro a b c d e f g h i j
      rw [group_Of.l3, Gt.l3, h2, h4, h4]
theorem of_f (k : Nat) (x0 : List (List Int)) (t : Tb) (hA : Agree x0 t) : group_Of.f k x0 = Gt.f k t x0.length := by
  unfold group_Of.f Gt.f
  simp only [(of_eq x0 t hA k).1]
theorem rof_eq (x0 : List (List Int)) (t : Tb) (hA : Agree x0 t) (hlen : ∀ i : Int, (rd_L1 x0 i).length ≤ 50) (z : List Int) : ∀ k, (∀ a b, Rt.l0 k t x0.length a b = some z → fourinhandref17_Of.l0 (k + 200) x0 a b = some z) ∧ (∀ a b, Rt.l1 k t x0.length a b = some z → fourinhandref17_Of.l1 (k + 200) x0 a b = some z) ∧
    (∀ a b c, Rt.l2 k t x0.length a b c = some z → fourinhandref17_Of.l2 (k + 200) x0 a b c = some z) ∧ (∀ a b c d, Rt.l3 k t x0.length a b c d = some z → fourinhandref17_Of.l3 (k + 200) x0 a b c d = some z)
  | 0 => ⟨fun _ _ h => by (rw [Rt.l0] at h; exact nomatch h), fun _ _ h => by (rw [Rt.l1] at h; exact nomatch h), fun _ _ _ h => by (rw [Rt.l2] at h; exact nomatch h), fun _ _ _ _ h => by (rw [Rt.l3] at h; exact nomatch h)⟩
  | k + 1 => by
    obtain ⟨h0, h1, h2, h3⟩ := rof_eq x0 t hA hlen z k
    rw [show k + 1 + 200 = (k + 200) + 1 by omega]
    refine ⟨?_, ?_, ?_, ?_⟩
    · intro a b h
      rw [Rt.l0] at h
      rw [fourinhandref17_Of.l0]
      split at h
      · rename_i c1
        rw [if_pos c1]
        split at h
        · rename_i c2
          rw [if_pos c2]
          exact h0 _ _ h
        · cases h
      · rename_i c1
        rw [if_neg c1]
        exact h1 _ _ h
    · intro a b h
      rw [Rt.l1] at h
      rw [fourinhandref17_Of.l1]
      split at h
      · rename_i c1
        rw [if_pos c1]
        exact h2 _ _ _ h
      · rename_i c1
        rw [if_neg c1]
        exact h
    · intro a b c h
      rw [Rt.l2] at h
      rw [fourinhandref17_Of.l2]
      split at h
      · rename_i c1
        rw [if_pos c1]
        exact h3 _ _ _ _ h
      · rename_i c1
        rw [if_neg c1]
        exact h1 _ _ h
    · intro a b c d h
      rw [Rt.l3] at h
      rw [fourinhandref17_Of.l3]
      by_cases c1 : d < (x0.length : Int)
      · rw [if_pos c1] at h ⊢
        by_cases c2 : 0 ≤ d
        · rw [if_pos c2] at h ⊢
          by_cases c3 : d < (a.length : Int)
          · rw [if_pos c3] at h ⊢
            by_cases c4 : 0 ≤ c
            · rw [if_pos c4] at h ⊢
              by_cases c5 : c < (a.length : Int)
              · rw [if_pos c5] at h ⊢
                by_cases c6 : rd a d < rd a c
                · rw [if_pos c6] at h ⊢
                  by_cases c7 : c < (x0.length : Int)
                  · rw [if_pos c7] at h ⊢
                    have hcd : c ≠ d := by
                      intro e
                      rw [e] at c6
                      omega
                    rw [ralike_eq (k + 200) (by omega) _ _ (hlen c) (hlen d), hA c d c4 c7 c2 c1 hcd]
                    simp only [Option.bind_some] at h ⊢
                    split at h
                    · rename_i c8
                      rw [if_pos c8]
                      exact h3 _ _ _ _ h
                    · rename_i c8
                      rw [if_neg c8]
                      exact h3 _ _ _ _ h
                  · rw [if_neg c7] at h
                    cases h
                · rw [if_neg c6] at h ⊢
                  exact h3 _ _ _ _ h
              · rw [if_neg c5] at h
                cases h
            · rw [if_neg c4] at h
              cases h
          · rw [if_neg c3] at h
            cases h
        · rw [if_neg c2] at h
          cases h
      · rw [if_neg c1] at h ⊢
        exact h2 _ _ _ h
theorem rof_f (x0 : List (List Int)) (t : Tb) (hA : Agree x0 t) (hlen : ∀ i : Int, (rd_L1 x0 i).length ≤ 50) (z : List Int) (h : Rt.f 300 t x0.length = some z) : fourinhandref17_Of.f 500 x0 = some z := by
  unfold fourinhandref17_Of.f
  unfold Rt.f at h
  split at h
  · rename_i c
    rw [if_pos c]
    exact h
  · rename_i c
    rw [if_neg c]
    exact (rof_eq x0 t hA hlen z 300).1 _ _ h
/-- The table of four lists at most. -/
def tbOf (x0 : List (List Int)) : Tb := ⟨alikeB (rd_L1 x0 1) (rd_L1 x0 0), alikeB (rd_L1 x0 2) (rd_L1 x0 0), alikeB (rd_L1 x0 2) (rd_L1 x0 1), alikeB (rd_L1 x0 3) (rd_L1 x0 0), alikeB (rd_L1 x0 3) (rd_L1 x0 1), alikeB (rd_L1 x0 3) (rd_L1 x0 2)⟩
theorem agree (x0 : List (List Int)) (h : x0.length ≤ 4) : Agree x0 (tbOf x0) := by
  intro i j h1 h2 h3 h4 h5
  have hi : i = 0 ∨ i = 1 ∨ i = 2 ∨ i = 3 := by omega
  have hj : j = 0 ∨ j = 1 ∨ j = 2 ∨ j = 3 := by omega
  rcases hi with rfl | rfl | rfl | rfl <;> rcases hj with rfl | rfl | rfl | rfl <;> first | exact absurd rfl h5 | rfl | exact alike_comm _ _
/-- What Of answers: a list that is good. -/
theorem of_good (x0 : List (List Int)) (h : x0.length ≤ 4) (k : Nat) (hk : 300 ≤ k) : ∃ o, group_Of.f k x0 = some o ∧ good (tbOf x0) x0.length o = true ∧ ((∀ i : Int, (rd_L1 x0 i).length ≤ 50) → fourinhandref17_Of.f 500 x0 = some o) := by
  have hc : chk (tbOf x0) x0.length = true := by
    have := chk_all (tbOf x0).b10 (tbOf x0).b20 (tbOf x0).b21 (tbOf x0).b30 (tbOf x0).b31 (tbOf x0).b32
    rw [List.all_eq_true] at this
    exact this x0.length (List.mem_range.2 (by omega))
  unfold chk at hc
  have hA := agree x0 h
  have hf := of_f 300 x0 _ hA
  split at hc
  · rename_i o q e1 e2
    rw [Bool.and_eq_true, beq_iff_eq] at hc
    obtain ⟨hg, rfl⟩ := hc
    rw [e1] at hf
    refine ⟨o, ?_, hg, fun hl => rof_f x0 _ hA hl o e2⟩
    exact at_rounds (fun k => group_Of.mono x0 k) hk hf
  · cases hc
end Go.Proofs.Ytefpdneokkcmpaa.Given
