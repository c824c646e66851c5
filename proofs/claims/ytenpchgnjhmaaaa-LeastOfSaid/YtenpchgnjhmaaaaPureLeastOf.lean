import Derived.Test.YtenpchgnjhmaaaaPlainD
import Derived.Test.YtenpchgnjhmaaaaSx11
namespace Go.Proofs.Ytenpchgnjhmaaaa.Pure
open Go.RowKit Go.Proofs.Ytenpchgnjhmaaaa.S Go.Proofs.Ytenpchgnjhmaaaa.Given Go.Proofs.YtenpchgnjhmaaaaW.PrintWords Go.Proofs.YtenpchgnjhmaaaaW.PrintLast
set_option linter.unusedVariables false
theorem wfold_cons (span a w : Int) (p : S38) (t : List S38) : wfold span a w (p :: t) = wfold span a (stepW span a w p) t := rfl
/-- The loop that looks for the least one of those in the while. -/
theorem l1_loop (x0 : Int) (x1 x2 : List Int) (at2 : Int) (fr i : Nat) (W : List Int) (span high : Int) (L P : List S38) (R : Nat) (hfr : fr + P.length = i) (hi : i ≤ 1000) (hW : i ≤ W.length) (hS : i ≤ x2.length) (hat : 0 ≤ at2 ∧ at2 ≤ 1152921504606846976)
    (hP : ∀ p ∈ P, 0 ≤ p.f0 ∧ p.f0 ≤ at2) (hrw : ∀ j (h : j < P.length), rd W ((fr + j : Nat) : Int) = P[j].f0) (hrs : ∀ j (h : j < P.length), rd x2 ((fr + j : Nat) : Int) = P[j].f1) :
    ∀ (m j k : Nat) (want : Int), P.length - j = m → j ≤ P.length → R + m ≤ k →
      (∀ k', R ≤ k' → fourinhandlaw09_LeastOf.l1 k' x0 x1 x2 at2 fr W i (wfold x0 at2 want (P.drop j)) (i : Int) span L high = some true) →
      fourinhandlaw09_LeastOf.l1 k x0 x1 x2 at2 fr W i want ((fr + j : Nat) : Int) span L high = some true := by
  intro m
  induction m with
  | zero =>
    intro j k want h1 h2 hk hend
    obtain rfl : j = P.length := by omega
    rw [List.drop_length] at hend
    rw [show fr + P.length = i by omega]
    exact hend k (by omega)
  | succ m ih =>
    intro j k want h1 h2 hk hend
    obtain ⟨k, rfl⟩ : ∃ q, k = q + 1 := ⟨k - 1, by omega⟩
    have hj : j < P.length := by omega
    have hp := hP P[j] (List.getElem_mem _)
    rw [fourinhandlaw09_LeastOf.l1, if_pos (by omega), if_pos (by omega), if_pos (by omega), hrw j hj, w64 (at2 - P[j].f0) (by omega) (by omega), w64 (((fr + j : Nat) : Int) + 1) (by omega) (by omega), show ((fr + j : Nat) : Int) + 1 = ((fr + (j + 1) : Nat) : Int) by omega]
    rw [List.drop_eq_getElem_cons hj, wfold_cons] at hend
    by_cases c : at2 - P[j].f0 ≤ x0
    · rw [if_pos c, if_pos (by omega), hrs j hj]
      by_cases c2 : P[j].f1 < want
      · rw [if_pos c2]
        refine ih (j + 1) k _ (by omega) (by omega) (by omega) ?_
        have e : stepW x0 at2 want P[j] = P[j].f1 := by unfold stepW; rw [if_pos c, if_pos c2]
        rwa [e] at hend
      · rw [if_neg c2]
        refine ih (j + 1) k _ (by omega) (by omega) (by omega) ?_
        have e : stepW x0 at2 want P[j] = want := by unfold stepW; rw [if_pos c, if_neg c2]
        rwa [e] at hend
    · rw [if_neg c]
      refine ih (j + 1) k _ (by omega) (by omega) (by omega) ?_
      have e : stepW x0 at2 want P[j] = want := by unfold stepW; rw [if_neg c]
      rwa [e] at hend
theorem rd_app_lt (W : List Int) (x : Int) (j : Nat) (h : j < W.length) : rd (W ++ [x]) (j : Int) = rd W (j : Int) := by
  unfold rd
  rw [Int.toNat_natCast, List.getD_eq_getElem?_getD, List.getD_eq_getElem?_getD, List.getElem?_append_left h]
theorem rd_app_eq (W : List Int) (x : Int) : rd (W ++ [x]) (W.length : Int) = x := by
  unfold rd
  rw [Int.toNat_natCast, List.getD_eq_getElem?_getD, List.getElem?_append_right (Nat.le_refl _)]
  simp
theorem l0_loop (x0 : Int) (h01 : 1 ≤ x0) (x1 x2 : List Int) (hl1 : x1.length ≤ 90) (hl2 : x1.length ≤ x2.length) : ∀ (m i k : Nat) (at_ : Int) (fr : Nat) (W : List Int) (L P : List S38) (high : Int), x1.length - i = m → i ≤ x1.length → 110 + m * 110 ≤ k →
    W.length = i → fr + P.length = i → at_ ≤ i * 1000000 → Tells x0 at_ L P high i → (∀ j (h : j < P.length), rd W ((fr + j : Nat) : Int) = P[j].f0) → (∀ j (h : j < P.length), rd x2 ((fr + j : Nat) : Int) = P[j].f1) →
    fourinhandlaw09_LeastOf.l0 k x0 x1 x2 at_ fr W i x0 L high = some true := by
  intro m
  induction m with
  | zero =>
    intro i k at_ fr W L P high h1 h2 hk _ _ _ _ _ _
    obtain ⟨k, rfl⟩ : ∃ q, k = q + 1 := ⟨k - 1, by omega⟩
    rw [fourinhandlaw09_LeastOf.l0, if_neg (by omega)]
  | succ m ih =>
    intro i k at_ fr W L P high h1 h2 hk hWl hfr hat ht hrw hrs
    obtain ⟨k, rfl⟩ : ∃ q, k = q + 3 := ⟨k - 3, by omega⟩
    have hbad : ∀ a b c d e f g, fourinhandlaw09_LeastOf.j2 (k + 2) x0 x1 x2 a b c d true e f g = some true := fun _ _ _ _ _ _ _ => by rw [fourinhandlaw09_LeastOf.j2, if_pos rfl]
    rw [fourinhandlaw09_LeastOf.l0, if_pos (by omega), if_pos (by omega)]
    have hi : i < x1.length := by omega
    by_cases c1 : rd x1 i < 0
    · rw [if_pos c1, hbad]
    rw [if_neg c1]
    by_cases c2 : rd x1 i > 1000000
    · rw [if_pos c2, hbad]
    rw [if_neg c2, if_pos (by omega)]
    by_cases c3 : rd x2 i < 0
    · rw [if_pos c3, hbad]
    rw [if_neg c3]
    by_cases c4 : rd x2 i > 1000000
    · rw [decide_eq_true c4, hbad]
    have h0 := ht.at0
    rw [decide_eq_false c4, fourinhandlaw09_LeastOf.j2, if_neg (by simp), if_pos (by omega), if_pos (by omega), if_pos (by omega), Option.bind_some, if_pos (by omega), w64 (at_ + rd x1 i) (by omega) (by omega)]
    generalize hd : rd x1 i = d at *
    generalize hn : rd x2 i = n at *
    obtain ⟨at2, hat2⟩ : ∃ at2, at_ + d = at2 := ⟨_, rfl⟩
    rw [hat2]
    have cm := ht.ok (n := n) (at2 := at2) (by omega) (by omega) (by omega) (by omega)
    have hWi : ∀ j (h : j < P.length), rd (W ++ [at2]) ((fr + j : Nat) : Int) = P[j].f0 := fun j h => by rw [rd_app_lt W at2 (fr + j) (by omega)]; exact hrw j h
    have hWn : rd (W ++ [at2]) (i : Int) = at2 := by rw [← hWl]; exact rd_app_eq W at2
    have hcast : ((i + 1 : Nat) : Int) = (i : Int) + 1 := by omega
    have hmul : at2 ≤ ((i + 1 : Nat) : Int) * 1000000 := by rw [hcast]; omega
    -- what the inner loop and the test behind it come to
    have fin : ∀ (fr2 : Nat) (L2 P2 : List S38) (high2 : Int), fr2 + P2.length = i → Tells x0 at2 L2 (P2 ++ [⟨at2, n⟩]) high2 (i + 1) → (∀ p ∈ P2, 0 ≤ p.f0 ∧ p.f0 ≤ at2) → (∀ j (h : j < P2.length), rd (W ++ [at2]) ((fr2 + j : Nat) : Int) = P2[j].f0) → (∀ j (h : j < P2.length), rd x2 ((fr2 + j : Nat) : Int) = P2[j].f1) →
        fourinhandlaw09_LeastOf.j3 (k + 1) x0 x1 x2 at2 fr2 (W ++ [at2]) i x0 L2 high2 = some true := by
      intro fr2 L2 P2 high2 hf2 ht2 hp2 hw2 hs2
      rw [fourinhandlaw09_LeastOf.j3, if_pos (by omega), if_pos (by omega), hn]
      have := l1_loop x0 x1 x2 at2 fr2 i (W ++ [at2]) x0 high2 L2 P2 (k - P2.length) hf2 (by omega) (by simp; omega) (by omega) ⟨by omega, by omega⟩ hp2 hw2 hs2 P2.length 0 k n (by omega) (by omega) (by omega) ?_
      · exact this
      intro k' hk'
      obtain ⟨q, rfl⟩ : ∃ q, k' = q + 1 := ⟨k' - 1, by omega⟩
      have hg := ht2.good
      have hina : inB at2 0 1152921504606846976 = true := inB_iff.2 ⟨by omega, by omega⟩
      rw [fourinhandlaw09_LeastOf.l1, if_neg (by omega), of_eq, Option.bind_some, hg, hina]
      simp only [Bool.and_self, if_true]
      rw [ht2.told at2 (Int.le_refl _) (by omega), mnF_snoc, List.drop_zero, wfold_eq, w64 ((i : Int) + 1) (by omega) (by omega)]
      have hs : stepM x0 at2 (mnF x0 at2 P2) ⟨at2, n⟩ = some (comb (mnF x0 at2 P2) n) := by
        unfold stepM
        rw [if_pos (show at2 - at2 ≤ x0 by omega)]
        cases mnF x0 at2 P2 with
        | none => rfl
        | some m =>
          show some (if n < m then n else m) = some (if m < n then m else n)
          congr 1
          by_cases c1 : m < n
          · rw [if_pos c1, if_neg (by omega)]
          · rw [if_neg c1]
            by_cases c2 : n < m
            · rw [if_pos c2]
            · rw [if_neg c2]
              omega
      rw [hs, show conv (some (comb (mnF x0 at2 P2) n)) = (comb (mnF x0 at2 P2) n, true) from rfl, if_pos rfl, if_pos rfl, may_eq q (by omega), Option.bind_some, hg, if_pos rfl, ← hcast]
      have hx : ∀ j (h : j < (P2 ++ [(⟨at2, n⟩ : S38)]).length), rd (W ++ [at2]) ((fr2 + j : Nat) : Int) = (P2 ++ [(⟨at2, n⟩ : S38)])[j].f0 := by
        intro j h
        by_cases c : j < P2.length
        · rw [List.getElem_append_left c]
          exact hw2 j c
        · have : j = P2.length := by simp at h; omega
          subst this
          rw [hf2, hWn]
          simp
      have hy : ∀ j (h : j < (P2 ++ [(⟨at2, n⟩ : S38)]).length), rd x2 ((fr2 + j : Nat) : Int) = (P2 ++ [(⟨at2, n⟩ : S38)])[j].f1 := by
        intro j h
        by_cases c : j < P2.length
        · rw [List.getElem_append_left c]
          exact hs2 j c
        · have : j = P2.length := by simp at h; omega
          subst this
          rw [hf2, hn]
          simp
      exact ih (i + 1) q at2 fr2 (W ++ [at2]) L2 (P2 ++ [⟨at2, n⟩]) high2 (by omega) (by omega) (by omega) (by simp; omega) (by simp; omega) hmul ht2 hx hy
    rw [met_eq, Option.bind_some]
    have hpp : ∀ p ∈ P, 0 ≤ p.f0 ∧ p.f0 ≤ at2 := fun p hp => by have := ht.pts p hp; omega
    by_cases c8 : highM x0 at2 n high L = 8
    · rw [metR_turn cm c8, if_pos rfl, if_pos rfl]
      exact fin i [⟨at2, n⟩] [] 0 (by simp) (ht.turn (by omega) (by omega) cm) (fun p hp => by cases hp) (fun j h => absurd h (by simp)) (fun j h => absurd h (by simp))
    · rw [metR_more cm c8, if_pos rfl, if_neg (by simp)]
      exact fin fr _ P _ hfr (ht.more (by omega) (by omega) (by omega) cm c8) hpp hWi hrs
theorem LeastOf : fourinhandlaw09_LeastOf.Pure := by
  intro a0 l1 l2 _ _ _ _ _ _ _
  refine ⟨20000, ?_⟩
  unfold fourinhandlaw09_LeastOf.f
  rw [awake_eq 20000 (by omega), Option.bind_some, if_pos rfl]
  have hbad : fourinhandlaw09_LeastOf.j0 20000 a0 l1 l2 true true = some true := by rw [fourinhandlaw09_LeastOf.j0, if_pos rfl]
  by_cases c1 : a0 < 1
  · rw [if_pos c1, hbad]
  rw [if_neg c1]
  by_cases c2 : a0 > 1000000
  · rw [if_pos c2, hbad]
  rw [if_neg c2]
  by_cases c3 : (l1.length : Int) > 90
  · rw [if_pos c3, hbad]
  rw [if_neg c3]
  by_cases c4 : (l2.length : Int) < (l1.length : Int)
  · rw [decide_eq_true c4, hbad]
  rw [decide_eq_false c4, fourinhandlaw09_LeastOf.j0, if_neg (by simp)]
  exact l0_loop a0 (by omega) l1 l2 (by omega) (by omega) l1.length 0 19999 0 0 [] [] [] 0 (by omega) (by omega) (by omega) rfl rfl (by omega)
    ⟨good_iff.2 ⟨⟨by omega, by omega⟩, by simp, by omega, rfl⟩, by simp, by simp, by omega, by simp, fun _ _ _ => rfl⟩ (fun j h => absurd h (by simp)) (fun j h => absurd h (by simp))
end Go.Proofs.Ytenpchgnjhmaaaa.Pure
