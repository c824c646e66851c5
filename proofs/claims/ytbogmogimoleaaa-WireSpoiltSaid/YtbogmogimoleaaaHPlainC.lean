/- Two segments that are told alike: plain laws. -/
import Derived.Test.YtbogmogimoleaaaHPlainB
import Derived.Test.YtbogmogimoleaaaWx
namespace Go.Proofs.Ytbogmogimoleaaa.Given
open Go.RowKit Go.Proofs.YtbogmogimoleaaaW.PrintWords Go.Proofs.YtbogmogimoleaaaW.PrintLast Go.Proofs.YtbogmogimoleaaaW.PrintMore Go.Proofs.Ytbogmogimoleaaa.W Go.Proofs.Ytbogmogimoleaaa.Plain7
set_option linter.unusedVariables false
set_option linter.unusedSimpArgs false
theorem same_l0 (s t : Sg) (h3 : s.l13.length = t.l13.length) (hl : s.l13.length ≤ 100000) (h4 : s.l14.length ≤ 1000000) (d : Nat) : ∀ (k i : Nat), i ≤ s.l13.length → s.l13.length - i = d → d + 1000005 ≤ k →
    ∃ b, fourinhandref07_Same.l0 k (i : Int) s.a0 s.a1 s.a2 s.a3 s.a4 s.a5 s.a6 s.a7 s.a8 s.a9 s.a10 s.a11 s.a12 s.l13 s.l14 t.a0 t.a1 t.a2 t.a3 t.a4 t.a5 t.a6 t.a7 t.a8 t.a9 t.a10 t.a11 t.a12 t.l13 t.l14 = some b ∧ (s = t → b = true) := by
  induction d with
  | zero =>
    intro k i hi hd hk
    obtain ⟨k, rfl⟩ : ∃ m, k = m + 1 := ⟨k - 1, by omega⟩
    simp only [fourinhandref07_Same.l0]
    rw [if_neg (by omega), same_eq k s.l14 t.l14 (by omega) (by omega), Option.bind_some]
    by_cases he : s = t
    · subst he
      exact ⟨true, by simp, fun _ => rfl⟩
    · repeat' split
      all_goals exact ⟨_, rfl, fun h => absurd h he⟩
  | succ d ih =>
    intro k i hi hd hk
    obtain ⟨k, rfl⟩ : ∃ m, k = m + 1 := ⟨k - 1, by omega⟩
    simp only [fourinhandref07_Same.l0]
    rw [if_pos (by omega), if_pos (by omega), if_pos (by omega), w1 i s.l13.length (by omega) (by omega)]
    by_cases he : s = t
    · subst he
      rw [if_neg (by simp)]
      exact ih k (i + 1) (by omega) (by omega) (by omega)
    · split
      · exact ⟨_, rfl, fun h => absurd h he⟩
      · exact ih k (i + 1) (by omega) (by omega) (by omega)
theorem same_j0 (s t : Sg) (x : Bool) (h3 : s.l13.length = t.l13.length) (hl : s.l13.length ≤ 100000) (h4 : s.l14.length ≤ 1000000) (k : Nat) (hk : 1100010 ≤ k) (hx : s = t → x = false) :
    ∃ b, fourinhandref07_Same.j0 k x s.a0 s.a1 s.a2 s.a3 s.a4 s.a5 s.a6 s.a7 s.a8 s.a9 s.a10 s.a11 s.a12 s.l13 s.l14 t.a0 t.a1 t.a2 t.a3 t.a4 t.a5 t.a6 t.a7 t.a8 t.a9 t.a10 t.a11 t.a12 t.l13 t.l14 = some b ∧ (s = t → b = true) := by
  obtain ⟨k, rfl⟩ : ∃ m, k = m + 1 := ⟨k - 1, by omega⟩
  simp only [fourinhandref07_Same.j0]
  split
  · rename_i hxt
    exact ⟨_, rfl, fun h => by rw [hx h] at hxt; cases hxt⟩
  · exact same_l0 s t h3 hl h4 _ k 0 (by omega) rfl (by omega)
theorem same_no (s t : Sg) (k : Nat) (hk : 1 ≤ k) (hne : s ≠ t) : ∃ b, fourinhandref07_Same.j0 k true s.a0 s.a1 s.a2 s.a3 s.a4 s.a5 s.a6 s.a7 s.a8 s.a9 s.a10 s.a11 s.a12 s.l13 s.l14 t.a0 t.a1 t.a2 t.a3 t.a4 t.a5 t.a6 t.a7 t.a8 t.a9 t.a10 t.a11 t.a12 t.l13 t.l14 = some b ∧ (s = t → b = true) := by
  obtain ⟨k, rfl⟩ : ∃ m, k = m + 1 := ⟨k - 1, by omega⟩
  simp only [fourinhandref07_Same.j0]
  exact ⟨false, by simp, fun h => absurd h hne⟩
theorem same_f (s t : Sg) (k : Nat) (hk : 1100010 ≤ k) (hl : s.l13.length ≤ 100000) (h4 : s.l14.length ≤ 1000000) :
    ∃ b, fourinhandref07_Same.f k s.a0 s.a1 s.a2 s.a3 s.a4 s.a5 s.a6 s.a7 s.a8 s.a9 s.a10 s.a11 s.a12 s.l13 s.l14 t.a0 t.a1 t.a2 t.a3 t.a4 t.a5 t.a6 t.a7 t.a8 t.a9 t.a10 t.a11 t.a12 t.l13 t.l14 = some b ∧ (s = t → b = true) := by
  by_cases he : s = t
  · subst he
    have h := same_j0 s s (s.a7 != s.a7) rfl hl h4 k hk (fun _ => by simp)
    unfold fourinhandref07_Same.f
    rw [if_pos rfl, if_pos rfl, if_pos rfl, if_neg (by simp), if_neg (by simp), if_pos rfl, if_pos rfl, if_pos rfl]
    exact h
  · have hno := same_no s t k (by omega) he
    unfold fourinhandref07_Same.f
    split
    · rename_i h3
      have h3' : s.l13.length = t.l13.length := by omega
      repeat' split
      all_goals first | exact hno | exact same_j0 s t _ h3' hl h4 k hk (fun h => absurd h he)
    · exact hno
end Go.Proofs.Ytbogmogimoleaaa.Given
