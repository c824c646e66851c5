/- What is put is got, and what is got is put: plain laws. -/
import Derived.Test.YtbogmogimoleaaaHPlainD
namespace Go.Proofs.Ytbogmogimoleaaa.Given
open Go.RowKit Go.Proofs.YtbogmogimoleaaaW.PrintWords Go.Proofs.YtbogmogimoleaaaW.PrintLast Go.Proofs.YtbogmogimoleaaaW.PrintMore Go.Proofs.Ytbogmogimoleaaa.W Go.Proofs.Ytbogmogimoleaaa.Plain7
set_option linter.unusedVariables false
set_option linter.unusedSimpArgs false
theorem numB_be (sz : Nat) (n : Int) (h1 : 1 ≤ sz) (h4 : sz ≤ 4) (h0 : 0 ≤ n) (hn : n < 256 ^ sz) : numB (be sz n) = n := by
  have h : sz = 1 ∨ sz = 2 ∨ sz = 3 ∨ sz = 4 := by omega
  rcases h with rfl | rfl | rfl | rfl
  · rw [be1]; simp only [numB, List.foldl_cons, List.foldl_nil]; omega
  · rw [be2]; simp only [numB, List.foldl_cons, List.foldl_nil]; omega
  · rw [be3]; simp only [four, List.drop_succ_cons, List.drop_zero, numB, List.foldl_cons, List.foldl_nil]; omega
  · rw [be4]; simp only [four, numB, List.foldl_cons, List.foldl_nil]; omega
theorem num_app (a b : List Int) (k sz : Nat) (h : k + sz ≤ a.length) : num (a ++ b) k sz = num a k sz := by
  unfold num
  rw [List.drop_append_of_le_length (by omega), List.take_append_of_le_length (by rw [List.length_drop]; omega)]
theorem num_last (p : List Int) (sz : Nat) (n : Int) (k : Nat) (hk : p.length = k) (h1 : 1 ≤ sz) (h4 : sz ≤ 4) (h0 : 0 ≤ n) (hn : n < 256 ^ sz) : num (p ++ be sz n) k sz = n := by
  unfold num
  rw [List.drop_left' hk, List.take_of_length_le (by rw [be_len]; exact Nat.le_refl _), numB_be sz n h1 h4 h0 hn]
theorem num_left (p r : List Int) (k i sz : Nat) (hk : p.length = k) : num (p ++ r) (k + i) sz = num r i sz := by
  unfold num
  rw [← List.drop_drop, List.drop_left' hk]
theorem sk_num : ∀ (l : List S58) (r : List Int) (i : Nat) (hi : i < l.length), (∀ p ∈ l, u32B p.f0 ∧ u32B p.f1) → num (skB l ++ r) (8 * i) 4 = l[i].f0 ∧ num (skB l ++ r) (8 * i + 4) 4 = l[i].f1
  | [], _, i, hi, _ => by simp at hi
  | p :: l, r, 0, _, h => by
    obtain ⟨⟨h0, h1⟩, ⟨h2, h3⟩⟩ := h p (List.mem_cons_self ..)
    have e : skB (p :: l) = be 4 p.f0 ++ be 4 p.f1 ++ skB l := rfl
    rw [e]
    constructor
    · rw [List.append_assoc, List.append_assoc, num_app _ _ _ _ (by rw [be_len]; decide)]
      have := num_last [] 4 p.f0 0 rfl (by decide) (by decide) h0 (by omega)
      exact this
    · rw [List.append_assoc, num_app _ _ _ _ (by rw [List.length_append, be_len, be_len]; decide)]
      exact num_last (be 4 p.f0) 4 p.f1 4 (be_len _ _) (by decide) (by decide) h2 (by omega)
  | p :: l, r, i + 1, hi, h => by
    have ih := sk_num l r i (by simpa using hi) (fun q hq => h q (List.mem_cons_of_mem _ hq))
    have e : skB (p :: l) = be 4 p.f0 ++ be 4 p.f1 ++ skB l := rfl
    have hl : (be 4 p.f0 ++ be 4 p.f1).length = 8 := by rw [List.length_append, be_len, be_len]
    rw [e, List.append_assoc, show 8 * (i + 1) = 8 + 8 * i by omega, show 8 + 8 * i + 4 = 8 + (8 * i + 4) by omega, num_left _ _ 8 (8 * i) 4 hl, num_left _ _ 8 (8 * i + 4) 4 hl]
    exact ih
theorem sacksB_get (bs : List Int) (j i : Nat) (h : i < (sacksB bs j).length) : (sacksB bs j)[i] = ⟨num bs (32 + 8 * i) 4, num bs (32 + 8 * i + 4) 4⟩ := by simp [sacksB]
theorem segOf_put (s : Sg) (h : okS s) (hm : mayB s = true) : enoughB (outB s) = true ∧ segOf (outB s) = s := by
  have hp := may_parts (a0 := s.a0) (a1 := s.a1) (a2 := s.a2) (a3 := s.a3) (a4 := s.a4) (a5 := s.a5) (a6 := s.a6) (a7 := s.a7) (a8 := s.a8) (a9 := s.a9) (a10 := s.a10) (a11 := s.a11) (a12 := s.a12) (l13 := s.l13) (l14 := s.l14) hm
  obtain ⟨m0, m1, m2, m3, m4, m5, m6, m7, m8, m9, m10⟩ := hp
  obtain ⟨⟨g0, g1⟩, ⟨g2, g3⟩, ⟨g4, g5⟩, ⟨g6, g7⟩, ⟨g8, g9⟩, ⟨g10, g11⟩, ⟨g12, g13⟩, g14, g15⟩ := h
  have hf : 0 ≤ flB s.a2 s.a3 s.a9 ∧ flB s.a2 s.a3 s.a9 < 256 ∧ flB s.a2 s.a3 s.a9 / 4 = s.a9 ∧ (flB s.a2 s.a3 s.a9 % 2 == 1) = s.a2 ∧ (flB s.a2 s.a3 s.a9 / 2 % 2 == 1) = s.a3 := by
    unfold flB
    cases s.a2 <;> cases s.a3 <;> simp <;> omega
  obtain ⟨f0, f1, f2, f3, f4⟩ := hf
  have n0 : num (outB s) 0 1 = s.a0 * 16 + s.a1 := by
    rw [out_eq]
    iterate 12 rw [num_app _ _ _ _ (by simp only [List.length_append, be_len]; omega)]
    exact num_last [] 1 _ 0 rfl (by decide) (by decide) (by omega) (by omega)
  have n1 : num (outB s) 1 1 = flB s.a2 s.a3 s.a9 := by
    rw [out_eq]
    iterate 11 rw [num_app _ _ _ _ (by simp only [List.length_append, be_len]; omega)]
    exact num_last _ 1 _ 1 (by simp only [List.length_append, be_len]) (by decide) (by decide) (by omega) (by omega)
  have n2 : num (outB s) 2 2 = s.a8 := by
    rw [out_eq]
    iterate 10 rw [num_app _ _ _ _ (by simp only [List.length_append, be_len]; omega)]
    exact num_last _ 2 _ 2 (by simp only [List.length_append, be_len]) (by decide) (by decide) (by omega) (by omega)
  have n4 : num (outB s) 4 4 = s.a4 := by
    rw [out_eq]
    iterate 9 rw [num_app _ _ _ _ (by simp only [List.length_append, be_len]; omega)]
    exact num_last _ 4 _ 4 (by simp only [List.length_append, be_len]) (by decide) (by decide) (by omega) (by omega)
  have n5 : num (outB s) 8 4 = s.a5 := by
    rw [out_eq]
    iterate 8 rw [num_app _ _ _ _ (by simp only [List.length_append, be_len]; omega)]
    exact num_last _ 4 _ 8 (by simp only [List.length_append, be_len]) (by decide) (by decide) (by omega) (by omega)
  have n6 : num (outB s) 12 4 = s.a6 := by
    rw [out_eq]
    iterate 7 rw [num_app _ _ _ _ (by simp only [List.length_append, be_len]; omega)]
    exact num_last _ 4 _ 12 (by simp only [List.length_append, be_len]) (by decide) (by decide) (by omega) (by omega)
  have n7 : num (outB s) 16 4 = s.a7 := by
    rw [out_eq]
    iterate 6 rw [num_app _ _ _ _ (by simp only [List.length_append, be_len]; omega)]
    exact num_last _ 4 _ 16 (by simp only [List.length_append, be_len]) (by decide) (by decide) (by omega) (by omega)
  have n10 : num (outB s) 20 3 = s.a10 := by
    rw [out_eq]
    iterate 5 rw [num_app _ _ _ _ (by simp only [List.length_append, be_len]; omega)]
    exact num_last _ 3 _ 20 (by simp only [List.length_append, be_len]) (by decide) (by decide) (by omega) (by omega)
  have n11 : num (outB s) 23 4 = s.a11 := by
    rw [out_eq]
    iterate 4 rw [num_app _ _ _ _ (by simp only [List.length_append, be_len]; omega)]
    exact num_last _ 4 _ 23 (by simp only [List.length_append, be_len]) (by decide) (by decide) (by omega) (by omega)
  have n12 : num (outB s) 27 4 = s.a12 := by
    rw [out_eq]
    iterate 3 rw [num_app _ _ _ _ (by simp only [List.length_append, be_len]; omega)]
    exact num_last _ 4 _ 27 (by simp only [List.length_append, be_len]) (by decide) (by decide) (by omega) (by omega)
  have n31 : num (outB s) 31 1 = (s.l13.length : Int) := by
    rw [out_eq]
    iterate 2 rw [num_app _ _ _ _ (by simp only [List.length_append, be_len]; omega)]
    exact num_last _ 1 _ 31 (by simp only [List.length_append, be_len]) (by decide) (by decide) (by omega) (by omega)
  have hd : (outB s).drop (32 + 8 * s.l13.length) = s.l14 := by
    unfold outB
    rw [List.drop_left' (by rw [List.length_append, hdr_len, skB_len])]
  have hsk : sacksB (outB s) s.l13.length = s.l13 := by
    apply List.ext_getElem
    · rw [sacksB_len]
    · intro i h1 h2
      have hi : i < s.l13.length := h2
      have hk := sk_num s.l13 s.l14 i hi g14
      rw [sacksB_get]
      have e0 : num (outB s) (32 + 8 * i) 4 = s.l13[i].f0 := by
        unfold outB
        rw [List.append_assoc, num_left _ _ 32 (8 * i) 4 (hdr_len s)]
        exact hk.1
      have e1 : num (outB s) (32 + 8 * i + 4) 4 = s.l13[i].f1 := by
        unfold outB
        rw [List.append_assoc, show 32 + 8 * i + 4 = 32 + (8 * i + 4) by omega, num_left _ _ 32 (8 * i + 4) 4 (hdr_len s)]
        exact hk.2
      rw [e0, e1]
  constructor
  · unfold enoughB
    rw [n31, outB_len]
    exact decide_eq_true (by omega)
  · have ha := and_eq f0 f1
    unfold segOf
    rw [n0, n1, n2, n4, n5, n6, n7, n10, n11, n12, n31, ha.1, ha.2, f2, f3, f4, Int.toNat_natCast, hsk, hd, show (s.a0 * 16 + s.a1) / 16 = s.a0 by omega, show (s.a0 * 16 + s.a1) % 16 = s.a1 by omega]
theorem get_put (s : Sg) (h : okS s) (hm : mayB s = true) : getB (seald (outB s)) = (s, 0) := by
  obtain ⟨h1, h2⟩ := segOf_put s h hm
  unfold getB
  rw [opnd_seald]
  simp only
  rw [if_pos trivial, h1, h2, hm]
  rfl
end Go.Proofs.Ytbogmogimoleaaa.Given
