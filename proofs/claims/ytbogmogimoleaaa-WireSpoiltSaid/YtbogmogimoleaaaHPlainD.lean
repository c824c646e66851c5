/- The document's Put, as a plain law. -/
import Derived.Test.YtbogmogimoleaaaHPlainC
namespace Go.Proofs.Ytbogmogimoleaaa.Given
open Go.RowKit Go.Proofs.YtbogmogimoleaaaW.PrintWords Go.Proofs.YtbogmogimoleaaaW.PrintLast Go.Proofs.YtbogmogimoleaaaW.PrintMore Go.Proofs.Ytbogmogimoleaaa.W Go.Proofs.Ytbogmogimoleaaa.Plain7
set_option linter.unusedVariables false
set_option linter.unusedSimpArgs false
theorem be4 (n : Int) : be 4 n = four n := by
  unfold be four
  simp [List.range_succ]
theorem be3 (n : Int) : be 3 n = (four n).drop 1 := by
  unfold be four
  simp [List.range_succ]
theorem be2 (n : Int) : be 2 n = [n / 256 % 256, n % 256] := by
  unfold be
  simp [List.range_succ]
theorem be1 (n : Int) : be 1 n = [n % 256] := by
  unfold be
  simp [List.range_succ]
theorem four_f {n : Int} (h : u32B n) : fourinhandref03_Four.f (wrap64 n) = some (be 4 n) := by
  rw [w64 h, rfour_eq n h, be4]
theorem skB_drop (l : List S58) (j : Nat) (hj : j < l.length) : skB (l.drop j) = be 4 l[j].f0 ++ be 4 l[j].f1 ++ skB (l.drop (j + 1)) := by
  unfold skB
  rw [List.drop_eq_getElem_cons hj, List.flatMap_cons]
theorem rput_l1 (s : Sg) (h : okS s) (hl : s.l13.length ≤ 3) (h14 : s.l14.length ≤ 1460) (d : Nat) : ∀ (k j : Nat) (acc : List Int), j ≤ s.l13.length → s.l13.length - j = d → d + 20000 ≤ k → Byt acc → acc.length ≤ 100 + 8 * j →
    fourinhandref07_Put.l1 k acc (j : Int) s.a0 s.a1 s.a2 s.a3 s.a4 s.a5 s.a6 s.a7 s.a8 s.a9 s.a10 s.a11 s.a12 s.l13 s.l14 = some (seald (acc ++ skB (s.l13.drop j) ++ s.l14), 0) := by
  induction d with
  | zero =>
    intro k j acc hj hd hk hb hn
    obtain ⟨k, rfl⟩ : ∃ m, k = m + 1 := ⟨k - 1, by omega⟩
    simp only [fourinhandref07_Put.l1]
    have hlen : (acc ++ s.l14).length ≤ 2000 := by rw [List.length_append]; omega
    rw [if_neg (by omega), if_pos (by omega), rseal_eq k (acc ++ s.l14) (by omega) (byt_app hb h.h14) (by omega), Option.bind_some, List.drop_eq_nil_of_le (by omega)]
    simp [skB]
  | succ d ih =>
    intro k j acc hj hd hk hb hn
    obtain ⟨k, rfl⟩ : ∃ m, k = m + 1 := ⟨k - 1, by omega⟩
    have hjl : j < s.l13.length := by omega
    have hrd : rd_T58 s.l13 (j : Int) = s.l13[j] := by unfold rd_T58; simp [List.getD_eq_getElem?_getD, hjl]
    obtain ⟨hp0, hp1⟩ := h.h13 s.l13[j] (List.getElem_mem hjl)
    have hlen : (acc ++ be 4 s.l13[j].f0).length ≤ 100 + 8 * j + 4 := by rw [List.length_append, be_len]; omega
    simp only [fourinhandref07_Put.l1]
    rw [if_pos (by omega), if_pos (by omega), hrd, four_f hp0, Option.bind_some, if_pos (by rw [be_len]; omega), Option.bind_some, four_f hp1, Option.bind_some, if_pos (by rw [be_len]; omega), w1 j s.l13.length hjl (by omega),
      ih k (j + 1) _ (by omega) (by omega) (by omega) (byt_app (byt_app hb (be_byt _ _)) (be_byt _ _)) (by rw [List.length_append, be_len]; omega), skB_drop s.l13 j hjl]
    simp only [List.append_assoc]
theorem rd4 (a b c d : Int) : rd [a, b, c, d] 0 = a ∧ rd [a, b, c, d] 1 = b ∧ rd [a, b, c, d] 2 = c ∧ rd [a, b, c, d] 3 = d := ⟨rfl, rfl, rfl, rfl⟩
theorem rput_l0 (s : Sg) (h : okS s) (hl : s.l13.length ≤ 3) (h14 : s.l14.length ≤ 1460) (k : Nat) (hk : 20100 ≤ k) (acc : List Int) (hb : Byt acc) (hn : acc.length ≤ 4) :
    fourinhandref07_Put.l0 k acc [s.a4, s.a5, s.a6, s.a7] 0 s.a0 s.a1 s.a2 s.a3 s.a4 s.a5 s.a6 s.a7 s.a8 s.a9 s.a10 s.a11 s.a12 s.l13 s.l14 = some (seald (acc ++ be 4 s.a4 ++ be 4 s.a5 ++ be 4 s.a6 ++ be 4 s.a7 ++ be 3 s.a10 ++ be 4 s.a11 ++ be 4 s.a12 ++ be 1 (s.l13.length : Int) ++ skB s.l13 ++ s.l14), 0) := by
  obtain ⟨k, rfl⟩ : ∃ m, k = m + 5 := ⟨k - 5, by omega⟩
  have e0 : wrap64 (0 + 1) = 1 := by unfold wrap64; rfl
  have e1 : wrap64 (1 + 1) = 2 := by unfold wrap64; rfl
  have e2 : wrap64 (2 + 1) = 3 := by unfold wrap64; rfl
  have e3 : wrap64 (3 + 1) = 4 := by unfold wrap64; rfl
  have q := rd4 s.a4 s.a5 s.a6 s.a7
  have hlen : (([s.a4, s.a5, s.a6, s.a7] : List Int).length : Int) = 4 := rfl
  rw [fourinhandref07_Put.l0, if_pos (by decide), if_pos (by decide), if_pos (by rw [hlen]; decide), q.1, four_f h.h4, Option.bind_some, if_pos (by rw [be_len]; omega), e0]
  rw [fourinhandref07_Put.l0, if_pos (by decide), if_pos (by decide), if_pos (by rw [hlen]; decide), q.2.1, four_f h.h5, Option.bind_some, if_pos (by simp only [List.length_append, be_len]; omega), e1]
  rw [fourinhandref07_Put.l0, if_pos (by decide), if_pos (by decide), if_pos (by rw [hlen]; decide), q.2.2.1, four_f h.h6, Option.bind_some, if_pos (by simp only [List.length_append, be_len]; omega), e2]
  rw [fourinhandref07_Put.l0, if_pos (by decide), if_pos (by decide), if_pos (by rw [hlen]; decide), q.2.2.2, four_f h.h7, Option.bind_some, if_pos (by simp only [List.length_append, be_len]; omega), e3]
  rw [fourinhandref07_Put.l0, if_neg (by decide), four_f h.h10, Option.bind_some, if_pos (by rw [be_len]; decide), Option.bind_some, if_pos (by simp only [List.length_append, be_len, List.length_drop]; omega), Option.bind_some, four_f h.h11, Option.bind_some, if_pos (by simp only [List.length_append, be_len, List.length_drop]; omega), Option.bind_some, four_f h.h12, Option.bind_some, if_pos (by simp only [List.length_append, be_len, List.length_drop]; omega), Option.bind_some, if_pos (by simp only [List.length_append, be_len, List.length_drop]; omega)]
  have hl1 := rput_l1 s h hl h14 s.l13.length k 0 (acc ++ be 4 s.a4 ++ be 4 s.a5 ++ be 4 s.a6 ++ be 4 s.a7 ++ be 3 s.a10 ++ be 4 s.a11 ++ be 4 s.a12 ++ be 1 (s.l13.length : Int)) (by omega) (by omega) (by omega) (by repeat (first | exact hb | exact be_byt _ _ | apply byt_app)) (by simp only [List.length_append, be_len]; omega)
  rw [List.drop_zero] at hl1
  rw [be4 s.a10, ← be3, ← be1]
  exact hl1
theorem out_eq (s : Sg) : outB s = be 1 (s.a0 * 16 + s.a1) ++ be 1 (flB s.a2 s.a3 s.a9) ++ be 2 s.a8 ++ be 4 s.a4 ++ be 4 s.a5 ++ be 4 s.a6 ++ be 4 s.a7 ++ be 3 s.a10 ++ be 4 s.a11 ++ be 4 s.a12 ++ be 1 (s.l13.length : Int) ++ skB s.l13 ++ s.l14 := by
  unfold outB bes hdrP
  simp only [List.flatMap_cons, List.flatMap_nil, List.append_nil, List.append_assoc]
set_option maxHeartbeats 2000000 in
theorem rput_eq (s : Sg) (h : okS s) (k : Nat) (hk : 20200 ≤ k) : fourinhandref07_Put.f k s.a0 s.a1 s.a2 s.a3 s.a4 s.a5 s.a6 s.a7 s.a8 s.a9 s.a10 s.a11 s.a12 s.l13 s.l14 = some (if mayB s = true then (seald (outB s), 0) else ([], 1)) := by
  unfold fourinhandref07_Put.f
  rw [rmay_eq s, Option.bind_some]
  by_cases hm : mayB s = true
  · rw [if_pos hm, if_pos hm]
    obtain ⟨k, rfl⟩ : ∃ m, k = m + 2 := ⟨k - 2, by omega⟩
    have hp := may_parts (a0 := s.a0) (a1 := s.a1) (a2 := s.a2) (a3 := s.a3) (a4 := s.a4) (a5 := s.a5) (a6 := s.a6) (a7 := s.a7) (a8 := s.a8) (a9 := s.a9) (a10 := s.a10) (a11 := s.a11) (a12 := s.a12) (l13 := s.l13) (l14 := s.l14) hm
    obtain ⟨m0, m1, m2, m3, m4, m5, m6, m7, m8, m9, m10⟩ := hp
    have w4 : wrap64 (4 * s.a9) = 4 * s.a9 := by unfold wrap64; omega
    have w5 : wrap64 (4 * s.a9 + 1) = 4 * s.a9 + 1 := by unfold wrap64; omega
    have w6 : wrap64 (4 * s.a9 + 1 + 2) = 4 * s.a9 + 1 + 2 := by unfold wrap64; omega
    have w7 : wrap64 (4 * s.a9 + 2) = 4 * s.a9 + 2 := by unfold wrap64; omega
    have w8 : wrap64 (wrap64 (16 * s.a0) + s.a1) = s.a0 * 16 + s.a1 := by unfold wrap64; omega
    have w9 : wrap64 (Int.tdiv s.a8 256) = s.a8 / 256 := by rw [Int.tdiv_eq_ediv_of_nonneg m4]; unfold wrap64; omega
    have w10 : Int.tmod s.a8 256 = s.a8 % 256 := Int.tmod_eq_emod_of_nonneg m4
    have key : ∀ (fl : Int), fl = flB s.a2 s.a3 s.a9 → fourinhandref07_Put.l0 k ([(wrap64 ((wrap64 (16 * s.a0)) + s.a1)) % 256, fl % 256, (wrap64 (Int.tdiv s.a8 256)) % 256, (Int.tmod s.a8 256) % 256] : List Int) ([s.a4, s.a5, s.a6, s.a7] : List Int) 0 s.a0 s.a1 s.a2 s.a3 s.a4 s.a5 s.a6 s.a7 s.a8 s.a9 s.a10 s.a11 s.a12 s.l13 s.l14 = some (seald (outB s), 0) := by
      intro fl hfl
      rw [w8, w9, w10]
      have hacc : ([(s.a0 * 16 + s.a1) % 256, fl % 256, s.a8 / 256 % 256, s.a8 % 256 % 256] : List Int) = be 1 (s.a0 * 16 + s.a1) ++ be 1 fl ++ be 2 s.a8 := by
        rw [be1, be1, be2]
        have : s.a8 % 256 % 256 = s.a8 % 256 := by omega
        rw [this]
        rfl
      rw [hacc, rput_l0 s h (by omega) (by omega) k (by omega) _ (byt_app (byt_app (be_byt _ _) (be_byt _ _)) (be_byt _ _)) (by simp only [List.length_append, be_len]; omega), out_eq s, hfl]
    cases hf : s.a2 <;> cases he : s.a3
    · rw [if_neg (by simp)]
      simp only [fourinhandref07_Put.j0, fourinhandref07_Put.j1]
      rw [if_neg (by simp)]
      have := key (4 * s.a9) (by unfold flB; rw [hf, he]; simp)
      rw [hf, he] at this
      rw [w4]
      exact this
    · rw [if_neg (by simp)]
      simp only [fourinhandref07_Put.j0, fourinhandref07_Put.j1]
      rw [if_pos trivial]
      have := key (4 * s.a9 + 2) (by unfold flB; rw [hf, he]; simp; omega)
      rw [hf, he] at this
      rw [w4, w7]
      exact this
    · rw [if_pos rfl]
      simp only [fourinhandref07_Put.j0, fourinhandref07_Put.j1]
      rw [if_neg (by simp)]
      have := key (4 * s.a9 + 1) (by unfold flB; rw [hf, he]; simp; omega)
      rw [hf, he] at this
      rw [w4, w5]
      exact this
    · rw [if_pos rfl]
      simp only [fourinhandref07_Put.j0, fourinhandref07_Put.j1]
      rw [if_pos trivial]
      have := key (4 * s.a9 + 1 + 2) (by unfold flB; rw [hf, he]; simp; omega)
      rw [hf, he] at this
      rw [w4, w5, w6]
      exact this
  · rw [if_neg hm, if_neg hm]
end Go.Proofs.Ytbogmogimoleaaa.Given
