/- Plain facts of chapter 17: the document's product is that of the deviations; the document's Alike is the program's. -/
import Derived.Test.YtefpdneokkcmpaaPlainA
namespace Go.Proofs.Ytefpdneokkcmpaa.Given
open Go.RowKit Go.Proofs.YtefpdneokkcmpaaW.PrintWords Go.Proofs.YtefpdneokkcmpaaW.PrintLast Go.Proofs.YtefpdneokkcmpaaW.PrintMore Go.Proofs.Ytefpdneokkcmpaa.S Go.Proofs.Ytefpdneokkcmpaa.Fl
set_option linter.unusedVariables false
theorem sum_take (X : List Int) (i : Nat) (h : i < X.length) : (X.take (i + 1)).sum = (X.take i).sum + X[i] := by
  rw [List.take_succ_eq_append_getElem h, List.sum_append]
  simp
theorem rd_tail (l : List Int) (n i : Nat) (hn : n ≤ l.length) (hi : i < n) (hl : l.length ≤ 1000000) (hX : i < (l.drop (l.length - n)).length) : wrap64 (wrap64 ((l.length : Int) - (n : Int)) + (i : Int)) = ((l.length - n + i : Nat) : Int) ∧ rd l (wrap64 (wrap64 ((l.length : Int) - (n : Int)) + (i : Int))) = (l.drop (l.length - n))[i] := by
  have e : wrap64 (wrap64 ((l.length : Int) - (n : Int)) + (i : Int)) = ((l.length - n + i : Nat) : Int) := by
    rw [w64 ((l.length : Int) - n) (by omega) (by omega), w64 _ (by omega) (by omega)]
    omega
  refine ⟨e, ?_⟩
  rw [e, rd_at l _ (by omega), List.getElem_drop]
theorem okE_drop {l : List Int} (h : okE l) (n : Nat) : okE (l.drop n) := fun x hx => h x (List.mem_of_mem_drop hx)
theorem prod_l0 (a b : List Int) (hea : okE a) (heb : okE b) (hla : a.length ≤ 16) (hlb : b.length ≤ 16) (n : Nat) (hna : n ≤ a.length) (hnb : n ≤ b.length) (R : Nat) (z : Int)
    (hend : ∀ k', R ≤ k' → fourinhandref17_product.l1 k' a b n (a.drop (a.length - n)).sum (b.drop (b.length - n)).sum 0 0 = some z) : ∀ (m i k : Nat), n - i = m → i ≤ n → R + m + 1 ≤ k →
    fourinhandref17_product.l0 k a b n ((a.drop (a.length - n)).take i).sum ((b.drop (b.length - n)).take i).sum i = some z := by
  intro m
  have hA : (a.drop (a.length - n)).length = n := by rw [List.length_drop]; omega
  have hB : (b.drop (b.length - n)).length = n := by rw [List.length_drop]; omega
  have hoA := okE_drop hea (a.length - n)
  have hoB := okE_drop heb (b.length - n)
  induction m with
  | zero =>
    intro i k h1 h2 hk
    obtain ⟨k, rfl⟩ : ∃ j, k = j + 1 := ⟨k - 1, by omega⟩
    obtain rfl : i = n := by omega
    rw [fourinhandref17_product.l0, if_neg (by omega)]
    rw [List.take_of_length_le (by omega), List.take_of_length_le (by omega)]
    exact hend k (by omega)
  | succ m ih =>
    intro i k h1 h2 hk
    obtain ⟨k, rfl⟩ : ∃ j, k = j + 1 := ⟨k - 1, by omega⟩
    have hi : i < n := by omega
    obtain ⟨ea, ra⟩ := rd_tail a n i hna hi (by omega) (by omega)
    obtain ⟨eb, rb⟩ := rd_tail b n i hnb hi (by omega) (by omega)
    have ba := sum_bound _ (fun x hx => hoA x (List.mem_of_mem_take hx) : okE ((a.drop (a.length - n)).take i))
    have bb := sum_bound _ (fun x hx => hoB x (List.mem_of_mem_take hx) : okE ((b.drop (b.length - n)).take i))
    rw [List.length_take] at ba bb
    have xa := hoA _ (List.getElem_mem (show i < (a.drop (a.length - n)).length by omega))
    have xb := hoB _ (List.getElem_mem (show i < (b.drop (b.length - n)).length by omega))
    rw [fourinhandref17_product.l0, if_pos (by omega), ra, rb, ea, eb, if_pos (by omega), if_pos (by omega), if_pos (by omega), if_pos (by omega), w64 ((i : Int) + 1) (by omega) (by omega), w64 (_ + (a.drop (a.length - n))[i]) (by omega) (by omega), w64 (_ + (b.drop (b.length - n))[i]) (by omega) (by omega), ← sum_take _ i (by omega), ← sum_take _ i (by omega), show (i : Int) + 1 = ((i + 1 : Nat) : Int) by omega]
    exact ih (i + 1) k (by omega) (by omega) (by omega)
theorem dev_get (l : List Int) (n i : Nat) (h1 : i < (devL l n).length) (h2 : i < (l.drop (l.length - n)).length) : (devL l n)[i] = (n : Int) * (l.drop (l.length - n))[i] - (l.drop (l.length - n)).sum := by
  simp only [devL, List.getElem_map]
theorem prod_l1 (a b : List Int) (hea : okE a) (heb : okE b) (hla : a.length ≤ 16) (hlb : b.length ≤ 16) (n : Nat) (hna : n ≤ a.length) (hnb : n ≤ b.length) : ∀ (m i k : Nat), n - i = m → i ≤ n → m < k →
    fourinhandref17_product.l1 k a b n (a.drop (a.length - n)).sum (b.drop (b.length - n)).sum (dotL ((devL a n).take i) ((devL b n).take i)) i = some (dotL (devL a n) (devL b n)) := by
  intro m
  have hA : (a.drop (a.length - n)).length = n := by rw [List.length_drop]; omega
  have hB : (b.drop (b.length - n)).length = n := by rw [List.length_drop]; omega
  have hoA := okE_drop hea (a.length - n)
  have hoB := okE_drop heb (b.length - n)
  have hdA := dev_len a n hna
  have hdB := dev_len b n hnb
  have kA := dev_okD hea hla n hna
  have kB := dev_okD heb hlb n hnb
  induction m with
  | zero =>
    intro i k h1 h2 hk
    obtain ⟨k, rfl⟩ : ∃ j, k = j + 1 := ⟨k - 1, by omega⟩
    obtain rfl : i = n := by omega
    rw [fourinhandref17_product.l1, if_neg (by omega), List.take_of_length_le (by omega), List.take_of_length_le (by omega)]
  | succ m ih =>
    intro i k h1 h2 hk
    obtain ⟨k, rfl⟩ : ∃ j, k = j + 1 := ⟨k - 1, by omega⟩
    have hi : i < n := by omega
    obtain ⟨ea, ra⟩ := rd_tail a n i hna hi (by omega) (by omega)
    obtain ⟨eb, rb⟩ := rd_tail b n i hnb hi (by omega) (by omega)
    have sa := sum_bound _ hoA
    have sb := sum_bound _ hoB
    have xa := hoA _ (List.getElem_mem (show i < (a.drop (a.length - n)).length by omega))
    have xb := hoB _ (List.getElem_mem (show i < (b.drop (b.length - n)).length by omega))
    have ga := dev_get a n i (by omega) (by omega)
    have gb := dev_get b n i (by omega) (by omega)
    have da := kA _ (List.getElem_mem (show i < (devL a n).length by omega))
    have db := kB _ (List.getElem_mem (show i < (devL b n).length by omega))
    have na : 0 ≤ (n : Int) * (a.drop (a.length - n))[i] ∧ (n : Int) * (a.drop (a.length - n))[i] ≤ 16 * 262144 := ⟨Int.mul_nonneg (by omega) xa.1, Int.mul_le_mul (by omega) xa.2 xa.1 (by omega)⟩
    have nb : 0 ≤ (n : Int) * (b.drop (b.length - n))[i] ∧ (n : Int) * (b.drop (b.length - n))[i] ≤ 16 * 262144 := ⟨Int.mul_nonneg (by omega) xb.1, Int.mul_le_mul (by omega) xb.2 xb.1 (by omega)⟩
    have bd := dot_bound _ _ kA kB (by omega) i (by omega)
    have pl := prod_le da.1 da.2 db.1 db.2
    have dt := dot_take (devL a n) (devL b n) i (by omega) (by omega)
    rw [fourinhandref17_product.l1, if_pos (by omega), ra, rb, ea, eb, if_pos (by omega), if_pos (by omega), if_pos (by omega), if_pos (by omega), w64 ((i : Int) + 1) (by omega) (by omega), w64 ((n : Int) * (a.drop (a.length - n))[i]) (by omega) (by omega), w64 ((n : Int) * (b.drop (b.length - n))[i]) (by omega) (by omega),
      w64 ((n : Int) * (a.drop (a.length - n))[i] - (a.drop (a.length - n)).sum) (by omega) (by omega), w64 ((n : Int) * (b.drop (b.length - n))[i] - (b.drop (b.length - n)).sum) (by omega) (by omega), ← ga, ← gb, w64 ((devL a n)[i] * (devL b n)[i]) (by omega) (by omega), w64 (_ + (devL a n)[i] * (devL b n)[i]) (by omega) (by omega), ← dt, show (i : Int) + 1 = ((i + 1 : Nat) : Int) by omega]
    exact ih (i + 1) k (by omega) (by omega) (by omega)
theorem prod_eq (k : Nat) (hk : 100 ≤ k) (a b : List Int) (hea : okE a) (heb : okE b) (hla : a.length ≤ 16) (hlb : b.length ≤ 16) (n : Nat) (hna : n ≤ a.length) (hnb : n ≤ b.length) : fourinhandref17_product.f k a b n = some (dotL (devL a n) (devL b n)) := by
  unfold fourinhandref17_product.f
  exact prod_l0 a b hea heb hla hlb n hna hnb 40 _ (fun k' hk' => prod_l1 a b hea heb hla hlb n hna hnb n 0 k' (by omega) (by omega) (by omega)) n 0 k (by omega) (by omega) (by omega)
theorem ralike_eq (k : Nat) (hk : 200 ≤ k) (a b : List Int) (ha : a.length ≤ 50) (hb : b.length ≤ 50) : fourinhandref17_Alike.f k a b = some (alikeB a b) := by
  unfold fourinhandref17_Alike.f
  obtain ⟨k, rfl⟩ : ∃ j, k = j + 1 := ⟨k - 1, by omega⟩
  rw [rmay_eq _ a (by omega) (by omega), rmay_eq _ b (by omega) (by omega)]
  simp only [Option.bind_some]
  have hbad : fourinhandref17_Alike.j0 (k + 1) a b true = some false := by rw [fourinhandref17_Alike.j0, if_pos rfl]
  by_cases c1 : mayB a = true
  · by_cases c2 : mayB b = true
    · rw [if_pos c1, if_pos c2]
      obtain ⟨ea, la⟩ := may_ok c1
      obtain ⟨eb, lb⟩ := may_ok c2
      by_cases c3 : a.length < 4
      · rw [if_pos (by omega), hbad]
        unfold alikeB
        simp only
        rw [if_neg]
        simp
        omega
      · rw [if_neg (by omega)]
        by_cases c4 : b.length < 4
        · rw [decide_eq_true (by omega), hbad]
          unfold alikeB
          simp only
          rw [if_neg]
          simp
          omega
        · rw [decide_eq_false (by omega), fourinhandref17_Alike.j0, if_neg (by simp)]
          have core : ∀ n : Nat, n = min a.length b.length → ((fourinhandref17_product.f k a b n).bind fun t213 => (if t213 > 0 then ((fourinhandref17_product.f k a a n).bind fun t214 => (if (wrap64 (2 * t213)) ≥ t214 then ((fourinhandref17_product.f k b b n).bind fun t215 => (some (decide ((wrap64 (2 * t213)) ≥ t215)))) else (some false))) else (some false))) = some (alikeB a b) := by
            intro n hn
            rw [prod_eq k (by omega) a b ea eb la lb n (by omega) (by omega), prod_eq k (by omega) a a ea ea la la n (by omega) (by omega), prod_eq k (by omega) b b eb eb lb lb n (by omega) (by omega)]
            simp only [Option.bind_some]
            have dA := dev_okD ea la n (by omega)
            have dB := dev_okD eb lb n (by omega)
            have hdA := dev_len a n (by omega)
            have hdB := dev_len b n (by omega)
            have bd := dot_bound _ _ dA dB (by omega) n (by omega)
            rw [List.take_of_length_le (by omega), List.take_of_length_le (by omega)] at bd
            rw [w64 (2 * dotL (devL a n) (devL b n)) (by omega) (by omega)]
            unfold alikeB
            simp only
            rw [← hn, show (mayB a && mayB b && decide (4 ≤ n)) = true by rw [c1, c2, decide_eq_true (by omega)]; rfl, if_pos rfl]
            by_cases d1 : dotL (devL a n) (devL b n) > 0
            · rw [if_pos d1, decide_eq_true (show 0 < 2 * dotL (devL a n) (devL b n) by omega)]
              by_cases d2 : 2 * dotL (devL a n) (devL b n) ≥ dotL (devL a n) (devL a n)
              · rw [if_pos d2, decide_eq_true (show dotL (devL a n) (devL a n) ≤ _ from d2)]
                rfl
              · rw [if_neg d2, decide_eq_false (show ¬ dotL (devL a n) (devL a n) ≤ _ from d2)]
                rfl
            · rw [if_neg d1, decide_eq_false (show ¬ 0 < 2 * dotL (devL a n) (devL b n) by omega)]
              rfl
          by_cases c5 : b.length < a.length
          · rw [if_pos (by omega)]
            exact core b.length (by omega)
          · rw [if_neg (by omega)]
            exact core a.length (by omega)
    · rw [if_pos c1, if_neg c2, hbad]
      unfold alikeB
      simp only
      rw [if_neg]
      simp [c2]
  · rw [if_neg c1, hbad]
    unfold alikeB
    simp only
    rw [if_neg]
    simp [c1]
end Go.Proofs.Ytefpdneokkcmpaa.Given
