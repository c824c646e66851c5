/- The law CheckOrder as a plain statement: two bytes that change places turn the sum, unless that comes round. -/
import Derived.Test.YtbogmogimoleaaaPlainB
namespace Go.Proofs.Ytbogmogimoleaaa.Plain
open Go.RowKit Go.Proofs.Ytbogmogimoleaaa.S Go.Proofs.Ytbogmogimoleaaa.Given Go.Proofs.YtbogmogimoleaaaW.PrintWords Go.Proofs.YtbogmogimoleaaaW.PrintLast Go.Proofs.YtbogmogimoleaaaW.PrintMore
set_option linter.unusedVariables false
set_option linter.unusedSimpArgs false
def wsum : List Int → Int
  | [] => 0
  | c :: l => (l.length + 1 : Int) * c + wsum l
theorem mod_add_l (a b p : Int) : (a % p + b) % p = (a + b) % p := by simp
theorem sum_snd (l : List Int) : ∀ (x y : Int), 0 ≤ x → x < 65521 → (sumS l (x, y)).2 % 65521 = (y + l.length * x + wsum l) % 65521 := by
  induction l with
  | nil => intro x y h0 h1; simp [sumS, wsum]
  | cons c l ih =>
    intro x y h0 h1
    show (sumS l (stepS (x, y) c)).2 % 65521 = _
    unfold stepS
    dsimp only
    rw [ih _ _ (by omega) (by omega)]
    have e : ((x + c) % 65521 : Int) = (x + c) - 65521 * ((x + c) / 65521) := by omega
    have f : ((y + (x + c) % 65521) % 65521 : Int) = (y + (x + c) % 65521) - 65521 * ((y + (x + c) % 65521) / 65521) := by omega
    have hl : ((c :: l).length : Int) = l.length + 1 := by simp
    rw [hl, f, e]
    generalize (y + ((x + c) - 65521 * ((x + c) / 65521))) / 65521 = u
    generalize (x + c) / 65521 = v
    simp only [wsum]
    have g : y + (x + c - 65521 * v) - 65521 * u + (l.length : Int) * (x + c - 65521 * v) + wsum l = (y + ((l.length : Int) + 1) * x + (((l.length : Int) + 1) * c + wsum l)) + 65521 * (- v - u - l.length * v) := by
      simp only [Int.mul_sub, Int.mul_add, Int.add_mul, Int.one_mul, Int.mul_neg]
      rw [show (l.length : Int) * (65521 * v) = 65521 * (l.length * v) by rw [Int.mul_left_comm]]
      omega
    rw [g, Int.add_mul_emod_self_left]
theorem wsum_set : ∀ (l : List Int) (i : Nat) (v : Int) (h : i < l.length), wsum (l.set i v) = wsum l + ((l.length : Int) - i) * (v - l[i])
  | [], i, v, h => by simp at h
  | c :: l, 0, v, h => by
    simp only [List.set_cons_zero, wsum, List.length_cons, List.getElem_cons_zero, Int.natCast_zero, Int.sub_zero, Int.natCast_add, Int.natCast_one, Int.mul_sub]
    omega
  | c :: l, i + 1, v, h => by
    have := wsum_set l i v (by simpa using h)
    simp only [List.set_cons_succ, wsum, List.length_set, this, List.length_cons, List.getElem_cons_succ]
    rw [show ((l.length + 1 : Nat) : Int) - ((i + 1 : Nat) : Int) = (l.length : Int) - i by omega]
    omega
theorem swap_ne {l : List Int} (i k : Nat) (hi : i < k) (hk : k < l.length) (hne : ((l[i] - l[k]) * ((k : Int) - i)) % 65521 ≠ 0) :
    summ ((l.set i l[k]).set k l[i]) ≠ summ l := by
  intro e
  have h1 := (summ_fst l).2
  have h2 := (summ_fst ((l.set i l[k]).set k l[i])).2
  rw [e, h1] at h2
  have s1 := sum_snd l 1 0 (by omega) (by omega)
  have s2 := sum_snd ((l.set i l[k]).set k l[i]) 1 0 (by omega) (by omega)
  rw [← h2, s1] at s2
  have hk' : k < (l.set i l[k]).length := by simpa using hk
  have hg : (l.set i l[k])[k]'hk' = l[k] := by rw [List.getElem_set_ne (by omega)]
  rw [wsum_set _ k _ hk', wsum_set l i _ (by omega), hg] at s2
  simp only [List.length_set] at s2
  have x1 : ((l.length : Int) - i) * (l[k] - l[i]) = -(((l.length : Int) - i) * (l[i] - l[k])) := by rw [← Int.mul_neg]; congr 1; omega
  have x2 : ((l.length : Int) - i) * (l[i] - l[k]) - ((l.length : Int) - k) * (l[i] - l[k]) = (l[i] - l[k]) * ((k : Int) - i) := by
    rw [← Int.sub_mul, Int.mul_comm]; congr 1; omega
  rw [x1] at s2
  omega
theorem w64s {n : Int} (h : -9223372036854775808 ≤ n ∧ n < 9223372036854775808) : wrap64 n = n := by unfold wrap64; omega
theorem order (l0 : List Int) (a1 a2 : Int) (hw : ∀ x ∈ l0, (Lit.int .u8 x).wf = true) : fourinhandlaw03_CheckOrder.f 20001 l0 a1 a2 = some true := by
  have hb := byt_wf hw
  simp only [fourinhandlaw03_CheckOrder.f, awake_eq, Option.bind_some, if_true]
  by_cases c0 : (l0.length : Int) > 3000
  · rw [if_pos c0]; rfl
  rw [if_neg c0]
  by_cases c1 : a1 < 0
  · rw [if_pos c1]; rfl
  rw [if_neg c1]
  by_cases c2 : a2 ≤ a1
  · rw [if_pos c2]; rfl
  rw [if_neg c2]
  by_cases c3 : a2 ≥ (l0.length : Int)
  · rw [if_pos c3]; rfl
  rw [if_neg c3, if_pos (by omega), if_pos (by omega), if_pos (by omega), if_pos (by omega)]
  obtain ⟨i, rfl⟩ := Int.eq_ofNat_of_zero_le (show 0 ≤ a1 by omega)
  obtain ⟨k, rfl⟩ := Int.eq_ofNat_of_zero_le (show 0 ≤ a2 by omega)
  have hi : i < l0.length := by omega
  have hk : k < l0.length := by omega
  rw [rd_get l0 i hi, rd_get l0 k hk]
  by_cases c4 : l0[i] = l0[k]
  · rw [c4]; simp [fourinhandlaw03_CheckOrder.j0]
  · rw [show (l0[i] == l0[k]) = false from beq_eq_false_iff_ne.mpr c4]
    have bi := hb l0[i] (List.getElem_mem hi)
    have bk := hb l0[k] (List.getElem_mem hk)
    have hm : -9000000 ≤ (l0[i] - l0[k]) * ((k : Int) - i) ∧ (l0[i] - l0[k]) * ((k : Int) - i) ≤ 9000000 := by
      have h1 : (l0[i] - l0[k]) * ((k : Int) - i) ≤ 255 * ((k : Int) - i) := Int.mul_le_mul_of_nonneg_right (by omega) (by omega)
      have h2 : -255 * ((k : Int) - i) ≤ (l0[i] - l0[k]) * ((k : Int) - i) := Int.mul_le_mul_of_nonneg_right (by omega) (by omega)
      omega
    simp only [fourinhandlaw03_CheckOrder.j0]
    rw [if_neg (by simp), if_pos (by simp; omega), Option.bind_some, List.nil_append, if_pos (by omega), if_pos (by omega), if_pos (by omega), if_pos (by omega), if_pos (by omega), if_pos (by omega), rd_get l0 i hi, rd_get l0 k hk,
      w64s (show _ ∧ _ from ⟨by omega, by omega⟩ : -9223372036854775808 ≤ l0[i] ∧ l0[i] < 9223372036854775808), w64s (⟨by omega, by omega⟩ : -9223372036854775808 ≤ l0[k] ∧ l0[k] < 9223372036854775808),
      w64s (⟨by omega, by omega⟩ : -9223372036854775808 ≤ l0[i] - l0[k] ∧ l0[i] - l0[k] < 9223372036854775808), w64s (⟨by omega, by omega⟩ : -9223372036854775808 ≤ (k : Int) - i ∧ (k : Int) - i < 9223372036854775808),
      w64s (⟨by omega, by omega⟩ : -9223372036854775808 ≤ (l0[i] - l0[k]) * ((k : Int) - i) ∧ (l0[i] - l0[k]) * ((k : Int) - i) < 9223372036854775808)]
    by_cases c5 : ((l0[i] - l0[k]) * ((k : Int) - i)).tmod 65521 = 0
    · rw [if_pos c5]
    · have hne : ((l0[i] - l0[k]) * ((k : Int) - i)) % 65521 ≠ 0 := by
        intro h
        exact c5 (Int.tmod_eq_zero_of_dvd (Int.dvd_of_emod_eq_zero h))
      rw [if_neg c5, Int.toNat_natCast, Int.toNat_natCast, csum_one (byt_set (byt_set hb i bk) k bi), Option.bind_some, csum_one hb, Option.bind_some]
      have := swap_ne i k (by omega) hk hne
      simpa using this
end Go.Proofs.Ytbogmogimoleaaa.Plain
