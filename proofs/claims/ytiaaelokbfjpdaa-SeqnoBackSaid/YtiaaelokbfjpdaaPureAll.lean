/- The plain laws of the numbers of which 32 bits are told: no program in sight. -/
import Derived.Test.YtiaaelokbfjpdaaSx
namespace Go.Proofs.Ytiaaelokbfjpdaa.Plain
open Go.RowKit Go.Proofs.Ytiaaelokbfjpdaa.S Go.Proofs.Ytiaaelokbfjpdaa.Given Go.Proofs.YtiaaelokbfjpdaaW.PrintWords Go.Proofs.YtiaaelokbfjpdaaW.PrintLast

set_option linter.unusedVariables false
set_option linter.unusedSimpArgs false
theorem u32_bd {a : Int} (h : (Lit.int .u32 a).wf = true) : 0 ≤ a ∧ a < 4294967296 := by
  simp [Lit.wf, IntKind.min, IntKind.max, IntKind.signed, IntKind.bits] at h
  omega
theorem i64_bd {a : Int} (h : (Lit.int .i64 a).wf = true) : -9223372036854775808 ≤ a ∧ a < 9223372036854775808 := by
  simp [Lit.wf, IntKind.min, IntKind.max, IntKind.signed, IntKind.bits] at h
  omega
theorem awake_eq : fourinhandlaw02_awake.f = some true := by rfl
theorem low_eq (a : Int) : seqno_Low.f a = some (a % 4294967296) := rfl
theorem upto_eq (a b : Int) : seqno_Upto.f a b = some ((b - a) % 4294967296) := rfl
theorem less_eq (a b : Int) : seqno_Less.f a b = some (decide (0 < (b - a) % 4294967296 ∧ (b - a) % 4294967296 < 2147483648)) := by
  simp only [seqno_Less.f, upto_eq, Option.bind_some]
  split
  · rename_i h; simp [h]
  · rename_i h; simp; omega
theorem unwrap_eq (a0 : Int) {a1 : Int} (h0 : 0 ≤ a1) (h1 : a1 < 4294967296) : seqno_Unwrap.f a0 a1 = some (unwrapU (nearU a0) a1) := if_pos ⟨h0, h1⟩
theorem near_bd (a : Int) : 0 ≤ nearU a ∧ nearU a ≤ 4611686018427387904 := by unfold nearU; omega
theorem near_in {a : Int} (h0 : 0 ≤ a) (h1 : a ≤ 4611686018427387904) : nearU a = a := by unfold nearU; omega
theorem unwrap_low {m a1 : Int} (hm0 : 0 ≤ m) (h0 : 0 ≤ a1) (h1 : a1 < 4294967296) : unwrapU m a1 % 4294967296 = a1 := by
  unfold unwrapU; (repeat' split) <;> omega
theorem unwrap_pos {m a1 : Int} (hm0 : 0 ≤ m) (h0 : 0 ≤ a1) (h1 : a1 < 4294967296) : 0 ≤ unwrapU m a1 := by
  unfold unwrapU; (repeat' split) <;> omega
theorem unwrap_back {m f : Int} (hm0 : 0 ≤ m) (h0 : -2147483648 < f) (h1 : f < 2147483648) (h : 0 ≤ m + f) : unwrapU m ((m + f) % 4294967296) = m + f := by
  unfold unwrapU; (repeat' split) <;> omega

theorem SeqnoBack : fourinhandlaw02_SeqnoBack.Pure := by
  intro a0 a1 a2 w0 w1 w2
  have b0 := i64_bd w0
  have b1 := i64_bd w1
  have b2 := u32_bd w2
  have hn := near_bd a0
  refine ⟨3, ?_⟩
  have hl := unwrap_low hn.1 b2.1 b2.2
  have hp := unwrap_pos hn.1 b2.1 b2.2
  simp only [fourinhandlaw02_SeqnoBack.f, awake_eq, Option.bind_some, if_true, unwrap_eq a0 b2.1 b2.2, low_eq, if_pos hl, fourinhandlaw02_SeqnoBack.j0]
  rw [if_neg (by simp; omega)]
  by_cases c1 : a0 < 0
  · rw [if_pos c1]; rfl
  rw [if_neg c1]
  by_cases c2 : a0 > 4611686018427387904
  · rw [if_pos c2]; rfl
  rw [if_neg c2]
  by_cases c3 : a1 ≤ -2147483648
  · rw [if_pos c3]; rfl
  rw [if_neg c3]
  by_cases c4 : a1 ≥ 2147483648
  · rw [if_pos c4]; rfl
  rw [if_neg c4]
  have e : wrap64 (a0 + a1) = a0 + a1 := by unfold wrap64; omega
  rw [e]
  by_cases c5 : a0 + a1 < 0
  · rw [decide_eq_true c5]; rfl
  rw [decide_eq_false c5]
  simp only [fourinhandlaw02_SeqnoBack.j1, e, low_eq, Option.bind_some]
  rw [if_neg (by simp), unwrap_eq a0 (by omega) (by omega), near_in (by omega) (by omega), unwrap_back (by omega) (by omega) (by omega) (by omega)]
  simp

theorem SeqnoOrder : fourinhandlaw02_SeqnoOrder.Pure := by
  intro a0 a1 a2 w0 w1 w2
  have b0 := u32_bd w0
  have b1 := u32_bd w1
  have b2 := u32_bd w2
  refine ⟨3, ?_⟩
  have key : fourinhandlaw02_SeqnoOrder.j0 3 a0 a1 a2 ((a1 - a0) % 4294967296) false = some true := by
    have k1 : fourinhandlaw02_SeqnoOrder.j1 2 a0 a1 a2 ((a1 - a0) % 4294967296) false = some true := by
      simp only [fourinhandlaw02_SeqnoOrder.j1, less_eq, upto_eq, Option.bind_some]
      have e : ((a1 + a2) % 4294967296 - (a0 + a2) % 4294967296) % 4294967296 = (a1 - a0) % 4294967296 := by omega
      rw [if_neg (by simp), e, if_pos (by simp), if_neg (by simp)]
      simp
    simp only [fourinhandlaw02_SeqnoOrder.j0, less_eq, Option.bind_some]
    rw [if_neg (by simp), k1]
    by_cases c1 : (a1 - a0) % 4294967296 > 0
    · rw [if_pos c1]
      by_cases c2 : (a1 - a0) % 4294967296 = 2147483648
      · rw [if_pos c2]
      · rw [if_neg c2]
        by_cases c3 : (a1 - a0) % 4294967296 < 2147483648
        · rw [decide_eq_true (show 0 < (a1 - a0) % 4294967296 ∧ (a1 - a0) % 4294967296 < 2147483648 by omega), decide_eq_false (show ¬ (0 < (a0 - a1) % 4294967296 ∧ (a0 - a1) % 4294967296 < 2147483648) by omega)]
          exact k1
        · rw [decide_eq_false (show ¬ (0 < (a1 - a0) % 4294967296 ∧ (a1 - a0) % 4294967296 < 2147483648) by omega), decide_eq_true (show (0 < (a0 - a1) % 4294967296 ∧ (a0 - a1) % 4294967296 < 2147483648) by omega)]
          exact k1
    · rw [if_neg c1]
  simp only [fourinhandlaw02_SeqnoOrder.f, awake_eq, upto_eq, Option.bind_some, if_true]
  rw [if_neg (by omega), if_neg (by omega)]
  rw [if_neg (by simp only [bne_iff_ne, ne_eq, Decidable.not_not]; rw [Bool.eq_iff_iff]; simp only [beq_iff_eq]; omega)]
  by_cases c1 : (a1 - a0) % 4294967296 > 0
  · rw [if_pos c1]
    have e : wrap64 ((a1 - a0) % 4294967296 + (a0 - a1) % 4294967296) = 4294967296 := by unfold wrap64; omega
    rw [e]; exact key
  · rw [if_neg c1]; exact key

theorem SeqnoNear : fourinhandlaw02_SeqnoNear.Pure := by
  intro a0 a1 w0 w1
  have b0 := i64_bd w0
  have b1 := u32_bd w1
  refine ⟨3, ?_⟩
  simp only [fourinhandlaw02_SeqnoNear.f, awake_eq, Option.bind_some, if_true]
  by_cases c1 : a0 < 0
  · rw [if_pos c1]; rfl
  rw [if_neg c1]
  by_cases c2 : a0 > 4611686018427387904
  · rw [decide_eq_true c2]; rfl
  rw [decide_eq_false c2]
  simp only [fourinhandlaw02_SeqnoNear.j0]
  rw [if_neg (by simp), unwrap_eq a0 b1.1 b1.2, near_in (by omega) (by omega)]
  simp only [Option.bind_some]
  have hU : unwrapU a0 a1 = unwrapU a0 a1 ∧ (unwrapU a0 a1 > a0 → unwrapU a0 a1 - a0 < 2147483648 ∨ unwrapU a0 a1 < 4294967296) ∧ (¬ unwrapU a0 a1 > a0 → a0 - unwrapU a0 a1 ≤ 2147483648) ∧ 0 ≤ unwrapU a0 a1 ∧ unwrapU a0 a1 < 4611686027017322496 := by
    refine ⟨rfl, ?_, ?_, ?_, ?_⟩ <;> unfold unwrapU <;> (repeat' split) <;> omega
  obtain ⟨-, h1, h2, h3, h4⟩ := hU
  generalize unwrapU a0 a1 = u at *
  have e1 : wrap64 (u - a0) = u - a0 := by unfold wrap64; omega
  have e2 : wrap64 (a0 - u) = a0 - u := by unfold wrap64; omega
  rw [e1, e2]
  by_cases c3 : u > a0
  · rw [if_pos c3]
    by_cases c4 : u - a0 < 2147483648
    · rw [if_pos c4]
    · rw [if_neg c4, decide_eq_true (by have := h1 c3; omega)]
  · rw [if_neg c3, decide_eq_true (h2 c3)]

theorem SeqnoParts : fourinhandlaw02_SeqnoParts.Pure := by
  intro a0 a1 a2 w0 w1 w2
  refine ⟨3, ?_⟩
  simp only [fourinhandlaw02_SeqnoParts.f, awake_eq, Option.bind_some, if_true]
  by_cases c1 : a0 < 0
  · rw [if_pos c1]; rfl
  rw [if_neg c1]
  by_cases c2 : a0 > 1125899906842624
  · rw [if_pos c2]; rfl
  rw [if_neg c2]
  by_cases c3 : a1 < 0
  · rw [if_pos c3]; rfl
  rw [if_neg c3]
  by_cases c4 : a1 > 1000
  · rw [if_pos c4]; rfl
  rw [if_neg c4]
  by_cases c5 : a2 < 0
  · rw [if_pos c5]; rfl
  rw [if_neg c5]
  by_cases c6 : a2 ≥ 4294967296
  · rw [decide_eq_true c6]; rfl
  rw [decide_eq_false c6]
  simp only [fourinhandlaw02_SeqnoParts.j0, low_eq, upto_eq, Option.bind_some]
  have e1 : wrap64 (4294967296 * a1) = 4294967296 * a1 := by unfold wrap64; omega
  have e2 : wrap64 (a0 + 4294967296 * a1) = a0 + 4294967296 * a1 := by unfold wrap64; omega
  have e3 : wrap64 (a0 + a2) = a0 + a2 := by unfold wrap64; omega
  rw [if_neg (by simp), e1, e2, e3, if_pos (by omega), show ((a0 + a2) % 4294967296 - a0 % 4294967296) % 4294967296 = a2 by omega]
  simp

theorem SeqnoLess : fourinhandlaw02_SeqnoLess.Pure := by
  intro a0 a1 a2 w0 w1 w2
  have b0 := u32_bd w0
  have b1 := u32_bd w1
  have b2 := u32_bd w2
  refine ⟨3, ?_⟩
  have key : fourinhandlaw02_SeqnoLess.j0 3 a0 a1 a2 ((a1 - a0) % 4294967296) ((a2 - a1) % 4294967296) false = some true := by
    simp only [fourinhandlaw02_SeqnoLess.j0, less_eq, Option.bind_some]
    rw [if_neg (by simp)]
    have e : wrap64 ((a1 - a0) % 4294967296 + (a2 - a1) % 4294967296) = (a1 - a0) % 4294967296 + (a2 - a1) % 4294967296 := by unfold wrap64; omega
    rw [e]
    by_cases c1 : 0 < (a1 - a0) % 4294967296 ∧ (a1 - a0) % 4294967296 < 2147483648
    · rw [if_pos (decide_eq_true c1)]
      by_cases c2 : 0 < (a2 - a1) % 4294967296 ∧ (a2 - a1) % 4294967296 < 2147483648
      · rw [if_pos (decide_eq_true c2)]
        by_cases c3 : (a1 - a0) % 4294967296 + (a2 - a1) % 4294967296 ≥ 2147483648
        · rw [if_pos c3]
        · rw [if_neg c3, decide_eq_true (by omega)]
      · rw [if_neg (by simpa using c2)]
    · rw [if_neg (by simpa using c1)]
  simp only [fourinhandlaw02_SeqnoLess.f, awake_eq, upto_eq, less_eq, Option.bind_some, if_true]
  by_cases c1 : (a1 - a0) % 4294967296 > 0
  · rw [if_pos c1, show (decide (0 < (a1 - a0) % 4294967296 ∧ (a1 - a0) % 4294967296 < 2147483648) != decide ((a1 - a0) % 4294967296 < 2147483648)) = false by simp; omega]
    exact key
  · rw [if_neg c1, show (decide (0 < (a1 - a0) % 4294967296 ∧ (a1 - a0) % 4294967296 < 2147483648) != false) = false by simp; omega]
    exact key
theorem rlow_eq {a : Int} (h : -9223372036854775808 ≤ a ∧ a < 9223372036854775808) : fourinhandref02_Low.f a = some (a % 4294967296) := by
  simp only [fourinhandref02_Low.f]
  have e : Int.tmod a 4294967296 = if 0 ≤ a then a % 4294967296 else - ((-a) % 4294967296) := by
    split
    · rename_i h; exact Int.tmod_eq_emod_of_nonneg h
    · have := Int.tmod_eq_emod_of_nonneg (a := -a) (b := 4294967296) (by omega)
      rw [Int.neg_tmod] at this
      omega
  rw [e]
  by_cases c : 0 ≤ a
  · rw [if_pos c, if_neg (by omega)]; congr 1; omega
  · rw [if_neg c]
    by_cases c2 : -((-a) % 4294967296) < 0
    · rw [if_pos c2]; congr 1; unfold wrap64; omega
    · rw [if_neg c2]; congr 1; omega
theorem rupto_eq {a b : Int} (h : 0 ≤ a ∧ a < 4294967296) (h' : 0 ≤ b ∧ b < 4294967296) : fourinhandref02_Upto.f a b = some ((b - a) % 4294967296) := by
  simp only [fourinhandref02_Upto.f]
  rw [show wrap64 a = a by unfold wrap64; omega, show wrap64 b = b by unfold wrap64; omega, show wrap64 (b - a) = b - a by unfold wrap64; omega]
  by_cases c : b - a < 0
  · rw [if_pos c]; congr 1; unfold wrap64; omega
  · rw [if_neg c]; congr 1; omega
theorem rless_eq {a b : Int} (h : 0 ≤ a ∧ a < 4294967296) (h' : 0 ≤ b ∧ b < 4294967296) : fourinhandref02_Less.f a b = some (decide (0 < (b - a) % 4294967296 ∧ (b - a) % 4294967296 < 2147483648)) := by
  simp only [fourinhandref02_Less.f, rupto_eq h h', Option.bind_some]
  by_cases c : (b - a) % 4294967296 ≥ 1
  · rw [if_pos c]; congr 1; rw [Bool.eq_iff_iff]; simp only [decide_eq_true_eq]; omega
  · rw [if_neg c]; congr 1; rw [Bool.eq_iff_iff]; simp only [decide_eq_true_eq]; constructor <;> intro h <;> first | cases h; done | omega
theorem far_eq {a b : Int} (h : 0 ≤ a ∧ a < 4611686035607257088) (h' : 0 ≤ b ∧ b < 4611686035607257088) : fourinhandref02_far.f a b = some (if a < b then b - a else a - b) := by
  simp only [fourinhandref02_far.f]
  split <;> (congr 1; unfold wrap64; omega)
/-- One round's choice. -/
def pick (m a1 out k : Int) : Int := if k ≥ 0 ∧ (out < 0 ∨ (if 4294967296 * k + a1 < m then m - (4294967296 * k + a1) else 4294967296 * k + a1 - m) < (if out < m then m - out else out - m)) then 4294967296 * k + a1 else out
theorem round_eq {m a1 base out k : Int} (n : Nat) (hm : 0 ≤ m ∧ m ≤ 4611686018427387904) (h1 : 0 ≤ a1 ∧ a1 < 4294967296) (hb : 0 ≤ base ∧ base ≤ 1073741824) (hk : -1 ≤ k ∧ k ≤ base + 1) (ho : -1 ≤ out ∧ out < 4611686035607257088) :
    fourinhandref02_Unwrap.l0 (n + 1) m a1 base out k = fourinhandref02_Unwrap.l0 n m a1 base (pick m a1 out k) (k + 1) := by
  simp only [fourinhandref02_Unwrap.l0]
  rw [show wrap64 (base + 1) = base + 1 by unfold wrap64; omega, if_pos hk.2, show wrap64 (k + 1) = k + 1 by unfold wrap64; omega]
  unfold pick
  by_cases c : k ≥ 0
  · rw [if_pos c, show wrap64 a1 = a1 by unfold wrap64; omega, show wrap64 (4294967296 * k) = 4294967296 * k by unfold wrap64; omega, show wrap64 (4294967296 * k + a1) = 4294967296 * k + a1 by unfold wrap64; omega]
    by_cases c2 : out < 0
    · rw [if_pos c2, if_pos ⟨c, .inl c2⟩]
    · rw [if_neg c2, far_eq (by omega) (by omega), far_eq (by omega) (by omega)]
      simp only [Option.bind_some]
      by_cases c3 : (if 4294967296 * k + a1 < m then m - (4294967296 * k + a1) else 4294967296 * k + a1 - m) < (if out < m then m - out else out - m)
      · rw [if_pos c3, if_pos ⟨c, .inr c3⟩]
      · rw [if_neg c3, if_neg (by rintro ⟨-, h | h⟩ <;> contradiction)]
  · rw [if_neg c, if_neg (by rintro ⟨h, -⟩; contradiction)]
theorem runwrap_eq (a0 : Int) {a1 : Int} (h1 : 0 ≤ a1 ∧ a1 < 4294967296) : fourinhandref02_Unwrap.f 6 a0 a1 = some (unwrapU (nearU a0) a1) := by
  have hn := near_bd a0
  have e : fourinhandref02_Unwrap.f 6 a0 a1 = fourinhandref02_Unwrap.j1 5 (nearU a0) a1 := by
    simp only [fourinhandref02_Unwrap.f]
    by_cases c : a0 < 0
    · rw [if_pos c, show nearU a0 = 0 by unfold nearU; omega]; rfl
    · rw [if_neg c]; simp only [fourinhandref02_Unwrap.j0]
      by_cases c2 : a0 > 4611686018427387904
      · rw [if_pos c2, show nearU a0 = 4611686018427387904 by unfold nearU; omega]
      · rw [if_neg c2, near_in (by omega) (by omega)]
  rw [e]
  generalize nearU a0 = m at *
  simp only [fourinhandref02_Unwrap.j1]
  rw [Int.tdiv_eq_ediv_of_nonneg hn.1, show wrap64 (m / 4294967296) = m / 4294967296 by unfold wrap64; omega, show wrap64 (m / 4294967296 - 1) = m / 4294967296 - 1 by unfold wrap64; omega]
  have hb : 0 ≤ m / 4294967296 ∧ m / 4294967296 ≤ 1073741824 := by omega
  have hq : m = 4294967296 * (m / 4294967296) + m % 4294967296 := by omega
  have hr : 0 ≤ m % 4294967296 ∧ m % 4294967296 < 4294967296 := by omega
  have hU : unwrapU m a1 = pick m a1 (pick m a1 (pick m a1 (-1) (m / 4294967296 - 1)) (m / 4294967296)) (m / 4294967296 + 1) := by
    generalize m / 4294967296 = q at *
    have er : m - m % 4294967296 = 4294967296 * q := by omega
    unfold unwrapU
    rw [er]
    generalize m % 4294967296 = r at *
    subst hq
    unfold pick
    by_cases cq : q - 1 ≥ 0
    · simp only [cq, show q ≥ 0 by omega, show q + 1 ≥ 0 by omega, true_and, show (-1 : Int) < 0 by omega, true_or, if_true, show ¬ (4294967296 * (q - 1) + a1 < 0) by omega, false_or]
      (repeat' split) <;> omega
    · simp only [cq, show q ≥ 0 by omega, show q + 1 ≥ 0 by omega, true_and, false_and, show (-1 : Int) < 0 by omega, true_or, if_true, if_false, show ¬ (4294967296 * q + a1 < 0) by omega, false_or]
      (repeat' split) <;> omega
  have p1 : ∀ out k, -1 ≤ out ∧ out < 4611686035607257088 → -1 ≤ k ∧ k ≤ m / 4294967296 + 1 → -1 ≤ pick m a1 out k ∧ pick m a1 out k < 4611686035607257088 := by
    intro out k ho hk
    unfold pick
    split <;> omega
  rw [round_eq 3 hn h1 hb (by omega) (by omega), show m / 4294967296 - 1 + 1 = m / 4294967296 by omega, round_eq 2 hn h1 hb (by omega) (p1 _ _ (by omega) (by omega)), round_eq 1 hn h1 hb (by omega) (p1 _ _ (p1 _ _ (by omega) (by omega)) (by omega)), ← hU]
  simp only [fourinhandref02_Unwrap.l0]
  rw [show wrap64 (m / 4294967296 + 1) = m / 4294967296 + 1 by unfold wrap64; omega, if_neg (by omega)]

theorem SeqnoTells : fourinhandlaw02_SeqnoTells.Pure := by
  intro a0 a1 a2 a3 w0 w1 w2 w3
  have b1 := i64_bd w1
  have b2 := u32_bd w2
  have b3 := u32_bd w3
  refine ⟨7, ?_⟩
  simp only [fourinhandlaw02_SeqnoTells.f, awake_eq, low_eq, rlow_eq b1, less_eq, rless_eq b2 b3, Option.bind_some, if_true]
  simp only [fourinhandlaw02_SeqnoTells.j0, upto_eq, rupto_eq b2 b3, unwrap_eq a0 b2.1 b2.2, runwrap_eq a0 b2, Option.bind_some, if_true]
  simp [fourinhandlaw02_SeqnoTells.j0, upto_eq, rupto_eq b2 b3, unwrap_eq a0 b2.1 b2.2, runwrap_eq a0 b2]
end Go.Proofs.Ytiaaelokbfjpdaa.Plain
