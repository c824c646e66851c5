/- One round of the sums, and the test behind them, as float64s. -/
import Derived.Test.YtefpdneokkcmpaaFloatB
namespace Go.Proofs.Ytefpdneokkcmpaa.Fl
open Ieee
set_option linter.unusedVariables false
theorem sq_nn (x : Int) : 0 ≤ x * x := by
  rcases Int.le_total 0 x with h | h
  · exact Int.mul_nonneg h h
  · have := Int.mul_nonneg (show 0 ≤ -x by omega) (show 0 ≤ -x by omega)
    rwa [Int.neg_mul_neg] at this
theorem sq_le {x : Int} (h1 : -8388608 ≤ x) (h2 : x ≤ 8388608) : 0 ≤ x * x ∧ x * x ≤ 70368744177664 := by
  constructor
  · exact sq_nn x
  · rcases Int.le_total 0 x with h | h
    · exact Int.mul_le_mul h2 h2 h (by omega)
    · have := Int.mul_le_mul (show -x ≤ 8388608 by omega) (show -x ≤ 8388608 by omega) (show 0 ≤ -x by omega) (by omega)
      rw [Int.neg_mul_neg] at this
      exact this
theorem prod_le {x y : Int} (h1 : -8388608 ≤ x) (h2 : x ≤ 8388608) (h3 : -8388608 ≤ y) (h4 : y ≤ 8388608) : -70368744177664 ≤ x * y ∧ x * y ≤ 70368744177664 := by
  have a := sq_le h1 h2
  have b := sq_le h3 h4
  have c := sq_nn (x + y)
  have d := sq_nn (x - y)
  have e1 : (x + y) * (x + y) = x * x + 2 * (x * y) + y * y := by rw [Int.add_mul, Int.mul_add, Int.mul_add, Int.mul_comm y x]; omega
  have e2 : (x - y) * (x - y) = x * x - 2 * (x * y) + y * y := by rw [Int.sub_mul, Int.mul_sub, Int.mul_sub, Int.mul_comm y x]; omega
  omega
theorem round_bits {x y A B C : Int} {a b c d : Nat} (h1 : -8388608 ≤ x) (h2 : x ≤ 8388608) (h3 : -8388608 ≤ y) (h4 : y ≤ 8388608) (ha : Holds a A) (hb : Holds b B) (hc : Holds c C) (hd : Holds d 0) (hA : A.natAbs ≤ 2251799813685248) (hB : B.natAbs ≤ 2251799813685248) (hC : C.natAbs ≤ 2251799813685248) :
    ∃ p q a' b' p2 q2 c' d', cMulBits (FloatKind.f64.nearest x) (FloatKind.f64.nearest y) (FloatKind.f64.nearest x) (FloatKind.f64.nearest y) = some (p, q) ∧ cSumBits .add .f64 a b p q = some (a', b') ∧
      cMulBits (FloatKind.f64.nearest x) (FloatKind.f64.nearest y) (FloatKind.f64.nearest x) (Go.Op.negFloat .f64 (FloatKind.f64.nearest y)) = some (p2, q2) ∧ cSumBits .add .f64 c d p2 q2 = some (c', d') ∧
      Holds a' (A + (x * x - y * y)) ∧ Holds b' (B + (x * y + y * x)) ∧ Holds c' (C + (x * x + y * y)) ∧ Holds d' 0 := by
  have sx := sq_le h1 h2
  have sy := sq_le h3 h4
  have sp := prod_le h1 h2 h3 h4
  have hX := int_holds x (by omega)
  have hY := int_holds y (by omega)
  have hN := neg_holds hY
  have exy : y * x = x * y := Int.mul_comm y x
  have eny : y * -y = -(y * y) := Int.mul_neg y y
  have enx : x * -y = -(x * y) := Int.mul_neg x y
  generalize FloatKind.f64.nearest x = X at *
  generalize FloatKind.f64.nearest y = Y at *
  generalize Go.Op.negFloat .f64 Y = Z at *
  obtain ⟨r1, g1, k1⟩ := mul_holds hX hX (by omega)
  obtain ⟨r2, g2, k2⟩ := mul_holds hY hY (by omega)
  obtain ⟨p, g3, k3⟩ := sub_holds k1 k2 (by omega)
  obtain ⟨r4, g4, k4⟩ := mul_holds hX hY (by omega)
  obtain ⟨r5, g5, k5⟩ := mul_holds hY hX (by omega)
  obtain ⟨q, g6, k6⟩ := add_holds k4 k5 (by omega)
  obtain ⟨a', g7, k7⟩ := add_holds ha k3 (by omega)
  obtain ⟨b', g8, k8⟩ := add_holds hb k6 (by omega)
  obtain ⟨r9, g9, k9⟩ := mul_holds hY hN (by omega)
  obtain ⟨p2, g10, k10⟩ := sub_holds k1 k9 (by omega)
  obtain ⟨r11, g11, k11⟩ := mul_holds hX hN (by omega)
  obtain ⟨q2, g12, k12⟩ := add_holds k11 k5 (by omega)
  obtain ⟨c', g13, k13⟩ := add_holds hc k10 (by omega)
  obtain ⟨d', g14, k14⟩ := add_holds hd k12 (by omega)
  refine ⟨p, q, a', b', p2, q2, c', d', ?_, ?_, ?_, ?_, k7, k8, ?_, ?_⟩
  · simp [cMulBits, g1, g2, g3, g4, g5, g6]
  · simp [cSumBits, g7, g8]
  · simp [cMulBits, g1, g9, g10, g11, g5, g12]
  · simp [cSumBits, g13, g14]
  · rwa [eny, Int.sub_neg] at k13
  · rw [enx, exy, Int.zero_add, show -(x * y) + x * y = 0 by omega] at k14
    exact k14
end Go.Proofs.Ytefpdneokkcmpaa.Fl
