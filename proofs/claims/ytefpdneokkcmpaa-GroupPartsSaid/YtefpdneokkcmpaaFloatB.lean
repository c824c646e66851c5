/- Half of an even whole number, as float64s. -/
import Derived.Test.YtefpdneokkcmpaaFloat
namespace Go.Proofs.Ytefpdneokkcmpaa.Fl
open Ieee
set_option linter.unusedVariables false
theorem quot_eq (D : Nat) (s t : Bool) (m n : Nat) (i j : Int) (hn : n ≠ 0) : Datum.quotient D (.number s m i) (.number t n j) = some (.number (s ^^ t) (2 * ((m <<< (D + n.log2 - m.log2)) / n) + ((m <<< (D + n.log2 - m.log2)) % n != 0).toNat) (i - j - ((D + n.log2 - m.log2 : Nat) : Int) - 1)) := by
  unfold Datum.quotient
  simp only
  rw [if_neg hn]
theorem half_datum (s : Bool) (m : Nat) (i : Int) (h1 : 4503599627370496 ≤ m) (h2 : m < 9007199254740992) : Datum.quotient 54 (.number s m i) (.number false 4503599627370496 (-51)) = some (.number s (8 * m) (i - 4)) := by
  have hl52 : Nat.log2 4503599627370496 = 52 := (Nat.log2_eq_iff (by omega)).2 ⟨by omega, by omega⟩
  have hl : m.log2 = 52 := (Nat.log2_eq_iff (by omega)).2 ⟨h1, h2⟩
  rw [quot_eq 54 s false m 4503599627370496 i (-51) (by omega), hl52, hl]
  have hd : m <<< (54 + 52 - 52) = (4 * m) * 4503599627370496 := by
    rw [Nat.shiftLeft_eq]
    omega
  rw [hd, Nat.mul_div_cancel _ (by omega), Nat.mul_mod_left, Bool.xor_false]
  have e1 : 2 * (4 * m) + (0 != 0).toNat = 8 * m := by
    rw [show ((0 : Nat) != 0).toNat = 0 from rfl]
    omega
  have e2 : i - -51 - ((54 + 52 - 52 : Nat) : Int) - 1 = i - 4 := by omega
  rw [e1, e2]
theorem half_zero (s : Bool) (i : Int) : ∃ p, Datum.quotient 54 (.number s 0 i) (.number false 4503599627370496 (-51)) = some (.number s 0 p) := by
  rw [quot_eq 54 s false 0 4503599627370496 i (-51) (by omega), Nat.zero_shiftLeft, Nat.zero_div, Nat.zero_mod, Bool.xor_false]
  exact ⟨_, rfl⟩
theorem two_word : double.read 4611686018427387904 = .number false 4503599627370496 (-51) := by decide
theorem half_holds {a : Nat} {x : Int} (ha : Holds a (2 * x)) (hv : x.natAbs < 9007199254740992) : ∃ r, floatBits .quo .f64 a 4611686018427387904 = some r ∧ Holds r x := by
  obtain ⟨s, m, i, e1, h1⟩ := ha
  have hdiv : floatBits .quo .f64 a 4611686018427387904 = (Datum.quotient 54 (.number s m i) (.number false 4503599627370496 (-51))).map double.write := by
    show double.div a _ = _
    unfold Format.div
    rw [e1, two_word]
    rfl
  rw [hdiv]
  rcases h1 with ⟨h0, rfl⟩ | ⟨h0, p1, p2, p3, p4, p5, p6⟩
  · have hx : x = 0 := by omega
    obtain ⟨p, hp⟩ := half_zero s i
    rw [hp]
    refine ⟨_, rfl, ?_⟩
    rw [hx]
    show Holds (double.nearest s 0 p) 0
    unfold Format.nearest
    rw [if_pos rfl]
    exact ⟨_, 0, -1074, read_zero _, .inl ⟨rfl, rfl⟩⟩
  · rw [half_datum s m i p4 p5]
    refine ⟨_, rfl, holds_write _ _ _ _ 200 (by omega) (by omega) hv ?_ ?_⟩
    · intro _
      rw [p3]
      by_cases c : x < 0
      · rw [decide_eq_true c, decide_eq_true (by omega)]
      · rw [decide_eq_false c, decide_eq_false (by omega)]
    · rw [Int.natAbs_mul] at p6
      have hC : 16 * (2 ^ 60 * 2 ^ 136) = 2 ^ 200 := by rw [← Nat.pow_add, show (16 : Nat) = 2 ^ 4 from rfl, ← Nat.pow_add]
      rw [show (i - 4 + (200 : Nat)).toNat = (i + 60).toNat + 136 by omega, Nat.mul_assoc, Nat.pow_add, ← Nat.mul_assoc m, p6, ← hC]
      generalize (2 : Nat) ^ 60 = A
      generalize (2 : Nat) ^ 136 = B
      rw [show Int.natAbs 2 = 2 from rfl, show (16 : Nat) = 8 * 2 from rfl]
      simp only [Nat.mul_assoc, Nat.mul_left_comm, Nat.mul_comm]
end Go.Proofs.Ytefpdneokkcmpaa.Fl
