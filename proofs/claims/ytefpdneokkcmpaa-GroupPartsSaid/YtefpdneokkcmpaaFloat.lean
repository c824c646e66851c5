/- Whole numbers as float64s: what is exact. -/
import Derived.Laws.ComplexArith
namespace Go.Proofs.Ytefpdneokkcmpaa.Fl
open Ieee
set_option linter.unusedVariables false
/-- The word reads as the whole number v. -/
def Holds (b : Nat) (v : Int) : Prop := ∃ s m i, double.read b = .number s m i ∧ ((v = 0 ∧ m = 0) ∨ (v ≠ 0 ∧ -60 ≤ i ∧ i ≤ 60 ∧ s = decide (v < 0) ∧ 4503599627370496 ≤ m ∧ m < 9007199254740992 ∧ m * 2 ^ (i + 60).toNat = v.natAbs * 2 ^ 60))
theorem read_word (s : Bool) (r : Nat) (h1 : 4503599627370496 ≤ r) (h2 : r < 9218868437227405312) : double.read (double.word s r) = .number s (4503599627370496 + r % 4503599627370496) (-1074 + (r / 4503599627370496 - 1 : Nat)) := by
  have e1 : double.signWeight = 9223372036854775808 := by decide
  have e2 : double.binade = 4503599627370496 := by decide
  have e3 : double.infRung = 9218868437227405312 := by decide
  have e4 : double.leastPlace = -1074 := by decide
  have hw : double.word s r / 9223372036854775808 % 2 = s.toNat ∧ double.word s r % 9223372036854775808 = r := by
    unfold Format.word
    rw [e1]
    cases s <;> simp <;> omega
  unfold Format.read
  rw [e1, e2, e3, e4, hw.1, hw.2]
  simp only
  rw [if_neg (by omega), if_pos h2]
  cases s <;> rfl
theorem read_zero (s : Bool) : double.read (double.word s 0) = .number s 0 (-1074) := by
  cases s <;> decide
theorem cut_none (neg : Bool) (n : Nat) : Toward.even.cut neg n 0 = n := by
  unfold Toward.cut
  simp [Nat.mod_one]
theorem cut_exact (neg : Bool) (q d : Nat) (hq : 0 < q) : Toward.even.cut neg (q * 2 ^ d) d = q := by
  have hl : d ≤ (q * 2 ^ d).log2 := by
    have : 2 ^ d ≤ q * 2 ^ d := Nat.le_mul_of_pos_left _ hq
    exact (Nat.le_log2 (by have := Nat.two_pow_pos d; omega)).2 this
  unfold Toward.cut
  rw [Nat.min_eq_left (by omega), Nat.one_shiftLeft]
  have hp := Nat.two_pow_pos d
  simp only [Nat.mul_mod_left, Nat.mul_div_cancel _ hp]
  have h1 : (2 ^ d == 0) = false := by simp
  have h2 : decide (2 ^ d < 2 * 0) = false := by simp
  rw [Nat.mul_zero, h1]
  simp
theorem log2_shift (m E : Nat) (hm : 0 < m) : (m * 2 ^ E).log2 = m.log2 + E := by
  have h1 : 2 ^ m.log2 ≤ m := Nat.log2_self_le (by omega)
  have h2 : m < 2 ^ (m.log2 + 1) := Nat.lt_log2_self
  have hp := Nat.two_pow_pos E
  refine (Nat.log2_eq_iff (by have := Nat.mul_pos hm hp; omega)).2 ⟨?_, ?_⟩
  · rw [Nat.pow_add]
    exact Nat.mul_le_mul_right _ h1
  · rw [show m.log2 + E + 1 = (m.log2 + 1) + E by omega, Nat.pow_add]
    exact Nat.mul_lt_mul_of_pos_right h2 hp
theorem nearest_exact (neg : Bool) (m : Nat) (place : Int) (a : Nat) (hm : 0 < m) (ha : 0 < a) (ha2 : a < 9007199254740992) (K : Nat) (hK : 128 ≤ K) (hp1 : -(K : Int) ≤ place) (h : m * 2 ^ (place + K).toNat = a * 2 ^ K) :
    ∃ k i, double.read (double.nearest neg m place) = .number neg k i ∧ -60 ≤ i ∧ i ≤ 60 ∧ 4503599627370496 ≤ k ∧ k < 9007199254740992 ∧ k * 2 ^ (i + 60).toNat = a * 2 ^ 60 := by
  obtain ⟨E, hE⟩ : ∃ E : Nat, (E : Int) = place + K := ⟨(place + K).toNat, by omega⟩
  have hEt : (place + K).toNat = E := by omega
  rw [hEt] at h
  have hlog : m.log2 + E = a.log2 + K := by
    rw [← log2_shift m E hm, ← log2_shift a K ha, h]
  have hA : a.log2 ≤ 52 := by
    have := (Nat.log2_lt (n := a) (k := 53) (by omega)).2 (by omega)
    omega
  have hA1 : 2 ^ a.log2 ≤ a := Nat.log2_self_le (by omega)
  have hA2 : a < 2 ^ (a.log2 + 1) := Nat.lt_log2_self
  generalize hAe : a.log2 = A at *
  generalize hLe : m.log2 = L at *
  have hk1 : 4503599627370496 ≤ a * 2 ^ (52 - A) := by
    have : 2 ^ A * 2 ^ (52 - A) ≤ a * 2 ^ (52 - A) := Nat.mul_le_mul_right _ hA1
    rw [← Nat.pow_add, show A + (52 - A) = 52 by omega] at this
    exact this
  have hk2 : a * 2 ^ (52 - A) < 9007199254740992 := by
    have : a * 2 ^ (52 - A) < 2 ^ (A + 1) * 2 ^ (52 - A) := Nat.mul_lt_mul_of_pos_right hA2 (Nat.two_pow_pos _)
    rw [← Nat.pow_add, show A + 1 + (52 - A) = 53 by omega] at this
    exact this
  have hk3 : a * 2 ^ (52 - A) * 2 ^ (A + 8) = a * 2 ^ 60 := by
    rw [Nat.mul_assoc, ← Nat.pow_add, show 52 - A + (A + 8) = 60 by omega]
  have e2 : double.binade = 4503599627370496 := by decide
  have e3 : double.infRung = 9218868437227405312 := by decide
  have e4 : double.leastPlace = -1074 := by decide
  have e5 : double.fractionBits = 52 := rfl
  unfold Format.nearest
  rw [if_neg (by omega), e2, e3, e4, e5, hLe]
  have hlast : max (place + (L : Int) - (52 : Nat)) (-1074) = (A : Int) - 52 := by omega
  simp only [hlast]
  have hkept : Toward.even.cut neg (m <<< (place - ((A : Int) - 52)).toNat) ((A : Int) - 52 - place).toNat = a * 2 ^ (52 - A) := by
    by_cases c : (A : Int) - 52 ≤ place
    · rw [show ((A : Int) - 52 - place).toNat = 0 by omega, cut_none, Nat.shiftLeft_eq]
      generalize ht : (place - ((A : Int) - 52)).toNat = t
      have h2 : m * 2 ^ t * 2 ^ (A + K - 52) = a * 2 ^ (52 - A) * 2 ^ (A + K - 52) := by
        rw [Nat.mul_assoc, ← Nat.pow_add, show t + (A + K - 52) = E by omega, h, Nat.mul_assoc, ← Nat.pow_add, show 52 - A + (A + K - 52) = K by omega]
      exact Nat.eq_of_mul_eq_mul_right (Nat.two_pow_pos _) h2
    · generalize hd : ((A : Int) - 52 - place).toNat = d
      rw [show (place - ((A : Int) - 52)).toNat = 0 by omega, Nat.shiftLeft_zero]
      have h2 : m * 2 ^ E = (a * 2 ^ (52 - A) * 2 ^ d) * 2 ^ E := by
        rw [h, Nat.mul_assoc, Nat.mul_assoc, ← Nat.pow_add, ← Nat.pow_add, show 52 - A + (d + E) = K by omega]
      rw [Nat.eq_of_mul_eq_mul_right (Nat.two_pow_pos _) h2]
      exact cut_exact neg _ d (by omega)
  rw [hkept]
  generalize hk : a * 2 ^ (52 - A) = k at *
  obtain ⟨q, hq⟩ : ∃ q : Nat, ((A : Int) - 52 - -1074).toNat = q := ⟨_, rfl⟩
  rw [hq, Nat.min_eq_left (by omega), read_word neg _ (by omega) (by omega)]
  refine ⟨4503599627370496 + (q * 4503599627370496 + k) % 4503599627370496, -1074 + ((q * 4503599627370496 + k) / 4503599627370496 - 1 : Nat), rfl, ?_⟩
  have m1 : (q * 4503599627370496 + k) % 4503599627370496 = k - 4503599627370496 := by omega
  have m2 : (q * 4503599627370496 + k) / 4503599627370496 = q + 1 := by omega
  rw [m1, m2]
  refine ⟨by omega, by omega, by omega, by omega, ?_⟩
  rw [show 4503599627370496 + (k - 4503599627370496) = k by omega, show (-1074 + ((q + 1 - 1 : Nat) : Int) + 60).toNat = A + 8 by omega]
  exact hk3

theorem holds_write (s : Bool) (m : Nat) (i : Int) (v : Int) (K : Nat) (hK : 128 ≤ K) (hi : -(K : Int) ≤ i) (hv : v.natAbs < 9007199254740992) (hs : v ≠ 0 → s = decide (v < 0)) (h : m * 2 ^ (i + K).toNat = v.natAbs * 2 ^ K) : Holds (double.write (.number s m i)) v := by
  show Holds (double.nearest s m i) v
  have hp : 0 < 2 ^ (i + K).toNat := Nat.two_pow_pos _
  have hq : 0 < 2 ^ K := Nat.two_pow_pos _
  by_cases c : v = 0
  · have hm : m = 0 := by
      rcases Nat.eq_zero_or_pos m with h0 | h0
      · exact h0
      · exfalso
        have : 0 < m * 2 ^ (i + K).toNat := Nat.mul_pos h0 hp
        rw [h, c] at this
        simp at this
    subst hm
    unfold Format.nearest
    rw [if_pos rfl]
    exact ⟨s, 0, -1074, read_zero s, .inl ⟨c, rfl⟩⟩
  · have hm : 0 < m := by
      rcases Nat.eq_zero_or_pos m with h0 | h0
      · exfalso
        rw [h0, Nat.zero_mul] at h
        have : 0 < v.natAbs * 2 ^ K := Nat.mul_pos (by omega) hq
        omega
      · exact h0
    obtain ⟨k, i', hr, h1, h2, h3, h4, h5⟩ := nearest_exact s m i v.natAbs hm (by omega) hv K hK hi h
    exact ⟨s, k, i', hr, .inr ⟨c, h1, h2, hs c, h3, h4, h5⟩⟩
/-- What a word stands for, at a common place. -/
theorem signed_of {s : Bool} {m : Nat} {i v : Int} (h : (v = 0 ∧ m = 0) ∨ (v ≠ 0 ∧ -60 ≤ i ∧ i ≤ 60 ∧ s = decide (v < 0) ∧ 4503599627370496 ≤ m ∧ m < 9007199254740992 ∧ m * 2 ^ (i + 60).toNat = v.natAbs * 2 ^ 60)) (K : Nat) (hK : 2000 ≤ K) (base : Int) (hb : base ≤ i) (hb2 : -1500 ≤ base) :
    signed s m (i - base).toNat * 2 ^ (base + K).toNat = v * 2 ^ K := by
  rcases h with ⟨rfl, rfl⟩ | ⟨h0, h1, h2, h3, _, _, h4⟩
  · unfold signed
    simp
  · have e : (m <<< (i - base).toNat) * 2 ^ (base + K).toNat = v.natAbs * 2 ^ K := by
      rw [Nat.shiftLeft_eq, Nat.mul_assoc, ← Nat.pow_add, show (i - base).toNat + (base + K).toNat = (i + 60).toNat + (K - 60) by omega, Nat.pow_add, ← Nat.mul_assoc, h4, Nat.mul_assoc, ← Nat.pow_add, show 60 + (K - 60) = K by omega]
    have e2 : ((m <<< (i - base).toNat : Nat) : Int) * 2 ^ (base + K).toNat = (v.natAbs : Int) * 2 ^ K := by exact_mod_cast e
    unfold signed
    by_cases c : v < 0
    · rw [h3, decide_eq_true c, if_pos rfl, Int.neg_mul, e2, ← Int.neg_mul, show -(v.natAbs : Int) = v by omega]
    · rw [h3, decide_eq_false c, if_neg (by simp), e2, show (v.natAbs : Int) = v by omega]
theorem neg_iff {a p : Int} (hp : 0 < p) : a * p < 0 ↔ a < 0 := by
  constructor
  · intro h
    rcases Int.lt_or_le a 0 with c | c
    · exact c
    · have := Int.mul_nonneg c (Int.le_of_lt hp)
      omega
  · intro h
    exact Int.mul_neg_of_neg_of_pos h hp
theorem i_low {s : Bool} {m : Nat} {i v : Int} {b : Nat} (hr : double.read b = .number s m i) : -1074 ≤ i := by
  have e4 : double.leastPlace = -1074 := by decide
  unfold Format.read at hr
  rw [e4] at hr
  simp only at hr
  split at hr
  · cases hr
    omega
  · split at hr
    · cases hr
      omega
    · split at hr <;> cases hr
theorem sum_holds {s t : Bool} {m n : Nat} {i j x y : Int} (hx : (x = 0 ∧ m = 0) ∨ (x ≠ 0 ∧ -60 ≤ i ∧ i ≤ 60 ∧ s = decide (x < 0) ∧ 4503599627370496 ≤ m ∧ m < 9007199254740992 ∧ m * 2 ^ (i + 60).toNat = x.natAbs * 2 ^ 60)) (hy : (y = 0 ∧ n = 0) ∨ (y ≠ 0 ∧ -60 ≤ j ∧ j ≤ 60 ∧ t = decide (y < 0) ∧ 4503599627370496 ≤ n ∧ n < 9007199254740992 ∧ n * 2 ^ (j + 60).toNat = y.natAbs * 2 ^ 60))
    (hi : -1074 ≤ i) (hj : -1074 ≤ j) (hv : (x + y).natAbs < 9007199254740992) : ∃ d, Datum.sum (.number s m i) (.number t n j) = some d ∧ Holds (double.write d) (x + y) := by
  refine ⟨_, rfl, ?_⟩
  obtain ⟨K, hK⟩ : ∃ K, 2000 ≤ K := ⟨2000, Nat.le_refl _⟩
  have h1 := signed_of hx K hK (min i j) (by omega) (by omega)
  have h2 := signed_of hy K hK (min i j) (by omega) (by omega)
  generalize signed s m (i - min i j).toNat = X at *
  generalize signed t n (j - min i j).toNat = Y at *
  have h3 : (X + Y) * 2 ^ (min i j + K).toNat = (x + y) * 2 ^ K := by rw [Int.add_mul, h1, h2, Int.add_mul]
  have hp : (0 : Int) < 2 ^ (min i j + K).toNat := Int.pow_pos (by omega)
  have hq : (0 : Int) < 2 ^ K := Int.pow_pos (by omega)
  refine holds_write _ _ _ _ K (by omega) (by omega) hv ?_ ?_
  · intro h0
    have hz : X + Y ≠ 0 := by
      intro e
      rw [e, Int.zero_mul] at h3
      rcases Int.mul_eq_zero.1 h3.symm with h | h
      · exact h0 h
      · omega
    rw [if_neg hz]
    have : X + Y < 0 ↔ x + y < 0 := by
      rw [← neg_iff hp, h3, neg_iff hq]
    by_cases c : x + y < 0
    · rw [decide_eq_true c, decide_eq_true (this.2 c)]
    · rw [decide_eq_false c, decide_eq_false (fun h => c (this.1 h))]
  · have h4 := congrArg Int.natAbs h3
    rw [Int.natAbs_mul, Int.natAbs_mul, Int.natAbs_pow, Int.natAbs_pow] at h4
    exact h4
theorem holds_zero : Holds 0 0 := ⟨false, 0, -1074, read_zero false, .inl ⟨rfl, rfl⟩⟩
theorem int_holds (n : Int) (h : n.natAbs < 9007199254740992) : Holds (FloatKind.f64.nearest n) n :=
  holds_write (decide (n < 0)) n.natAbs 0 n 128 (by omega) (by omega) h (fun _ => rfl) (by rw [show ((0 : Int) + (128 : Nat)).toNat = 128 from rfl])
theorem add_holds {a b : Nat} {x y : Int} (ha : Holds a x) (hb : Holds b y) (hv : (x + y).natAbs < 9007199254740992) : ∃ r, floatBits .add .f64 a b = some r ∧ Holds r (x + y) := by
  obtain ⟨s, m, i, e1, h1⟩ := ha
  obtain ⟨t, n, j, e2, h2⟩ := hb
  obtain ⟨d, hd, hw⟩ := sum_holds h1 h2 (i_low (v := x) e1) (i_low (v := y) e2) hv
  refine ⟨double.write d, ?_, hw⟩
  show double.add a b = _
  unfold Format.add
  rw [e1, e2, hd]
  rfl
theorem opp {s : Bool} {m : Nat} {i x : Int} (h : (x = 0 ∧ m = 0) ∨ (x ≠ 0 ∧ -60 ≤ i ∧ i ≤ 60 ∧ s = decide (x < 0) ∧ 4503599627370496 ≤ m ∧ m < 9007199254740992 ∧ m * 2 ^ (i + 60).toNat = x.natAbs * 2 ^ 60)) : (-x = 0 ∧ m = 0) ∨ (-x ≠ 0 ∧ -60 ≤ i ∧ i ≤ 60 ∧ (!s) = decide (-x < 0) ∧ 4503599627370496 ≤ m ∧ m < 9007199254740992 ∧ m * 2 ^ (i + 60).toNat = (-x).natAbs * 2 ^ 60) := by
  rcases h with ⟨h1, h2⟩ | ⟨h0, h1, h2, h3, h4, h5, h6⟩
  · exact .inl ⟨by omega, h2⟩
  · refine .inr ⟨by omega, h1, h2, ?_, h4, h5, by rw [Int.natAbs_neg]; exact h6⟩
    rw [h3]
    by_cases c : x < 0
    · rw [decide_eq_true c, decide_eq_false (by omega)]
      rfl
    · rw [decide_eq_false c, decide_eq_true (by omega)]
      rfl
theorem sub_holds {a b : Nat} {x y : Int} (ha : Holds a x) (hb : Holds b y) (hv : (x - y).natAbs < 9007199254740992) : ∃ r, floatBits .sub .f64 a b = some r ∧ Holds r (x - y) := by
  obtain ⟨s, m, i, e1, h1⟩ := ha
  obtain ⟨t, n, j, e2, h2⟩ := hb
  obtain ⟨d, hd, hw⟩ := sum_holds h1 (opp h2) (i_low (v := x) e1) (i_low (v := y) e2) (by rw [← Int.sub_eq_add_neg]; exact hv)
  refine ⟨double.write d, ?_, by rw [Int.sub_eq_add_neg]; exact hw⟩
  show double.sub a b = _
  unfold Format.sub
  rw [e1, e2]
  show ((Datum.sum (.number s m i) (.number (!t) n j))).map double.write = _
  rw [hd]
  rfl
theorem mul_holds {a b : Nat} {x y : Int} (ha : Holds a x) (hb : Holds b y) (hv : (x * y).natAbs < 9007199254740992) : ∃ r, floatBits .mul .f64 a b = some r ∧ Holds r (x * y) := by
  obtain ⟨s, m, i, e1, h1⟩ := ha
  obtain ⟨t, n, j, e2, h2⟩ := hb
  refine ⟨double.write (.number (s ^^ t) (m * n) (i + j)), ?_, ?_⟩
  · show double.mul a b = _
    unfold Format.mul
    rw [e1, e2]
    rfl
  · by_cases hz : m * n = 0
    · have hxy : x * y = 0 := by
        rcases h1 with ⟨h, _⟩ | ⟨_, _, _, _, hm, _, _⟩
        · rw [h, Int.zero_mul]
        · rcases h2 with ⟨h, _⟩ | ⟨_, _, _, _, hn, _, _⟩
          · rw [h, Int.mul_zero]
          · exfalso
            rcases Nat.mul_eq_zero.1 hz with h | h <;> omega
      rw [hz, hxy]
      show Holds (double.nearest (s ^^ t) 0 (i + j)) 0
      unfold Format.nearest
      rw [if_pos rfl]
      exact ⟨_, 0, -1074, read_zero _, .inl ⟨rfl, rfl⟩⟩
    · rcases h1 with ⟨_, h⟩ | ⟨hx0, p1, p2, p3, p4, p5, p6⟩
      · exact absurd (by rw [h, Nat.zero_mul]) hz
      rcases h2 with ⟨_, h⟩ | ⟨hy0, q1, q2, q3, q4, q5, q6⟩
      · exact absurd (by rw [h, Nat.mul_zero]) hz
      refine holds_write _ _ _ _ 200 (by omega) (by omega) hv ?_ ?_
      · intro _
        rw [p3, q3]
        by_cases cx : x < 0 <;> by_cases cy : y < 0
        · have := Int.mul_pos_of_neg_of_neg cx cy
          rw [decide_eq_true cx, decide_eq_true cy, decide_eq_false (by omega)]
          rfl
        · have := Int.mul_neg_of_neg_of_pos cx (show 0 < y by omega)
          rw [decide_eq_true cx, decide_eq_false cy, decide_eq_true this]
          rfl
        · have := Int.mul_neg_of_pos_of_neg (show 0 < x by omega) cy
          rw [decide_eq_false cx, decide_eq_true cy, decide_eq_true this]
          rfl
        · have := Int.mul_pos (show 0 < x by omega) (show 0 < y by omega)
          rw [decide_eq_false cx, decide_eq_false cy, decide_eq_false (by omega)]
          rfl
      · rw [Int.natAbs_mul]
        have h : m * n * 2 ^ ((i + 60).toNat + (j + 60).toNat) = x.natAbs * y.natAbs * 2 ^ 120 := by
          rw [Nat.pow_add, Nat.mul_mul_mul_comm, p6, q6, Nat.mul_mul_mul_comm, ← Nat.pow_add]
        rw [show (i + j + (200 : Nat)).toNat = (i + 60).toNat + (j + 60).toNat + 80 by omega, Nat.pow_add, ← Nat.mul_assoc, h, Nat.mul_assoc, ← Nat.pow_add]
theorem neg_holds {b : Nat} {x : Int} (hb : Holds b x) : Holds (Go.Op.negFloat .f64 b) (-x) := by
  obtain ⟨s, m, i, e1, h1⟩ := hb
  refine ⟨!s, m, i, ?_, opp h1⟩
  have e2 : double.signWeight = 9223372036854775808 := by decide
  have hx1 : Go.Op.negFloat .f64 b % 9223372036854775808 = b % 9223372036854775808 := by
    show (b ^^^ 2 ^ 63) % 2 ^ 63 = b % 2 ^ 63
    rw [Nat.xor_mod_two_pow, Nat.mod_self, Nat.xor_zero]
  have hx2 : Go.Op.negFloat .f64 b / 9223372036854775808 % 2 = 1 - b / 9223372036854775808 % 2 := by
    show (b ^^^ 2 ^ 63) / 2 ^ 63 % 2 = 1 - b / 2 ^ 63 % 2
    rw [Nat.xor_div_two_pow, Nat.div_self (Nat.two_pow_pos _)]
    generalize b / 2 ^ 63 = q
    have := Nat.xor_mod_two_pow (a := q) (b := 1) (n := 1)
    rw [show (2 : Nat) = 2 ^ 1 from rfl, this]
    rcases Nat.mod_two_eq_zero_or_one q with h | h <;> simp [h]
  unfold Format.read at e1 ⊢
  rw [e2] at e1 ⊢
  simp only at e1 ⊢
  rw [hx1, hx2]
  have hs : (1 - b / 9223372036854775808 % 2 == 1) = !(b / 9223372036854775808 % 2 == 1) := by
    rcases Nat.mod_two_eq_zero_or_one (b / 9223372036854775808) with h | h <;> rw [h] <;> rfl
  rw [hs]
  split at e1
  · rename_i c
    rw [if_pos c]
    cases e1
    rfl
  · rename_i c
    rw [if_neg c]
    split at e1
    · rename_i c2
      rw [if_pos c2]
      cases e1
      rfl
    · split at e1 <;> cases e1
theorem order_holds {a b : Nat} {x y : Int} (ha : Holds a x) (hb : Holds b y) : double.order a b = some (compare x y) := by
  obtain ⟨s, m, i, e1, h1⟩ := ha
  obtain ⟨t, n, j, e2, h2⟩ := hb
  unfold Format.order
  rw [e1, e2]
  show some (compare (signed s m (i - min i j).toNat) (signed t n (j - min i j).toNat)) = _
  have hi := i_low (v := x) e1
  have hj := i_low (v := y) e2
  obtain ⟨K, hK⟩ : ∃ K, 2000 ≤ K := ⟨2000, Nat.le_refl _⟩
  have g1 := signed_of h1 K hK (min i j) (by omega) (by omega)
  have g2 := signed_of h2 K hK (min i j) (by omega) (by omega)
  generalize signed s m (i - min i j).toNat = X at *
  generalize signed t n (j - min i j).toNat = Y at *
  have hp : (0 : Int) < 2 ^ (min i j + K).toNat := Int.pow_pos (by omega)
  have hq : (0 : Int) < 2 ^ K := Int.pow_pos (by omega)
  generalize (2 : Int) ^ (min i j + K).toNat = p at *
  generalize (2 : Int) ^ K = q at *
  have key : ∀ {A B c d : Int}, A * p = c * q → B * p = d * q → (A < B ↔ c < d) := by
    intro A B c d u v
    have := neg_iff (a := A - B) hp
    have h2 := neg_iff (a := c - d) hq
    rw [Int.sub_mul, u, v, ← Int.sub_mul] at this
    omega
  have k1 := key g1 g2
  have k2 := key g2 g1
  simp only [compare, compareOfLessAndEq]
  congr 1
  by_cases c1 : x < y
  · rw [if_pos c1, if_pos (k1.2 c1)]
  · rw [if_neg c1, if_neg (fun h => c1 (k1.1 h))]
    by_cases c2 : x = y
    · have : ¬ X < Y := fun h => c1 (k1.1 h)
      have : ¬ Y < X := fun h => by have := k2.1 h; omega
      rw [if_pos c2, if_pos (by omega)]
    · have : Y < X := k2.2 (by omega)
      rw [if_neg c2, if_neg (by omega)]
end Go.Proofs.Ytefpdneokkcmpaa.Fl
