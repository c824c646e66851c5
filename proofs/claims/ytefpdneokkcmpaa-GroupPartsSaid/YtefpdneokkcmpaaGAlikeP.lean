/- The sums of group.Alike, plainly. -/
import Derived.Test.YtefpdneokkcmpaaFloatC
import Derived.Test.YtefpdneokkcmpaaDev
namespace Go.Proofs.Ytefpdneokkcmpaa.Given
open Go.RowKit Go.Proofs.YtefpdneokkcmpaaW.PrintWords Go.Proofs.YtefpdneokkcmpaaW.PrintLast Go.Proofs.YtefpdneokkcmpaaW.PrintMore Go.Proofs.Ytefpdneokkcmpaa.S Go.Proofs.Ytefpdneokkcmpaa.Fl
set_option linter.unusedVariables false
def okD (l : List Int) : Prop := ∀ x ∈ l, -8388608 ≤ x ∧ x ≤ 8388608
theorem may_ok {l : List Int} (h : mayB l = true) : okE l ∧ l.length ≤ 16 := by
  unfold mayB at h
  simp only [Bool.and_eq_true, decide_eq_true_eq, Bool.not_eq_true', List.any_eq_false] at h
  refine ⟨fun x hx => ?_, h.1⟩
  have := h.2 x hx
  unfold outB at this
  simp at this
  omega
theorem dev_okD {l : List Int} (h : okE l) (hl : l.length ≤ 16) (n : Nat) (hn : n ≤ l.length) : okD (devL l n) := by
  intro x hx
  unfold devL at hx
  have hd : (l.drop (l.length - n)).length = n := by rw [List.length_drop]; omega
  have hed : okE (l.drop (l.length - n)) := fun x hx => h x (List.mem_of_mem_drop hx)
  have hsb := sum_bound _ hed
  obtain ⟨y, hy, rfl⟩ := List.mem_map.1 hx
  have hyb := hed y hy
  have h1 : 0 ≤ (n : Int) * y ∧ (n : Int) * y ≤ 16 * 262144 := ⟨Int.mul_nonneg (by omega) hyb.1, Int.mul_le_mul (by omega) hyb.2 hyb.1 (by omega)⟩
  omega
theorem dev_len (l : List Int) (n : Nat) (hn : n ≤ l.length) : (devL l n).length = n := by
  unfold devL
  rw [List.length_map, List.length_drop]
  omega
theorem dot_take : ∀ (X Y : List Int) (k : Nat) (hx : k < X.length) (hy : k < Y.length), dotL (X.take (k + 1)) (Y.take (k + 1)) = dotL (X.take k) (Y.take k) + X[k] * Y[k]
  | x :: t, y :: u, 0, _, _ => by simp [dotL]
  | x :: t, y :: u, k + 1, hx, hy => by
    have := dot_take t u k (by simpa using hx) (by simpa using hy)
    simp only [List.take_succ_cons, dotL] at this ⊢
    rw [this]
    simp only [List.getElem_cons_succ]
    omega
  | [], _, _, hx, _ => by simp at hx
  | _ :: _, [], _, _, hy => by simp at hy
theorem dot_bound (X Y : List Int) (hX : okD X) (hY : okD Y) (hl : X.length = Y.length) : ∀ k, k ≤ X.length → -(70368744177664 * (k : Int)) ≤ dotL (X.take k) (Y.take k) ∧ dotL (X.take k) (Y.take k) ≤ 70368744177664 * (k : Int)
  | 0, _ => by simp [dotL]
  | k + 1, h => by
    have ih := dot_bound X Y hX hY hl k (by omega)
    rw [dot_take X Y k (by omega) (by omega)]
    have hx := hX X[k] (List.getElem_mem _)
    have hy := hY Y[k] (List.getElem_mem _)
    have := prod_le hx.1 hx.2 hy.1 hy.2
    omega
/-- What the two sums hold behind k rounds. -/
def Sums (X Y : List Int) (k a b c d : Nat) : Prop :=
  Holds a (dotL (X.take k) (X.take k) - dotL (Y.take k) (Y.take k)) ∧ Holds b (2 * dotL (X.take k) (Y.take k)) ∧ Holds c (dotL (X.take k) (X.take k) + dotL (Y.take k) (Y.take k)) ∧ Holds d 0
theorem sums_start (X Y : List Int) : Sums X Y 0 0 0 0 0 := by
  refine ⟨?_, ?_, ?_, holds_zero⟩ <;> simpa [dotL] using holds_zero
theorem sums_step {X Y : List Int} {k a b c d : Nat} (hX : okD X) (hY : okD Y) (hl : X.length = Y.length) (hn : X.length ≤ 16) (hk : k < X.length) (hk2 : k < Y.length) (h : Sums X Y k a b c d) :
    ∃ p q a' b' p2 q2 c' d', cMulBits (FloatKind.f64.nearest X[k]) (FloatKind.f64.nearest Y[k]) (FloatKind.f64.nearest X[k]) (FloatKind.f64.nearest Y[k]) = some (p, q) ∧ cSumBits .add .f64 a b p q = some (a', b') ∧
      cMulBits (FloatKind.f64.nearest X[k]) (FloatKind.f64.nearest Y[k]) (FloatKind.f64.nearest X[k]) (Go.Op.negFloat .f64 (FloatKind.f64.nearest Y[k])) = some (p2, q2) ∧ cSumBits .add .f64 c d p2 q2 = some (c', d') ∧ Sums X Y (k + 1) a' b' c' d' := by
  obtain ⟨ha, hb, hc, hd⟩ := h
  have hx := hX X[k] (List.getElem_mem _)
  have hy := hY Y[k] (List.getElem_mem _)
  have b1 := dot_bound X X hX hX rfl k (by omega)
  have b2 := dot_bound Y Y hY hY rfl k (by omega)
  have b3 := dot_bound X Y hX hY hl k (by omega)
  have t1 := dot_take X X k hk hk
  have t2 := dot_take Y Y k hk2 hk2
  have t3 := dot_take X Y k hk hk2
  have nn : ∀ (Z : List Int) (m : Nat), 0 ≤ dotL (Z.take m) (Z.take m) := by
    intro Z m
    generalize Z.take m = W
    induction W with
    | nil => simp [dotL]
    | cons z t ih => simp only [dotL]; have := sq_nn z; omega
  have n1 := nn X k
  have n2 := nn Y k
  obtain ⟨p, q, a', b', p2, q2, c', d', e1, e2, e3, e4, k1, k2, k3, k4⟩ := round_bits hx.1 hx.2 hy.1 hy.2 ha hb hc hd (by omega) (by omega) (by omega)
  refine ⟨p, q, a', b', p2, q2, c', d', e1, e2, e3, e4, ?_, ?_, ?_, k4⟩
  · rw [t1, t2, show dotL (X.take k) (X.take k) + X[k] * X[k] - (dotL (Y.take k) (Y.take k) + Y[k] * Y[k]) = dotL (X.take k) (X.take k) - dotL (Y.take k) (Y.take k) + (X[k] * X[k] - Y[k] * Y[k]) by omega]
    exact k1
  · rw [t3, show 2 * (dotL (X.take k) (Y.take k) + X[k] * Y[k]) = 2 * dotL (X.take k) (Y.take k) + (X[k] * Y[k] + Y[k] * X[k]) by rw [Int.mul_comm Y[k]]; omega]
    exact k2
  · rw [t1, t2, show dotL (X.take k) (X.take k) + X[k] * X[k] + (dotL (Y.take k) (Y.take k) + Y[k] * Y[k]) = dotL (X.take k) (X.take k) + dotL (Y.take k) (Y.take k) + (X[k] * X[k] + Y[k] * Y[k]) by omega]
    exact k3
/-- What stands behind the loop: the two quotients, and the three tests. -/
theorem sums_end {X Y : List Int} {a b c d : Nat} (hX : okD X) (hY : okD Y) (hl : X.length = Y.length) (hn : X.length ≤ 16) (h : Sums X Y X.length a b c d) :
    ∃ s1 own s2 other, floatBits .add .f64 c a = some s1 ∧ floatBits .quo .f64 s1 4611686018427387904 = some own ∧ floatBits .sub .f64 c a = some s2 ∧ floatBits .quo .f64 s2 4611686018427387904 = some other ∧
      (Ieee.double.order b 0 == some .gt) = decide (0 < 2 * dotL X Y) ∧ (Ieee.double.order b own == some .gt || Ieee.double.order b own == some .eq) = decide (dotL X X ≤ 2 * dotL X Y) ∧
      (Ieee.double.order b other == some .gt || Ieee.double.order b other == some .eq) = decide (dotL Y Y ≤ 2 * dotL X Y) := by
  obtain ⟨ha, hb, hc, hd⟩ := h
  have b1 := dot_bound X X hX hX rfl X.length (by omega)
  have b2 := dot_bound Y Y hY hY rfl Y.length (by omega)
  have b3 := dot_bound X Y hX hY hl X.length (by omega)
  rw [hl, List.take_length, ← hl, List.take_length] at ha hc
  rw [List.take_length, hl, List.take_length] at hb
  rw [List.take_length] at b1 b2
  rw [List.take_length, hl, List.take_length] at b3
  have nn : ∀ (W : List Int), 0 ≤ dotL W W := by
    intro W
    induction W with
    | nil => simp [dotL]
    | cons z t ih => simp only [dotL]; have := sq_nn z; omega
  have n1 := nn X
  have n2 := nn Y
  obtain ⟨s1, e1, k1⟩ := add_holds hc ha (by omega)
  obtain ⟨own, e2, k2⟩ := half_holds (x := dotL X X) (by rw [show dotL X X + dotL Y Y + (dotL X X - dotL Y Y) = 2 * dotL X X by omega] at k1; exact k1) (by omega)
  obtain ⟨s2, e3, k3⟩ := sub_holds hc ha (by omega)
  obtain ⟨other, e4, k4⟩ := half_holds (x := dotL Y Y) (by rw [show dotL X X + dotL Y Y - (dotL X X - dotL Y Y) = 2 * dotL Y Y by omega] at k3; exact k3) (by omega)
  have cmp1 : ∀ x y : Int, (some (compare x y) == some Ordering.gt) = decide (y < x) := by
    intro x y
    simp only [compare, compareOfLessAndEq]
    by_cases c1 : x < y
    · rw [if_pos c1, decide_eq_false (by omega)]; rfl
    · rw [if_neg c1]
      by_cases c2 : x = y
      · rw [if_pos c2, decide_eq_false (by omega)]; rfl
      · rw [if_neg c2, decide_eq_true (by omega)]; rfl
  have cmp2 : ∀ x y : Int, (some (compare x y) == some Ordering.gt || some (compare x y) == some Ordering.eq) = decide (y ≤ x) := by
    intro x y
    simp only [compare, compareOfLessAndEq]
    by_cases c1 : x < y
    · rw [if_pos c1, decide_eq_false (by omega)]; rfl
    · rw [if_neg c1]
      by_cases c2 : x = y
      · rw [if_pos c2, decide_eq_true (by omega)]; rfl
      · rw [if_neg c2, decide_eq_true (by omega)]; rfl
  refine ⟨s1, own, s2, other, e1, e2, e3, e4, ?_, ?_, ?_⟩
  · rw [order_holds hb holds_zero, cmp1]
  · rw [order_holds hb k2, cmp2]
  · rw [order_holds hb k4, cmp2]
end Go.Proofs.Ytefpdneokkcmpaa.Given
