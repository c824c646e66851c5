/- Plain facts of chapter 17: May, Add, the document's product and Alike; lists that are alike are alike either way round. -/
import Derived.Test.YtefpdneokkcmpaaGAlikeP
import Derived.Test.YtefpdneokkcmpaaSx7
import Derived.Test.YtefpdneokkcmpaaSx8
import Derived.Test.YtefpdneokkcmpaaSx12
import Derived.Test.YtefpdneokkcmpaaSx13
namespace Go.Proofs.Ytefpdneokkcmpaa.Given
open Go.RowKit Go.Proofs.YtefpdneokkcmpaaW.PrintWords Go.Proofs.YtefpdneokkcmpaaW.PrintLast Go.Proofs.YtefpdneokkcmpaaW.PrintMore Go.Proofs.Ytefpdneokkcmpaa.S
set_option linter.unusedVariables false
theorem may_eq (l : List Int) : group_May.f l = some (mayB l) := rfl
theorem alike_eq (a b : List Int) : group_Alike.f a b = some (alikeB a b) := rfl
theorem ints_l0 (a b : List Int) (hl : a.length = b.length) (hb : a.length ≤ 1000000) : ∀ (m i k : Nat), a.length - i = m → i ≤ a.length → m < k → fourinhandref03_Ints.l0 k a b i = some (decide (a.drop i = b.drop i)) := by
  intro m
  induction m with
  | zero =>
    intro i k h1 h2 hk
    obtain ⟨k, rfl⟩ : ∃ j, k = j + 1 := ⟨k - 1, by omega⟩
    obtain rfl : i = a.length := by omega
    rw [fourinhandref03_Ints.l0, if_neg (by omega), List.drop_length, hl, List.drop_length, decide_eq_true rfl]
  | succ m ih =>
    intro i k h1 h2 hk
    obtain ⟨k, rfl⟩ : ∃ j, k = j + 1 := ⟨k - 1, by omega⟩
    have hi : i < a.length := by omega
    have hi2 : i < b.length := by omega
    rw [fourinhandref03_Ints.l0, if_pos (by omega), if_pos (by omega), if_pos (by omega), rd_at a i hi, rd_at b i hi2, w64 ((i : Int) + 1) (by omega) (by omega), show (i : Int) + 1 = ((i + 1 : Nat) : Int) by omega, ih (i + 1) k (by omega) (by omega) (by omega), List.drop_eq_getElem_cons hi, List.drop_eq_getElem_cons hi2]
    by_cases c : a[i] = b[i]
    · rw [if_pos c, c]
      congr 1
      simp only [List.cons.injEq, true_and]
    · rw [if_neg c]
      congr 1
      simp only [List.cons.injEq, c, false_and, decide_false]
theorem ints_eq (k : Nat) (a b : List Int) (ha : a.length < k) (hk : a.length ≤ 1000000) : fourinhandref03_Ints.f k a b = some (decide (a = b)) := by
  unfold fourinhandref03_Ints.f
  by_cases c : a.length = b.length
  · rw [if_pos (by omega)]
    have := ints_l0 a b c hk a.length 0 k (by omega) (by omega) ha
    simpa using this
  · rw [if_neg (by omega), decide_eq_false]
    intro e
    exact c (by rw [e])
theorem rmay_l0 (l : List Int) (hl : l.length ≤ 1000000) : ∀ (m i k : Nat), l.length - i = m → i ≤ l.length → m < k → fourinhandref17_May.l0 k l i = some (!((l.drop i).any outB) && decide (l.length ≤ 16)) := by
  intro m
  induction m with
  | zero =>
    intro i k h1 h2 hk
    obtain ⟨k, rfl⟩ : ∃ j, k = j + 1 := ⟨k - 1, by omega⟩
    obtain rfl : i = l.length := by omega
    rw [fourinhandref17_May.l0, if_neg (by omega), List.drop_length]
    simp
    omega
  | succ m ih =>
    intro i k h1 h2 hk
    obtain ⟨k, rfl⟩ : ∃ j, k = j + 1 := ⟨k - 1, by omega⟩
    have hi : i < l.length := by omega
    rw [fourinhandref17_May.l0, if_pos (by omega), if_pos (by omega), rd_at l i hi, w64 ((i : Int) + 1) (by omega) (by omega), show (i : Int) + 1 = ((i + 1 : Nat) : Int) by omega, ih (i + 1) k (by omega) (by omega) (by omega), List.drop_eq_getElem_cons hi, List.any_cons]
    unfold outB
    by_cases c : l[i] < 0
    · rw [if_pos c, decide_eq_true c]
      simp
    · by_cases c2 : l[i] > 262144
      · rw [if_neg c, if_pos c2, decide_eq_true (show 262144 < l[i] from c2)]
        simp
      · rw [if_neg c, if_neg c2, decide_eq_false c, decide_eq_false (show ¬ 262144 < l[i] from c2)]
        simp
theorem rmay_eq (k : Nat) (l : List Int) (hl : l.length ≤ 1000000) (hk : l.length < k) : fourinhandref17_May.f k l = some (mayB l) := by
  unfold fourinhandref17_May.f
  have := rmay_l0 l hl l.length 0 k (by omega) (by omega) hk
  rw [List.drop_zero, Bool.and_comm] at this
  exact this
/-- One delay more. -/
def addB (l : List Int) (d : Int) : List Int × Int := if (mayB l && !outB d) = true then ((l ++ [d]).drop (l.length + 1 - 16), 0) else ([], 1)
theorem add_eq (l : List Int) (d : Int) : group_Add.f l d = some (addB l d) := by
  unfold group_Add.f addB
  rw [may_eq, Option.bind_some]
  by_cases c : mayB l = true
  · obtain ⟨_, hl⟩ := may_ok c
    rw [if_pos c, out_eq, Option.bind_some]
    by_cases c2 : outB d = true
    · rw [if_pos c2, if_neg (by rw [c2]; simp)]
    · rw [if_neg c2]
      unfold slices_Clone_int_int.f
      rw [if_pos (by omega), Option.bind_some, if_pos (by omega)]
      simp only [Option.bind_some]
      have hlen : ((l ++ [d]).length : Int) = (l.length : Int) + 1 := by simp
      have hm : mx 0 (wrap64 (((l ++ [d]).length : Int) - 16)) = ((l.length + 1 - 16 : Nat) : Int) := by
        rw [hlen, w64 _ (by omega) (by omega)]
        unfold mx
        split <;> omega
      rw [hm, if_pos (by omega), if_pos (by rw [hlen]; omega), if_pos (by rw [c, Bool.eq_false_iff.mpr c2]; rfl)]
      rfl
  · rw [if_neg c, if_neg]
    simp [Bool.eq_false_iff.mpr c]
theorem radd_eq (k : Nat) (l : List Int) (d : Int) (hl : l.length ≤ 1000000) (hk : l.length + 2 < k) : fourinhandref17_Add.f k l d = some (addB l d) := by
  unfold fourinhandref17_Add.f addB
  obtain ⟨k', rfl⟩ : ∃ j, k = j + 1 := ⟨k - 1, by omega⟩
  rw [rmay_eq _ l hl (by omega), Option.bind_some]
  have hbad : fourinhandref17_Add.j0 (k' + 1) l d true = some ([], 1) := by
    rw [fourinhandref17_Add.j0, if_pos rfl]
  by_cases c : mayB l = true
  · obtain ⟨_, hl2⟩ := may_ok c
    rw [if_pos c]
    have hgood : fourinhandref17_Add.j0 (k' + 1) l d false = some ((l ++ [d]).drop (l.length + 1 - 16), 0) := by
      rw [fourinhandref17_Add.j0, if_neg (by simp), if_pos (by simp only [List.length_nil]; omega)]
      simp only [Option.bind_some, List.nil_append]
      have hlen : ((l ++ [d]).length : Int) = (l.length : Int) + 1 := by simp
      rw [if_pos (by omega), hlen]
      by_cases c3 : l.length = 16
      · rw [if_pos (by omega), if_pos (by omega), c3]
        rfl
      · rw [if_neg (by omega), show l.length + 1 - 16 = 0 by omega]
        rfl
    by_cases c1 : d < 0
    · rw [if_pos c1, hbad, if_neg]
      unfold outB
      rw [decide_eq_true c1]
      simp
    · rw [if_neg c1]
      by_cases c2 : d > 262144
      · rw [decide_eq_true c2, hbad, if_neg]
        unfold outB
        rw [decide_eq_true (show 262144 < d from c2)]
        simp
      · rw [decide_eq_false c2, hgood, if_pos]
        unfold outB
        rw [c, decide_eq_false c1, decide_eq_false (show ¬ 262144 < d from c2)]
        rfl
  · rw [if_neg c, hbad, if_neg]
    simp [Bool.eq_false_iff.mpr c]
theorem dot_comm : ∀ (X Y : List Int), dotL X Y = dotL Y X
  | [], [] => rfl
  | [], _ :: _ => rfl
  | _ :: _, [] => rfl
  | x :: t, y :: u => by
    simp only [dotL]
    rw [dot_comm t u, Int.mul_comm]
theorem alike_comm (a b : List Int) : alikeB a b = alikeB b a := by
  unfold alikeB
  simp only
  rw [Nat.min_comm b.length a.length, dot_comm (devL b (min a.length b.length)) (devL a (min a.length b.length)), Bool.and_comm (mayB b) (mayB a)]
  split
  · rw [Bool.and_assoc, Bool.and_assoc, Bool.and_comm (decide (dotL (devL b _) (devL b _) ≤ _))]
  · rfl
end Go.Proofs.Ytefpdneokkcmpaa.Given
