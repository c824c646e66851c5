/- What group.deviations computes, plainly. -/
import Derived.Test.YtefpdneokkcmpaaGAlikeF
import Derived.Test.YtefpdneokkcmpaaSx3
namespace Go.Proofs.Ytefpdneokkcmpaa.Given
open Go.RowKit Go.Proofs.YtefpdneokkcmpaaW.PrintWords Go.Proofs.YtefpdneokkcmpaaW.PrintLast Go.Proofs.YtefpdneokkcmpaaW.PrintMore Go.Proofs.Ytefpdneokkcmpaa.S
set_option linter.unusedVariables false
theorem w64 (x : Int) (h1 : -9223372036854775808 ≤ x) (h2 : x ≤ 9223372036854775807) : wrap64 x = x := by
  unfold wrap64
  omega
theorem rd_at (l : List Int) (i : Nat) (h : i < l.length) : rd l (i : Int) = l[i] := by unfold rd; simp [List.getD_eq_getElem?_getD, h]
def okE (l : List Int) : Prop := ∀ x ∈ l, 0 ≤ x ∧ x ≤ 262144
theorem sum_bound : ∀ (l : List Int), okE l → 0 ≤ l.sum ∧ l.sum ≤ 262144 * (l.length : Int)
  | [], _ => by simp
  | x :: t, h => by
    have h1 := h x List.mem_cons_self
    have h2 := sum_bound t (fun y hy => h y (List.mem_cons_of_mem _ hy))
    rw [List.sum_cons, List.length_cons]
    omega
theorem dev_l1 (t : List Int) (ht : okE t) (hl : t.length ≤ 16) (n : Nat) (hn : n ≤ 16) (S : Int) (hS1 : 0 ≤ S) (hS2 : S ≤ 4194304) : ∀ (m i k : Nat), t.length - i = m → i ≤ t.length → m < k →
    group_deviations.l1 k ((t.take i).map (fun x => (n : Int) * x - S) ++ t.drop i) n S (t.length : Int) i = some (t.map (fun x => (n : Int) * x - S)) := by
  intro m
  induction m with
  | zero =>
    intro i k h1 h2 hk
    obtain ⟨k, rfl⟩ : ∃ j, k = j + 1 := ⟨k - 1, by omega⟩
    obtain rfl : i = t.length := by omega
    rw [group_deviations.l1, if_neg (by omega), List.drop_length, List.append_nil, List.take_length]
  | succ m ih =>
    intro i k h1 h2 hk
    obtain ⟨k, rfl⟩ : ∃ j, k = j + 1 := ⟨k - 1, by omega⟩
    have hi : i < t.length := by omega
    have hlen : ((t.take i).map (fun x => (n : Int) * x - S)).length = i := by simp; omega
    have hx := ht t[i] (List.getElem_mem _)
    have hnx : 0 ≤ (n : Int) * t[i] ∧ (n : Int) * t[i] ≤ 16 * 262144 := ⟨Int.mul_nonneg (by omega) hx.1, Int.mul_le_mul (by omega) hx.2 hx.1 (by omega)⟩
    have hrd : rd ((t.take i).map (fun x => (n : Int) * x - S) ++ t.drop i) (i : Int) = t[i] := by
      unfold rd
      rw [Int.toNat_natCast, List.getD_eq_getElem?_getD, List.getElem?_append_right (by omega), hlen, Nat.sub_self, List.getElem?_drop, Nat.add_zero, List.getElem?_eq_getElem hi]
      rfl
    rw [group_deviations.l1, if_pos (by omega), if_pos (by omega), if_pos (by rw [List.length_append, hlen, List.length_drop]; omega), hrd, w64 ((n : Int) * t[i]) (by omega) (by omega), w64 ((n : Int) * t[i] - S) (by omega) (by omega), w64 ((i : Int) + 1) (by omega) (by omega), Int.toNat_natCast]
    have := ih (i + 1) k (by omega) (by omega) (by omega)
    rw [show ((i + 1 : Nat) : Int) = (i : Int) + 1 by omega] at this
    rw [← this]
    congr 1
    rw [List.set_append_right _ _ (by omega), hlen, Nat.sub_self, List.drop_eq_getElem_cons hi, List.set_cons_zero, List.take_succ_eq_append_getElem hi, List.map_append, List.append_assoc]
    rfl
theorem dev_l0 (t : List Int) (ht : okE t) (hl : t.length ≤ 16) (n : Int) (R : Nat) (z : List Int) : ∀ (m i k : Nat) (s : Int), t.length - i = m → i ≤ t.length → R + m + 1 ≤ k → 0 ≤ s → s ≤ 262144 * (i : Int) →
    (∀ k', R ≤ k' → group_deviations.l1 k' t n (s + (t.drop i).sum) (t.length : Int) 0 = some z) → group_deviations.l0 k t n s t (t.length : Int) i = some z := by
  intro m
  induction m with
  | zero =>
    intro i k s h1 h2 hk _ _ hend
    obtain ⟨k, rfl⟩ : ∃ j, k = j + 1 := ⟨k - 1, by omega⟩
    obtain rfl : i = t.length := by omega
    rw [List.drop_length, List.sum_nil, Int.add_zero] at hend
    rw [group_deviations.l0, if_neg (by omega)]
    exact hend k (by omega)
  | succ m ih =>
    intro i k s h1 h2 hk hs1 hs2 hend
    obtain ⟨k, rfl⟩ : ∃ j, k = j + 1 := ⟨k - 1, by omega⟩
    have hi : i < t.length := by omega
    have hx := ht t[i] (List.getElem_mem _)
    rw [group_deviations.l0, if_pos (by omega), if_pos (by omega), if_pos (by omega), rd_at t i hi, w64 (s + t[i]) (by omega) (by omega), w64 ((i : Int) + 1) (by omega) (by omega), show (i : Int) + 1 = ((i + 1 : Nat) : Int) by omega]
    refine ih (i + 1) k _ (by omega) (by omega) (by omega) (by omega) (by omega) ?_
    rw [List.drop_eq_getElem_cons hi, List.sum_cons, ← Int.add_assoc] at hend
    exact hend
theorem dev_eq (k : Nat) (hk : 100 ≤ k) (l : List Int) (hl : l.length ≤ 16) (he : okE l) (n : Nat) (hn : n ≤ l.length) : group_deviations.f k l (n : Int) = some (devL l n) := by
  unfold group_deviations.f
  rw [w64 ((l.length : Int) - n) (by omega) (by omega), if_pos (by omega), if_pos (by omega), show ((l.length : Int) - n).toNat = l.length - n by omega]
  unfold slices_Clone_int_int.f
  have hd : (l.drop (l.length - n)).length = n := by rw [List.length_drop]; omega
  rw [if_pos (by omega), Option.bind_some]
  unfold devL
  have hed : okE (l.drop (l.length - n)) := fun x hx => he x (List.mem_of_mem_drop hx)
  have hsb := sum_bound _ hed
  generalize l.drop (l.length - n) = t at *
  refine dev_l0 t hed (by omega) n 50 _ t.length 0 k 0 (by omega) (by omega) (by omega) (by omega) (by omega) ?_
  intro k' hk'
  rw [List.drop_zero, Int.zero_add]
  have := dev_l1 t hed (by omega) n (by omega) t.sum hsb.1 (by omega) t.length 0 k' (by omega) (by omega) (by omega)
  rw [List.take_zero, List.map_nil, List.nil_append, List.drop_zero] at this
  exact this
end Go.Proofs.Ytefpdneokkcmpaa.Given
