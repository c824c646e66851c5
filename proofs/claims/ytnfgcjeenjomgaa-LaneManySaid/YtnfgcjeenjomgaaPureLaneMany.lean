/- As many as are pushed are there, in order, up to sixty-four: the plain law. -/
import Derived.Test.YtnfgcjeenjomgaaPlainA
import Derived.Test.YtnfgcjeenjomgaaSx8
namespace Go.Proofs.Ytnfgcjeenjomgaa.Pure
open Go.RowKit Go.Proofs.Ytnfgcjeenjomgaa.S Go.Proofs.Ytnfgcjeenjomgaa.Given Go.Proofs.YtnfgcjeenjomgaaW.PrintWords Go.Proofs.YtnfgcjeenjomgaaW.PrintLast
set_option linter.unusedVariables false
def put (b : List Int) : S29 := ⟨b, false⟩
theorem rdL (l : List (List Int)) (i : Nat) (h : i < l.length) : rd_L1 l (i : Int) = l[i] := by unfold rd_L1; simp [List.getD_eq_getElem?_getD, h]
theorem small_put (l : List (List Int)) (h : ∀ x ∈ l, x.length ≤ 20) (hl : l.length ≤ 64) : small (l.map put) ∧ mayB (l.map put) = true := by
  refine ⟨⟨by rw [List.length_map]; omega, fun x hx => ?_⟩, ?_⟩
  · obtain ⟨y, hy, rfl⟩ := List.mem_map.1 hx
    have := h y hy
    show y.length ≤ _
    omega
  · unfold mayB
    rw [List.length_map, decide_eq_true hl, Bool.true_and, Bool.not_eq_true', List.any_eq_false]
    intro x hx
    obtain ⟨y, hy, rfl⟩ := List.mem_map.1 hx
    have := h y hy
    show ¬ decide (2000 < y.length) = true
    simp
    omega
theorem many_end (l : List (List Int)) (hl : l.length ≤ 100) (n : Nat) (hn : n = min l.length 64) (h : ∀ x ∈ l.take n, x.length ≤ 20) : ∀ (m i k : Nat), n - i = m → i ≤ n → m + 30 < k → fourinhandlaw22_LaneMany.l1 k l ((l.take n).map put) i = some true := by
  have hlen : ((l.take n).map put).length = n := by rw [List.length_map, List.length_take]; omega
  intro m
  induction m with
  | zero =>
    intro i k h1 h2 hk
    obtain ⟨k, rfl⟩ : ∃ j, k = j + 1 := ⟨k - 1, by omega⟩
    have hm := (small_put (l.take n) h (by rw [List.length_take]; omega)).2
    rw [fourinhandlaw22_LaneMany.l1, if_neg (by omega), may_of, Option.bind_some, if_pos hm, hlen]
    by_cases c : (n : Int) = (l.length : Int)
    · rw [if_pos c]
    · rw [if_neg c, if_pos (by omega), decide_eq_true (by omega)]
  | succ m ih =>
    intro i k h1 h2 hk
    obtain ⟨k, rfl⟩ : ∃ j, k = j + 1 := ⟨k - 1, by omega⟩
    have hi : i < n := by omega
    have hil : i < l.length := by omega
    have e : rd_T29 ((l.take n).map put) (i : Int) = put l[i] := by rw [rdT _ i (by omega), List.getElem_map, List.getElem_take]
    have h20 := h l[i] (List.mem_iff_getElem.2 ⟨i, by rw [List.length_take]; omega, by rw [List.getElem_take]⟩)
    rw [fourinhandlaw22_LaneMany.l1, if_pos (by omega), if_pos (by omega), if_pos (by omega), e, rdL l i hil]
    show ((fourinhandref03_Same.f k l[i] l[i]).bind _) = _
    rw [same03 _ (by omega) k (by omega), Option.bind_some, if_pos rfl, if_neg (by unfold put; simp), w64 _ (by omega) (by omega)]
    exact ih (i + 1) k (by omega) (by omega) (by omega)
theorem many_loop (l : List (List Int)) (hl : l.length ≤ 100) : ∀ (m i k : Nat), l.length - i = m → i ≤ l.length → m + 200 < k → (∀ x ∈ l.take i, x.length ≤ 20) → fourinhandlaw22_LaneMany.l0 k l ((l.take (min i 64)).map put) i = some true := by
  intro m
  induction m with
  | zero =>
    intro i k h1 h2 hk h
    obtain ⟨k, rfl⟩ : ∃ j, k = j + 1 := ⟨k - 1, by omega⟩
    obtain rfl : i = l.length := by omega
    rw [fourinhandlaw22_LaneMany.l0, if_neg (by omega)]
    exact many_end l hl (min l.length 64) rfl (fun x hx => h x ((List.take_subset_take_left l (Nat.min_le_left _ _)) hx)) _ 0 k rfl (by omega) (by omega)
  | succ m ih =>
    intro i k h1 h2 hk h
    obtain ⟨k, rfl⟩ : ∃ j, k = j + 1 := ⟨k - 1, by omega⟩
    have hi : i < l.length := by omega
    rw [fourinhandlaw22_LaneMany.l0, if_pos (by omega), if_pos (by omega), rdL l i hi]
    by_cases c : (l[i].length : Int) > 20
    · rw [if_pos c]
    · have hq : ∀ x ∈ l.take (min i 64), x.length ≤ 20 := fun x hx => h x ((List.take_subset_take_left l (Nat.min_le_left _ _)) hx)
      have hsm := small_put (l.take (min i 64)) hq (by rw [List.length_take]; omega)
      have hlen : ((l.take (min i 64)).map put).length = min i 64 := by rw [List.length_map, List.length_take]; omega
      have hpush : pushB ((l.take (min i 64)).map put) l[i] false = ((l.take (min (i + 1) 64)).map put, decide ((i : Int) < 64)) := by
        unfold pushB
        by_cases c64 : (i : Int) < 64
        · rw [if_pos ⟨hsm.2, by omega, by omega⟩, decide_eq_true c64, Nat.min_eq_left (by omega), Nat.min_eq_left (by omega), List.take_succ_eq_append_getElem hi, List.map_append]
          rfl
        · rw [if_neg (fun q => by omega), decide_eq_false c64, Nat.min_eq_right (by omega), Nat.min_eq_right (by omega)]
      rw [if_neg c, push_of hsm.1, hpush, Option.bind_some, if_neg (by simp), w64 _ (by omega) (by omega)]
      refine ih (i + 1) k (by omega) (by omega) (by omega) (fun x hx => ?_)
      rw [List.take_succ_eq_append_getElem hi, List.mem_append, List.mem_singleton] at hx
      rcases hx with hx | rfl
      · exact h x hx
      · omega
theorem LaneMany (l : List (List Int)) : fourinhandlaw22_LaneMany.f 400 l = some true := by
  unfold fourinhandlaw22_LaneMany.f
  rw [awake_of, Option.bind_some, if_pos rfl, fourinhandlaw22_LaneMany.j0]
  by_cases c : (l.length : Int) > 100
  · rw [decide_eq_true c, if_pos rfl]
  · rw [decide_eq_false c, if_neg (by simp)]
    have := many_loop l (by omega) l.length 0 399 (by omega) (by omega) (by omega) (by simp)
    exact this
end Go.Proofs.Ytnfgcjeenjomgaa.Pure
