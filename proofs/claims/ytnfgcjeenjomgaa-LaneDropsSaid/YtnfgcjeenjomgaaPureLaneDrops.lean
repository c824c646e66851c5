/- Packets that are taken one by one leave the others as they stood: the plain law. -/
import Derived.Test.YtnfgcjeenjomgaaPlainA
import Derived.Test.YtnfgcjeenjomgaaSx7
namespace Go.Proofs.Ytnfgcjeenjomgaa.Pure
open Go.RowKit Go.Proofs.Ytnfgcjeenjomgaa.S Go.Proofs.Ytnfgcjeenjomgaa.Given Go.Proofs.YtnfgcjeenjomgaaW.PrintWords
set_option linter.unusedVariables false
theorem may_sub {l m : List S29} (h : mayB l = true) (hl : m.length ≤ l.length) (hs : ∀ x ∈ m, x ∈ l) : mayB m = true := by
  unfold mayB at h ⊢
  simp only [Bool.and_eq_true, decide_eq_true_eq, Bool.not_eq_true', List.any_eq_false] at h ⊢
  exact ⟨by omega, fun x hx => h.2 x (hs x hx)⟩
theorem take_in {l : List S29} {i : Int} (h : mayB l = true ∧ 0 ≤ i ∧ i < (l.length : Int)) : takeB l i = (l.eraseIdx i.toNat, (rd_T29 l i).f0, (rd_T29 l i).f1, true) := if_pos h
theorem take_out {l : List S29} {i : Int} (h : ¬ (mayB l = true ∧ 0 ≤ i ∧ i < (l.length : Int))) : takeB l i = (l, [], false, false) := if_neg h
theorem drops_l1 (l d : List S29) (hf : l.length ≤ 80 ∧ ∀ x ∈ l, x.f0.length ≤ 20000) (hm : mayB l = true) (hd : d.length + 1 = l.length) (hsub : ∀ x ∈ d, x ∈ l) : ∀ (m j k : Nat), d.length - j = m → j ≤ d.length → m + 20200 < k → fourinhandlaw22_LaneDrops.l1 k l d l (d.drop j) j = some true := by
  intro m
  induction m with
  | zero =>
    intro j k h1 h2 hk
    obtain ⟨k, rfl⟩ : ∃ q, k = q + 1 := ⟨k - 1, by omega⟩
    have hl := hf.1
    rw [fourinhandlaw22_LaneDrops.l1, w64 ((l.length : Int) - 1) (by omega) (by omega), if_neg (by omega), same_few hf k (by omega), Option.bind_some, if_pos rfl, if_pos (by rw [List.length_drop]; omega)]
    congr 1
    simp
    omega
  | succ m ih =>
    intro j k h1 h2 hk
    obtain ⟨k, rfl⟩ : ∃ q, k = q + 1 := ⟨k - 1, by omega⟩
    have hl := hf.1
    have hmem : ∀ x ∈ d.drop j, x ∈ l := fun x hx => hsub x (List.mem_of_mem_drop hx)
    have hlen : (d.drop j).length = d.length - j := List.length_drop
    have hsm : small (d.drop j) := ⟨by omega, fun x hx => by have := hf.2 x (hmem x hx); omega⟩
    have ht := take_in (l := d.drop j) (i := 0) ⟨may_sub hm (by omega) hmem, by omega, by omega⟩
    rw [fourinhandlaw22_LaneDrops.l1, w64 ((l.length : Int) - 1) (by omega) (by omega), if_pos (by omega), take_of hsm, ht, Option.bind_some, if_pos rfl, w64 _ (by omega) (by omega)]
    have e : (d.drop j).eraseIdx (0 : Int).toNat = d.drop (j + 1) := by
      show (d.drop j).eraseIdx 0 = _
      rw [List.eraseIdx_zero, List.tail_drop]
    show fourinhandlaw22_LaneDrops.l1 k l d l ((d.drop j).eraseIdx (0 : Int).toNat) ((j : Int) + 1) = some true
    rw [e]
    exact ih (j + 1) k (by omega) (by omega) (by omega)
theorem drops_l0 (l d : List S29) (hf : l.length ≤ 80 ∧ ∀ x ∈ l, x.f0.length ≤ 20000) (hm : mayB l = true) (hd : d.length + 1 = l.length) (hsub : ∀ x ∈ d, x ∈ l) : ∀ (m j k : Nat), l.length - j = m → j ≤ l.length → m + 20500 < k → fourinhandlaw22_LaneDrops.l0 k l d l j = some true := by
  intro m
  induction m with
  | zero =>
    intro j k h1 h2 hk
    obtain ⟨k, rfl⟩ : ∃ q, k = q + 1 := ⟨k - 1, by omega⟩
    have hl := hf.1
    rw [fourinhandlaw22_LaneDrops.l0, if_neg (by omega)]
    have := drops_l1 l d hf hm hd hsub d.length 0 k (by omega) (by omega) (by omega)
    exact this
  | succ m ih =>
    intro j k h1 h2 hk
    obtain ⟨k, rfl⟩ : ∃ q, k = q + 1 := ⟨k - 1, by omega⟩
    have hl := hf.1
    have ht := take_in (l := l) (i := (l.length : Int) - 1 - j) ⟨hm, by omega, by omega⟩
    rw [fourinhandlaw22_LaneDrops.l0, if_pos (by omega), w64 ((l.length : Int) - 1) (by omega) (by omega), w64 ((l.length : Int) - 1 - j) (by omega) (by omega), take_of (few_small hf), ht, Option.bind_some, if_pos rfl, if_pos, w64 _ (by omega) (by omega)]
    · exact ih (j + 1) k (by omega) (by omega) (by omega)
    · show ((l.eraseIdx ((l.length : Int) - 1 - j).toNat).length : Int) = _
      rw [List.length_eraseIdx_of_lt (by omega)]
      omega
theorem LaneDrops (l : List S29) (i : Int) (hw : okW l) : fourinhandlaw22_LaneDrops.f (l.length + 30000) l i = some true := by
  obtain ⟨t, ht, hs⟩ := few_eq l hw (l.length + 30000) (by omega)
  unfold fourinhandlaw22_LaneDrops.f
  rw [awake_of, Option.bind_some, ht, Option.bind_some, if_pos rfl]
  obtain ⟨k, hk⟩ : ∃ j, l.length + 30000 = j + 2 := ⟨l.length + 29998, by omega⟩
  rw [hk]
  cases t with
  | false => rw [if_neg (by simp), fourinhandlaw22_LaneDrops.j0, if_pos rfl]
  | true =>
    have hf := hs rfl
    have hsm := few_small hf
    have hl := hf.1
    rw [if_pos rfl, may_of, Option.bind_some, fourinhandlaw22_LaneDrops.j0]
    by_cases h1 : mayB l = true
    · rw [h1, if_neg (by simp), take_of hsm, Option.bind_some]
      by_cases h2 : 0 ≤ i
      · rw [if_pos h2, fourinhandlaw22_LaneDrops.j1]
        by_cases h3 : i < (l.length : Int)
        · obtain ⟨n, rfl⟩ : ∃ n : Nat, i = n := ⟨i.toNat, by omega⟩
          have hn : n < l.length := by omega
          rw [take_in ⟨h1, h2, h3⟩, decide_eq_true h3, if_neg (by simp), if_pos rfl, if_pos (by omega), if_pos (by omega), w64 (n + 1) (by omega) (by omega)]
          have e1 := own22 (l.take n) (by rw [List.length_take]; omega) (fun x hx => by have := hf.2 x (List.mem_of_mem_take hx); omega) k (by rw [List.length_take]; omega)
          have e2 := own22 (l.drop (n + 1)) (by rw [List.length_drop]; omega) (fun x hx => by have := hf.2 x (List.mem_of_mem_drop hx); omega) k (by rw [List.length_drop]; omega)
          have hr : (⟨(rd_T29 l (n : Int)).f0, (rd_T29 l (n : Int)).f1⟩ : S29) = l[n] := by rw [rdT l n hn]
          have t1 : ((n : Int)).toNat = n := rfl
          have t2 : ((n : Int) + 1).toNat = n + 1 := by omega
          rw [t1, t2, e1, Option.bind_some, Option.bind_some, if_pos (by simp only [List.length_take, List.length_cons, List.length_nil]; omega), Option.bind_some, if_pos (by omega), if_pos (by omega), e2, Option.bind_some, if_pos (by simp only [List.length_append, List.length_take, List.length_cons, List.length_nil, List.length_drop]; omega)]
          show fourinhandlaw22_LaneDrops.l0 k l (l.eraseIdx n) (l.take n ++ [(⟨(rd_T29 l (n : Int)).f0, (rd_T29 l (n : Int)).f1⟩ : S29)] ++ l.drop (n + 1)) 0 = some true
          rw [hr]
          have e3 : l.take n ++ [l[n]] ++ l.drop (n + 1) = l := by
            rw [← List.take_succ_eq_append_getElem hn, List.take_append_drop]
          rw [e3]
          have := drops_l0 l (l.eraseIdx n) hf h1 (by rw [List.length_eraseIdx_of_lt hn]; omega) (fun x hx => List.mem_of_mem_eraseIdx hx) l.length 0 k (by omega) (by omega) (by omega)
          exact this
        · rw [take_out (fun q => h3 q.2.2), decide_eq_false h3, if_neg (by simp), if_neg (by simp), same_few hf k (by omega), Option.bind_some, if_pos rfl]
          rfl
      · rw [if_neg h2, fourinhandlaw22_LaneDrops.j1, take_out (fun q => h2 q.2.1), if_neg (by simp), if_neg (by simp), same_few hf k (by omega), Option.bind_some, if_pos rfl]
        rfl
    · rw [Bool.eq_false_iff.2 h1, if_pos (by simp)]
end Go.Proofs.Ytnfgcjeenjomgaa.Pure
