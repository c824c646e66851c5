/- What the document's functions of chapter 22 compute: the same as the lane's. -/
import Derived.Test.YtnfgcjeenjomgaaPlainA
import Derived.Test.YtnfgcjeenjomgaaSx8
import Derived.Test.YtnfgcjeenjomgaaSx9
import Derived.Test.YtnfgcjeenjomgaaSx10
import Derived.Test.YtnfgcjeenjomgaaSx11
namespace Go.Proofs.Ytnfgcjeenjomgaa.Pure
open Go.RowKit Go.Proofs.Ytnfgcjeenjomgaa.S Go.Proofs.Ytnfgcjeenjomgaa.Given Go.Proofs.YtnfgcjeenjomgaaW.PrintWords
set_option linter.unusedVariables false
def Fw (l : List S29) : Prop := l.length ≤ 80 ∧ ∀ x ∈ l, x.f0.length ≤ 20000
theorem fw_own {l : List S29} (h : Fw l) (k : Nat) (hk : 100 < k) : fourinhandref22_Own.f k l = some l := own22 l (by have := h.1; omega) (fun x hx => by have := h.2 x hx; omega) k (by have := h.1; omega)
theorem rmay_loop (l : List S29) (hl : l.length ≤ 80) : ∀ (m i k : Nat), l.length - i = m → i ≤ l.length → m < k → fourinhandref22_May.l0 k l i = some (decide (l.length ≤ 64) && !(l.drop i).any longB) := by
  intro m
  induction m with
  | zero =>
    intro i k h1 h2 hk
    obtain ⟨k, rfl⟩ : ∃ q, k = q + 1 := ⟨k - 1, by omega⟩
    rw [fourinhandref22_May.l0, if_neg (by omega), List.drop_of_length_le (by omega)]
    congr 1
    simp
    omega
  | succ m ih =>
    intro i k h1 h2 hk
    obtain ⟨k, rfl⟩ : ∃ q, k = q + 1 := ⟨k - 1, by omega⟩
    have hi : i < l.length := by omega
    rw [fourinhandref22_May.l0, if_pos (by omega), if_pos (by omega), rdT l i hi, List.drop_eq_getElem_cons hi, List.any_cons]
    by_cases c : (l[i].f0.length : Int) > 2000
    · have : longB l[i] = true := decide_eq_true (by omega)
      rw [if_pos c, this]
      simp
    · have : longB l[i] = false := decide_eq_false (by omega)
      rw [if_neg c, this, w64 _ (by omega) (by omega), Bool.false_or]
      exact ih (i + 1) k (by omega) (by omega) (by omega)
theorem rmay {l : List S29} (h : Fw l) (k : Nat) (hk : 100 < k) : fourinhandref22_May.f k l = some (mayB l) := rmay_loop l h.1 l.length 0 k (by omega) (by omega) (by have := h.1; omega)
theorem rhas {l : List S29} (h : Fw l) (i : Int) (k : Nat) (hk : 100 < k) : fourinhandref22_has.f k l i = some (mayB l && (decide (0 ≤ i) && decide (i < (l.length : Int)))) := by
  unfold fourinhandref22_has.f
  rw [rmay h k hk, Option.bind_some]
  by_cases h1 : mayB l = true
  · rw [if_pos h1, h1]
    by_cases h2 : i ≥ 0
    · rw [if_pos h2, decide_eq_true (show 0 ≤ i from h2)]
      rfl
    · rw [if_neg h2, decide_eq_false (show ¬ 0 ≤ i from h2)]
      rfl
  · rw [if_neg h1, Bool.eq_false_iff.2 h1]
    rfl
theorem has_yes {l : List S29} (h : Fw l) {i : Int} (c : mayB l = true ∧ 0 ≤ i ∧ i < (l.length : Int)) (k : Nat) (hk : 100 < k) : fourinhandref22_has.f k l i = some true := by
  rw [rhas h i k hk, c.1, decide_eq_true c.2.1, decide_eq_true c.2.2]
  rfl
theorem has_no {l : List S29} (h : Fw l) {i : Int} (c : ¬ (mayB l = true ∧ 0 ≤ i ∧ i < (l.length : Int))) (k : Nat) (hk : 100 < k) : fourinhandref22_has.f k l i = some false := by
  rw [rhas h i k hk]
  congr 1
  rw [Bool.eq_false_iff]
  intro q
  simp only [Bool.and_eq_true, decide_eq_true_eq] at q
  exact c ⟨q.1, q.2.1, q.2.2⟩
theorem rpush {l : List S29} (h : Fw l) (b : List Int) (hb : b.length ≤ 2100) (k : Nat) (hk : 200 < k) : fourinhandref22_Push.f k l b = some (pushB l b false) := by
  have h80 := h.1
  obtain ⟨k, rfl⟩ : ∃ q, k = q + 1 := ⟨k - 1, by omega⟩
  have hj : fourinhandref22_Push.j0 (k + 1) l b true = some (l, false) := by
    rw [fourinhandref22_Push.j0, if_pos rfl, fw_own h k (by omega), Option.bind_some]
  unfold fourinhandref22_Push.f
  rw [rmay h _ (by omega), Option.bind_some]
  by_cases h1 : mayB l = true
  · rw [if_pos h1]
    by_cases h2 : (l.length : Int) ≥ 64
    · rw [if_pos h2, hj]
      unfold pushB
      rw [if_neg (fun q => by omega)]
    · rw [if_neg h2]
      by_cases h3 : (b.length : Int) > 2000
      · rw [decide_eq_true h3, hj]
        unfold pushB
        rw [if_neg (fun q => by omega)]
      · rw [decide_eq_false h3, fourinhandref22_Push.j0, if_neg (by simp), fw_own h k (by omega), Option.bind_some, if_pos (by rw [List.length_nil]; omega), if_pos (by omega), List.nil_append]
        unfold pushB
        rw [if_pos ⟨h1, by omega, by omega⟩]
  · rw [if_neg h1, hj]
    unfold pushB
    rw [if_neg (fun q => h1 q.1)]
theorem rtake_loop (l : List S29) (hl : l.length ≤ 80) (n : Nat) (hn : n < l.length) : ∀ (m j k : Nat), l.length - j = m → j ≤ l.length → m < k →
    fourinhandref22_Take.l0 k n l ((l.take j).eraseIdx n) j = some (l.eraseIdx n, (rd_T29 l (n : Int)).f0, (rd_T29 l (n : Int)).f1, true) := by
  intro m
  induction m with
  | zero =>
    intro j k h1 h2 hk
    obtain ⟨k, rfl⟩ : ∃ q, k = q + 1 := ⟨k - 1, by omega⟩
    rw [fourinhandref22_Take.l0, if_neg (by omega), if_pos (by omega), if_pos (by omega), List.take_of_length_le (by omega)]
  | succ m ih =>
    intro j k h1 h2 hk
    obtain ⟨k, rfl⟩ : ∃ q, k = q + 1 := ⟨k - 1, by omega⟩
    have hj : j < l.length := by omega
    have hi := ih (j + 1) k (by omega) (by omega) (by omega)
    have hlen : ((l.take j).eraseIdx n).length ≤ 80 := Nat.le_trans (List.length_eraseIdx_le ..) (by rw [List.length_take]; omega)
    rw [List.take_succ_eq_append_getElem hj] at hi
    rw [fourinhandref22_Take.l0, if_pos (by omega), w64 _ (by omega) (by omega)]
    by_cases c : (j : Int) = (n : Int)
    · have e : j = n := by omega
      rw [if_pos c]
      have e2 : (l.take j ++ [l[j]]).eraseIdx n = (l.take j).eraseIdx n := by
        rw [List.eraseIdx_append_of_length_le (by rw [List.length_take]; omega), List.length_take, List.eraseIdx_of_length_le (l := l.take j) (by rw [List.length_take]; omega), show n - min j l.length = 0 by omega]
        simp
      rw [e2] at hi
      exact hi
    · rw [if_neg c, if_pos (by omega), if_pos (by omega), rdT l j hj]
      have e2 : (l.take j ++ [l[j]]).eraseIdx n = (l.take j).eraseIdx n ++ [l[j]] := by
        by_cases d : n < j
        · rw [List.eraseIdx_append_of_lt_length (by rw [List.length_take]; omega)]
        · rw [List.eraseIdx_of_length_le (l := l.take j) (by rw [List.length_take]; omega), List.eraseIdx_of_length_le (by simp only [List.length_append, List.length_take, List.length_cons, List.length_nil]; omega)]
      rw [e2] at hi
      exact hi
theorem rtake {l : List S29} (h : Fw l) (i : Int) (k : Nat) (hk : 200 < k) : fourinhandref22_Take.f k l i = some (takeB l i) := by
  unfold fourinhandref22_Take.f takeB
  rw [fw_own h k (by omega), Option.bind_some]
  by_cases c : mayB l = true ∧ 0 ≤ i ∧ i < (l.length : Int)
  · obtain ⟨n, rfl⟩ : ∃ n : Nat, i = n := ⟨i.toNat, by omega⟩
    have := rtake_loop l h.1 n (by omega) l.length 0 k (by omega) (by omega) (by have := h.1; omega)
    rw [has_yes h c k (by omega), Option.bind_some, if_pos rfl, if_pos c]
    exact this
  · rw [has_no h c k (by omega), Option.bind_some, if_neg (by simp), if_neg c]
theorem rtwice {l : List S29} (h : Fw l) (i : Int) (k : Nat) (hk : 200 < k) : fourinhandref22_Twice.f k l i = some (twiceB l i) := by
  unfold fourinhandref22_Twice.f twiceB
  have h80 := h.1
  rw [fw_own h k (by omega), Option.bind_some]
  by_cases c : mayB l = true ∧ 0 ≤ i ∧ i < (l.length : Int)
  · rw [has_yes h c k (by omega), Option.bind_some, if_pos rfl]
    by_cases d : (l.length : Int) ≥ 64
    · rw [if_pos d, if_neg (fun q => by omega)]
    · obtain ⟨n, rfl⟩ : ∃ n : Nat, i = n := ⟨i.toNat, by omega⟩
      have hn : n < l.length := by omega
      have e : (l.take (n + 1)).drop n = [l[n]] := by
        rw [List.take_succ_eq_append_getElem hn, List.drop_append_of_le_length (by rw [List.length_take]; omega), List.drop_of_length_le (by rw [List.length_take]; omega)]
        rfl
      have hone : fourinhandref22_Own.f k [l[n]] = some [l[n]] := own22 _ (by simp) (fun x hx => by rw [List.mem_singleton.1 hx]; have := h.2 _ (List.getElem_mem hn); omega) k (by simp only [List.length_cons, List.length_nil]; omega)
      have t1 : ((n : Int)).toNat = n := rfl
      have t2 : ((n : Int) + 1).toNat = n + 1 := by omega
      rw [if_neg d, if_pos (show (mayB l = true ∧ 0 ≤ (n : Int) ∧ (n : Int) < (l.length : Int)) ∧ l.length < 64 from ⟨c, by omega⟩), if_pos (by omega), w64 _ (by omega) (by omega), if_pos (by omega), if_pos (by omega), t1, t2, e, hone, Option.bind_some, if_pos (by simp only [List.length_cons, List.length_nil]; omega), rdT l n hn]
  · rw [has_no h c k (by omega), Option.bind_some, if_neg (by simp), if_neg (fun q => c q.1)]
theorem rmark {l : List S29} (h : Fw l) (i : Int) (k : Nat) (hk : 200 < k) : fourinhandref22_Mark.f k l i = some (markB l i) := by
  unfold fourinhandref22_Mark.f markB
  rw [fw_own h k (by omega), Option.bind_some]
  by_cases c : mayB l = true ∧ 0 ≤ i ∧ i < (l.length : Int)
  · rw [has_yes h c k (by omega), Option.bind_some, if_pos rfl, if_pos c.2.1, if_pos c.2.2, if_pos c]
  · rw [has_no h c k (by omega), Option.bind_some, if_neg (by simp), if_neg c]
theorem rspoil {l : List S29} (h : Fw l) (i a y : Int) (k : Nat) (hk : 200 < k) : fourinhandref22_Spoil.f k l i a y = some (spoilB l i a y) := by
  unfold fourinhandref22_Spoil.f spoilB
  rw [fw_own h k (by omega), Option.bind_some]
  by_cases c : mayB l = true ∧ 0 ≤ i ∧ i < (l.length : Int)
  · rw [has_yes h c k (by omega), Option.bind_some, if_pos rfl]
    by_cases d : a < 0
    · rw [if_pos d, if_neg (fun q => by omega)]
    · rw [if_neg d, if_pos c.2.1, if_pos c.2.2]
      by_cases e : a ≥ ((rd_T29 l i).f0.length : Int)
      · rw [if_pos e, if_neg (fun q => by omega)]
      · rw [if_neg e, if_pos c.2.2, if_pos (by omega), if_pos (by omega), if_pos ⟨c, by omega, by omega⟩]
  · rw [has_no h c k (by omega), Option.bind_some, if_neg (by simp), if_neg (fun q => c q.1)]
end Go.Proofs.Ytnfgcjeenjomgaa.Pure
