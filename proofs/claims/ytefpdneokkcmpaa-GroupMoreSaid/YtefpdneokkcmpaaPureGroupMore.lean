/- As much more delay of all of a list changes nothing, and so on: the plain law. -/
import Derived.Test.YtefpdneokkcmpaaPlainA
import Derived.Test.YtefpdneokkcmpaaSx10
namespace Go.Proofs.Ytefpdneokkcmpaa.Given
open Go.RowKit Go.Proofs.YtefpdneokkcmpaaW.PrintWords Go.Proofs.YtefpdneokkcmpaaW.PrintLast Go.Proofs.YtefpdneokkcmpaaW.PrintMore Go.Proofs.Ytefpdneokkcmpaa.S Go.Proofs.Ytefpdneokkcmpaa.Fl
set_option linter.unusedVariables false
def ok1 (l : List Int) : Prop := ∀ x ∈ l, 0 ≤ x ∧ x ≤ 1000
theorem may_small {l : List Int} (h : ∀ x ∈ l, 0 ≤ x ∧ x ≤ 262144) : mayB l = decide (l.length ≤ 16) := by
  unfold mayB
  have : l.any outB = false := by
    rw [List.any_eq_false]
    intro x hx
    have := h x hx
    unfold outB
    simp
    omega
  rw [this]
  simp
theorem sum_plus (l : List Int) (c : Int) : (l.map (· + c)).sum = l.sum + (l.length : Int) * c := by
  induction l with
  | nil => simp
  | cons x t ih =>
    rw [List.map_cons, List.sum_cons, ih, List.sum_cons, List.length_cons, Int.natCast_succ, Int.add_mul]
    omega
theorem sum_two (l : List Int) : (l.map (2 * ·)).sum = 2 * l.sum := by
  induction l with
  | nil => simp
  | cons x t ih =>
    rw [List.map_cons, List.sum_cons, ih, List.sum_cons]
    omega
theorem dev_plus (l : List Int) (c : Int) (n : Nat) (hn : n ≤ l.length) : devL (l.map (· + c)) n = devL l n := by
  unfold devL
  rw [List.length_map, ← List.map_drop, List.map_map, sum_plus]
  apply List.map_congr_left
  intro x _
  have hd : (l.drop (l.length - n)).length = n := by rw [List.length_drop]; omega
  show (n : Int) * (x + c) - _ = _
  rw [hd, Int.mul_add]
  omega
theorem dev_two (l : List Int) (n : Nat) : devL (l.map (2 * ·)) n = (devL l n).map (2 * ·) := by
  unfold devL
  rw [List.length_map, ← List.map_drop, List.map_map, sum_two, List.map_map]
  apply List.map_congr_left
  intro x _
  show (n : Int) * (2 * x) - _ = 2 * (_ - _)
  rw [Int.mul_sub, Int.mul_left_comm]
theorem dot_two : ∀ X Y : List Int, dotL (X.map (2 * ·)) (Y.map (2 * ·)) = 4 * dotL X Y
  | [], _ => by simp [dotL]
  | _ :: _, [] => by simp [dotL]
  | x :: t, y :: u => by
    simp only [List.map_cons, dotL]
    rw [dot_two t u, show 2 * x * (2 * y) = 4 * (x * y) by rw [Int.mul_assoc, Int.mul_left_comm x 2 y, ← Int.mul_assoc]; omega]
    omega
theorem dot_zero : ∀ X Y : List Int, (∀ x ∈ X, x = 0) → dotL X Y = 0
  | [], _, _ => rfl
  | _ :: _, [], _ => rfl
  | x :: t, y :: u, h => by
    simp only [dotL]
    rw [h x List.mem_cons_self, dot_zero t u (fun z hz => h z (List.mem_cons_of_mem _ hz))]
    omega
theorem dot_nn (W : List Int) : 0 ≤ dotL W W := by
  induction W with
  | nil => simp [dotL]
  | cons z t ih => simp only [dotL]; have := sq_nn z; omega
theorem dot_pos (W : List Int) (x : Int) (hx : x ∈ W) (h0 : x ≠ 0) : 0 < dotL W W := by
  induction W with
  | nil => cases hx
  | cons z t ih =>
    simp only [dotL]
    have h1 := sq_nn z
    have h2 := dot_nn t
    rcases List.mem_cons.1 hx with rfl | h
    · have : x * x ≠ 0 := fun e => by rcases Int.mul_eq_zero.1 e with h | h <;> exact h0 h
      omega
    · have := ih h
      omega
theorem sum_same (l : List Int) (v : Int) (h : ∀ x ∈ l, x = v) : l.sum = (l.length : Int) * v := by
  induction l with
  | nil => simp
  | cons x t ih =>
    rw [List.sum_cons, ih (fun y hy => h y (List.mem_cons_of_mem _ hy)), h x List.mem_cons_self, List.length_cons, Int.natCast_succ, Int.add_mul]
    omega
theorem alike_plus (a b : List Int) (c : Int) (ha : ok1 a) (hc : 0 ≤ c ∧ c ≤ 1000) : alikeB (a.map (· + c)) b = alikeB a b := by
  have h1 : mayB (a.map (· + c)) = mayB a := by
    rw [may_small (l := a.map (· + c)), may_small (l := a), List.length_map]
    · intro x hx
      have := ha x hx
      omega
    · intro x hx
      obtain ⟨y, hy, rfl⟩ := List.mem_map.1 hx
      have := ha y hy
      omega
  unfold alikeB
  simp only
  rw [h1, List.length_map, dev_plus a c _ (by omega)]
theorem alike_two (a b : List Int) (ha : ok1 a) (hb : ok1 b) : alikeB (a.map (2 * ·)) (b.map (2 * ·)) = alikeB a b := by
  have h1 : ∀ l : List Int, ok1 l → mayB (l.map (2 * ·)) = mayB l := by
    intro l hl
    rw [may_small (l := l.map (2 * ·)), may_small (l := l), List.length_map]
    · intro x hx
      have := hl x hx
      omega
    · intro x hx
      obtain ⟨y, hy, rfl⟩ := List.mem_map.1 hx
      have := hl y hy
      omega
  unfold alikeB
  simp only
  rw [h1 a ha, h1 b hb, List.length_map, List.length_map, dev_two, dev_two, dot_two, dot_two, dot_two]
  generalize dotL (devL a (min a.length b.length)) (devL b (min a.length b.length)) = p
  generalize dotL (devL a (min a.length b.length)) (devL a (min a.length b.length)) = q
  generalize dotL (devL b (min a.length b.length)) (devL b (min a.length b.length)) = r
  have e1 : decide (0 < 2 * (4 * p)) = decide (0 < 2 * p) := by rw [decide_eq_decide]; omega
  have e2 : decide (4 * q ≤ 2 * (4 * p)) = decide (q ≤ 2 * p) := by rw [decide_eq_decide]; omega
  have e3 : decide (4 * r ≤ 2 * (4 * p)) = decide (r ≤ 2 * p) := by rw [decide_eq_decide]; omega
  rw [e1, e2, e3]
theorem dev_same (a : List Int) (v : Int) (h : ∀ x ∈ a, x = v) (n : Nat) (hn : n ≤ a.length) : ∀ x ∈ devL a n, x = 0 := by
  intro x hx
  unfold devL at hx
  obtain ⟨y, hy, rfl⟩ := List.mem_map.1 hx
  have hd : ∀ z ∈ a.drop (a.length - n), z = v := fun z hz => h z (List.mem_of_mem_drop hz)
  rw [sum_same _ v hd, hd y hy, List.length_drop, show a.length - (a.length - n) = n by omega]
  omega
theorem alike_same (a b : List Int) (v : Int) (h : ∀ x ∈ a, x = v) : alikeB a b = false := by
  unfold alikeB
  simp only
  split
  · rw [dot_zero (devL a _) (devL b _) (dev_same a v h _ (by omega))]
    rfl
  · rfl
theorem alike_self (a : List Int) (ha : ok1 a) (x y : Int) (hx : x ∈ a) (hy : y ∈ a) (hne : x ≠ y) (h4 : 4 ≤ a.length) (h16 : a.length ≤ 16) : alikeB a a = true := by
  unfold alikeB
  simp only
  rw [may_small (fun z hz => by have := ha z hz; omega), Nat.min_self, if_pos (by rw [decide_eq_true h16, decide_eq_true h4]; rfl)]
  have hp : 0 < dotL (devL a a.length) (devL a a.length) := by
    have hmem : ∀ z ∈ a, (a.length : Int) * z - a.sum ∈ devL a a.length := by
      intro z hz
      unfold devL
      rw [Nat.sub_self, List.drop_zero]
      exact List.mem_map.2 ⟨z, hz, rfl⟩
    by_cases c : (a.length : Int) * x - a.sum = 0
    · refine dot_pos _ _ (hmem y hy) ?_
      intro e
      have : (a.length : Int) * x = (a.length : Int) * y := by omega
      exact hne (Int.eq_of_mul_eq_mul_left (by omega) this)
    · exact dot_pos _ _ (hmem x hx) c
  rw [decide_eq_true (by omega), decide_eq_true (by omega)]
  rfl
theorem alike_long (a b : List Int) (h : a.length < 4 ∨ 16 < a.length) : alikeB a b = false := by
  unfold alikeB
  simp only
  rw [if_neg]
  intro e
  simp only [Bool.and_eq_true, decide_eq_true_eq] at e
  have := (may_ok e.1.1).2
  omega
/-- What stands behind both loops. -/
theorem more_end (a b : List Int) (c : Int) (ha : ok1 a) (hb : ok1 b) (hc : 0 ≤ c ∧ c ≤ 1000) (s : Bool) (hs : s = a.all (fun x => x == rd a 0)) :
    ((group_Alike.f a b).bind fun t163 => ((group_Alike.f (a.map (· + c)) b).bind fun t164 => (if (t164 != t163) = true then (some false) else ((group_Alike.f (a.map (2 * ·)) (b.map (2 * ·))).bind fun t165 => (if (t165 != t163) = true then (some false) else (if s = true then (if t163 = true then (some false) else ((group_Alike.f a a).bind fun t166 => (if (a.length : Int) ≥ 4 then (if (a.length : Int) ≤ 16 then (some (t166 == (!s))) else (some (t166 == false))) else (some (t166 == false))))) else ((group_Alike.f a a).bind fun t167 => (if (a.length : Int) ≥ 4 then (if (a.length : Int) ≤ 16 then (some (t167 == (!s))) else (some (t167 == false))) else (some (t167 == false))))))))))
    = some true := by
  simp only [alike_eq, Option.bind_some, alike_plus a b c ha hc, alike_two a b ha hb, bne_self_eq_false, Bool.false_eq_true, if_false]
  by_cases cs : s = true
  · rw [if_pos cs]
    have hall : ∀ x ∈ a, x = rd a 0 := by
      rw [cs] at hs
      have := List.all_eq_true.1 hs.symm
      intro x hx
      simpa using this x hx
    rw [alike_same a b _ hall, alike_same a a _ hall, cs]
    simp
  · rw [if_neg cs]
    replace cs := Bool.eq_false_iff.mpr cs
    rw [cs] at hs
    by_cases c4 : a.length < 4
    · rw [alike_long a a (.inl c4), if_neg (by omega)]
      rfl
    · by_cases c16 : 16 < a.length
      · rw [alike_long a a (.inr c16), if_pos (by omega), if_neg (by omega)]
        rfl
      · rw [if_pos (by omega), if_pos (by omega), cs]
        obtain ⟨x, hx, hne⟩ := List.all_eq_false.1 hs.symm
        have h0 : rd a 0 = a[0] := rd_at a 0 (by omega)
        rw [alike_self a ha x (rd a 0) hx (by rw [h0]; exact List.getElem_mem _) (by simpa using hne) (by omega) (by omega)]
        rfl
theorem more_l1 (a b : List Int) (c : Int) (ha : ok1 a) (hc : 0 ≤ c ∧ c ≤ 1000) (hlb : b.length ≤ 40) (s : Bool) (hs : s = a.all (fun x => x == rd a 0)) : ∀ (m i k : Nat), b.length - i = m → i ≤ b.length → m < k → (∀ j (h : j < b.length), j < i → 0 ≤ b[j] ∧ b[j] ≤ 1000) →
    fourinhandlaw17_GroupMore.l1 k a b (a.map (· + c)) (a.map (2 * ·)) ((b.take i).map (2 * ·)) s i = some true := by
  intro m
  induction m with
  | zero =>
    intro i k h1 h2 hk hb
    obtain ⟨k, rfl⟩ : ∃ j, k = j + 1 := ⟨k - 1, by omega⟩
    obtain rfl : i = b.length := by omega
    rw [fourinhandlaw17_GroupMore.l1, if_neg (by omega), List.take_length]
    refine more_end a b c ha ?_ hc s hs
    intro x hx
    obtain ⟨j, hj, rfl⟩ := List.getElem_of_mem hx
    exact hb j hj hj
  | succ m ih =>
    intro i k h1 h2 hk hb
    obtain ⟨k, rfl⟩ : ∃ j, k = j + 1 := ⟨k - 1, by omega⟩
    have hi : i < b.length := by omega
    rw [fourinhandlaw17_GroupMore.l1, if_pos (by omega), if_pos (by omega), rd_at b i hi]
    by_cases c1 : b[i] < 0
    · rw [if_pos c1]
    · rw [if_neg c1]
      by_cases c2 : b[i] > 1000
      · rw [if_pos c2]
      · rw [if_neg c2, if_pos (by rw [List.length_map, List.length_take]; omega), w64 (2 * b[i]) (by omega) (by omega), w64 ((i : Int) + 1) (by omega) (by omega), show (i : Int) + 1 = ((i + 1 : Nat) : Int) by omega]
        have := ih (i + 1) k (by omega) (by omega) (by omega) (by
          intro j h hj
          rcases Nat.lt_or_ge j i with h3 | h3
          · exact hb j h h3
          · obtain rfl : j = i := by omega
            omega)
        rw [List.take_succ_eq_append_getElem hi, List.map_append] at this
        exact this
theorem more_l0 (a b : List Int) (c : Int) (hc : 0 ≤ c ∧ c ≤ 1000) (hla : a.length ≤ 40) (hlb : b.length ≤ 40) : ∀ (m i k : Nat), a.length - i = m → i ≤ a.length → m + 100 < k → (∀ j (h : j < a.length), j < i → 0 ≤ a[j] ∧ a[j] ≤ 1000) →
    fourinhandlaw17_GroupMore.l0 k a b c ((a.take i).map (· + c)) ((a.take i).map (2 * ·)) ((a.take i).all (fun x => x == rd a 0)) i = some true := by
  intro m
  induction m with
  | zero =>
    intro i k h1 h2 hk ha
    obtain ⟨k, rfl⟩ : ∃ j, k = j + 1 := ⟨k - 1, by omega⟩
    obtain rfl : i = a.length := by omega
    rw [fourinhandlaw17_GroupMore.l0, if_neg (by omega), List.take_length]
    refine more_l1 a b c ?_ hc hlb _ rfl b.length 0 k (by omega) (by omega) (by omega) (fun j h hj => absurd hj (by omega))
    intro x hx
    obtain ⟨j, hj, rfl⟩ := List.getElem_of_mem hx
    exact ha j hj hj
  | succ m ih =>
    intro i k h1 h2 hk ha
    obtain ⟨k, rfl⟩ : ∃ j, k = j + 1 := ⟨k - 1, by omega⟩
    have hi : i < a.length := by omega
    rw [fourinhandlaw17_GroupMore.l0, if_pos (by omega), if_pos (by omega), rd_at a i hi]
    by_cases c1 : a[i] < 0
    · rw [if_pos c1]
    · rw [if_neg c1]
      by_cases c2 : a[i] > 1000
      · rw [if_pos c2]
      · rw [if_neg c2, if_pos (by rw [List.length_map, List.length_take]; omega), Option.bind_some, if_pos (by rw [List.length_map, List.length_take]; omega), Option.bind_some, w64 (2 * a[i]) (by omega) (by omega), w64 (a[i] + c) (by omega) (by omega), w64 ((i : Int) + 1) (by omega) (by omega), show (i : Int) + 1 = ((i + 1 : Nat) : Int) by omega]
        have := ih (i + 1) k (by omega) (by omega) (by omega) (by
          intro j h hj
          rcases Nat.lt_or_ge j i with h3 | h3
          · exact ha j h h3
          · obtain rfl : j = i := by omega
            omega)
        rw [List.take_succ_eq_append_getElem hi, List.map_append, List.map_append, List.all_append] at this
        by_cases c3 : ((a.take i).all (fun x => x == rd a 0)) = true
        · rw [if_pos c3, if_pos (by omega)]
          rw [c3] at this
          simpa using this
        · rw [if_neg c3]
          rw [Bool.eq_false_iff.mpr c3] at this
          simpa using this
theorem GroupMore (a b : List Int) (c : Int) : fourinhandlaw17_GroupMore.f 400 a b c = some true := by
  unfold fourinhandlaw17_GroupMore.f fourinhandlaw17_awake.f
  simp only [Option.bind_some, if_true]
  have hgo : fourinhandlaw17_GroupMore.j0 400 a b c true true = some true := by rw [fourinhandlaw17_GroupMore.j0, if_pos rfl]
  by_cases c1 : (a.length : Int) > 40
  · rw [if_pos c1, hgo]
  · rw [if_neg c1]
    by_cases c2 : (b.length : Int) > 40
    · rw [if_pos c2, hgo]
    · rw [if_neg c2]
      by_cases c3 : c < 0
      · rw [if_pos c3, hgo]
      · rw [if_neg c3]
        by_cases c4 : c > 1000
        · rw [decide_eq_true c4, hgo]
        · rw [decide_eq_false c4, fourinhandlaw17_GroupMore.j0, if_neg (by simp)]
          exact more_l0 a b c (by omega) (by omega) (by omega) a.length 0 399 (by omega) (by omega) (by omega) (fun j h hj => absurd hj (by omega))
end Go.Proofs.Ytefpdneokkcmpaa.Given
