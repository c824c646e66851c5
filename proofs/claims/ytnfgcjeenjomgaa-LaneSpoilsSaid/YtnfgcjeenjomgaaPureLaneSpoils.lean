/- What is spoilt twice by the same is as it was: the plain law. -/
import Derived.Test.YtnfgcjeenjomgaaPlainA
import Derived.Test.YtnfgcjeenjomgaaSx12
namespace Go.Proofs.Ytnfgcjeenjomgaa.Pure
open Go.RowKit Go.Proofs.Ytnfgcjeenjomgaa.S Go.Proofs.Ytnfgcjeenjomgaa.Given Go.Proofs.YtnfgcjeenjomgaaW.PrintWords
set_option linter.unusedVariables false
theorem xor_nat (a b : Nat) (ha : a < 2 ^ 8) (hb : b < 2 ^ 8) : Go.bits .xor .u8 (a : Int) (b : Int) = ((a ^^^ b : Nat) : Int) := by
  have ha' : a % 2 ^ IntKind.u8.bits = a := Nat.mod_eq_of_lt ha
  have hb' : b % 2 ^ IntKind.u8.bits = b := Nat.mod_eq_of_lt hb
  simp only [Go.bits, BitVec.ofInt_natCast, BitVec.toNat_xor, BitVec.toNat_ofNat, ha', hb']
  exact wraps_u8 _ (Int.natCast_nonneg _) (by exact_mod_cast Nat.xor_lt_two_pow ha hb)
theorem xor_xor (x y : Int) (hx : 0 ≤ x ∧ x < 256) (hy : 0 ≤ y ∧ y < 256) : Go.bits .xor .u8 (Go.bits .xor .u8 x y) y = x := by
  obtain ⟨a, rfl⟩ : ∃ n : Nat, x = n := ⟨x.toNat, by omega⟩
  obtain ⟨b, rfl⟩ : ∃ n : Nat, y = n := ⟨y.toNat, by omega⟩
  have ha : a < 2 ^ 8 := by omega
  have hb : b < 2 ^ 8 := by omega
  rw [xor_nat a b ha hb, xor_nat _ b (Nat.xor_lt_two_pow ha hb) hb, Nat.xor_assoc, Nat.xor_self, Nat.xor_zero]
theorem wf_u8 {x : Int} (h : (Lit.int .u8 x).wf = true) : 0 ≤ x ∧ x < 256 := by
  have e1 : IntKind.u8.min = 0 := by decide
  have e2 : IntKind.u8.max = 255 := by decide
  simp [Lit.wf, e1, e2] at h
  omega
theorem spoil_in {l : List S29} {i a y : Int} (h : (mayB l = true ∧ 0 ≤ i ∧ i < (l.length : Int)) ∧ 0 ≤ a ∧ a < ((rd_T29 l i).f0.length : Int)) : spoilB l i a y = (l.set i.toNat ⟨(rd_T29 l i).f0.set a.toNat (Go.bits .xor .u8 (rd (rd_T29 l i).f0 a) y), (rd_T29 l i).f1⟩, true) := if_pos h
theorem spoil_out {l : List S29} {i a y : Int} (h : ¬ ((mayB l = true ∧ 0 ≤ i ∧ i < (l.length : Int)) ∧ 0 ≤ a ∧ a < ((rd_T29 l i).f0.length : Int))) : spoilB l i a y = (l, false) := if_neg h
theorem any_set (l : List S29) (i : Nat) (hi : i < l.length) (x : S29) (hx : longB x = longB l[i]) : (l.set i x).any longB = l.any longB := by
  induction l generalizing i with
  | nil => cases hi
  | cons y t ih =>
    cases i with
    | zero => simp only [List.set_cons_zero, List.any_cons]; rw [hx]; rfl
    | succ i =>
      simp only [List.set_cons_succ, List.any_cons]
      rw [ih i (by simpa using hi) (by simpa using hx)]
theorem may_set (l : List S29) (i : Nat) (hi : i < l.length) (x : S29) (hx : x.f0.length = l[i].f0.length) : mayB (l.set i x) = mayB l := by
  unfold mayB
  rw [List.length_set, any_set l i hi x (by unfold longB; rw [hx])]
theorem rd_set (l : List Int) (i : Nat) (hi : i < l.length) (x : Int) : rd (l.set i x) (i : Int) = x := by
  unfold rd
  simp [List.getD_eq_getElem?_getD, hi]
theorem rd_get (l : List Int) (i : Nat) (hi : i < l.length) : rd l (i : Int) = l[i] := by
  unfold rd
  simp [List.getD_eq_getElem?_getD, hi]
theorem set_back {α : Type} (l : List α) (i : Nat) (hi : i < l.length) : l.set i l[i] = l := by simp
/-- Spoilt twice by the same: as it was, and the same answer. -/
theorem spoil_twice (l : List S29) (i a y : Int) (hb : ∀ x ∈ l, ∀ b ∈ x.f0, 0 ≤ b ∧ b < 256) (hy : 0 ≤ y ∧ y < 256) : spoilB (spoilB l i a y).1 i a y = (l, (spoilB l i a y).2) := by
  by_cases c : (mayB l = true ∧ 0 ≤ i ∧ i < (l.length : Int)) ∧ 0 ≤ a ∧ a < ((rd_T29 l i).f0.length : Int)
  · rw [spoil_in c]
    obtain ⟨⟨c1, c2, c3⟩, c4, c5⟩ := c
    obtain ⟨n, rfl⟩ : ∃ n : Nat, i = n := ⟨i.toNat, by omega⟩
    obtain ⟨j, rfl⟩ : ∃ n : Nat, a = n := ⟨a.toNat, by omega⟩
    have hn : n < l.length := by omega
    rw [rdT l n hn] at c5 ⊢
    have hj : j < l[n].f0.length := by omega
    have t1 : ((n : Int)).toNat = n := rfl
    have t2 : ((j : Int)).toNat = j := rfl
    rw [t1, t2]
    have hlen : (l.set n ⟨l[n].f0.set j (Go.bits .xor .u8 (rd l[n].f0 j) y), l[n].f1⟩).length = l.length := List.length_set
    have hrd : rd_T29 (l.set n ⟨l[n].f0.set j (Go.bits .xor .u8 (rd l[n].f0 j) y), l[n].f1⟩) (n : Int) = ⟨l[n].f0.set j (Go.bits .xor .u8 (rd l[n].f0 j) y), l[n].f1⟩ := by
      rw [rdT _ n (by omega)]
      simp
    show spoilB (l.set n ⟨l[n].f0.set j (Go.bits .xor .u8 (rd l[n].f0 j) y), l[n].f1⟩) n j y = (l, true)
    rw [spoil_in ⟨⟨by rw [may_set l n hn _ (by simp)]; exact c1, c2, by omega⟩, c4, by rw [hrd]; simp; omega⟩, hrd, t1, t2]
    show (List.set _ n ⟨(l[n].f0.set j (Go.bits .xor .u8 (rd l[n].f0 j) y)).set j _, l[n].f1⟩, true) = (l, true)
    rw [rd_set _ j hj, rd_get _ j hj, xor_xor _ _ (hb _ (List.getElem_mem hn) _ (List.getElem_mem hj)) hy, List.set_set, List.set_set, set_back l[n].f0 j hj, set_back l n hn]
  · rw [spoil_out c]
    show spoilB l i a y = _
    rw [spoil_out c]
theorem mark_row (l : List S29) (i : Int) (k : Nat) (hk : k < l.length) : k < (markB l i).1.length ∧ (rd_T29 (markB l i).1 (k : Int)).f0 = (rd_T29 l (k : Int)).f0 ∧ (rd_T29 (markB l i).1 (k : Int)).f1 = ((rd_T29 l (k : Int)).f1 || ((markB l i).2 && ((k : Int) == i))) := by
  unfold markB
  by_cases c : mayB l = true ∧ 0 ≤ i ∧ i < (l.length : Int)
  · rw [if_pos c]
    obtain ⟨_, c2, c3⟩ := c
    obtain ⟨n, rfl⟩ : ∃ n : Nat, i = n := ⟨i.toNat, by omega⟩
    have hn : n < l.length := by omega
    show k < (l.set n _).length ∧ (rd_T29 (l.set n _) (k : Int)).f0 = _ ∧ (rd_T29 (l.set n _) (k : Int)).f1 = (_ || (true && _))
    refine ⟨by rw [List.length_set]; exact hk, ?_⟩
    rw [rdT _ k (by rw [List.length_set]; exact hk), rdT l k hk, List.getElem_set]
    by_cases e : n = k
    · subst e
      rw [if_pos rfl, rdT l n hn]
      simp
    · rw [if_neg e]
      have : ((k : Int) == (n : Int)) = false := by simp; omega
      rw [this]
      simp
  · rw [if_neg c]
    exact ⟨hk, rfl, by simp⟩
theorem spoils_loop (l : List S29) (i : Int) (hf : l.length ≤ 80 ∧ ∀ x ∈ l, x.f0.length ≤ 20000) : ∀ (m j k : Nat), l.length - j = m → j ≤ l.length → m + 20200 < k → fourinhandlaw22_LaneSpoils.l0 k l i (markB l i).1 (markB l i).2 j = some true := by
  intro m
  induction m with
  | zero =>
    intro j k h1 h2 hk
    obtain ⟨k, rfl⟩ : ∃ q, k = q + 1 := ⟨k - 1, by omega⟩
    rw [fourinhandlaw22_LaneSpoils.l0, if_neg (by omega)]
  | succ m ih =>
    intro j k h1 h2 hk
    obtain ⟨k, rfl⟩ : ∃ q, k = q + 1 := ⟨k - 1, by omega⟩
    have hl := hf.1
    obtain ⟨q1, q2, q3⟩ := mark_row l i j (by omega)
    have hr := hf.2 _ (rdf l j (by omega))
    have hi := ih (j + 1) k (by omega) (by omega) (by omega)
    rw [fourinhandlaw22_LaneSpoils.l0, if_pos (by omega), if_pos (by omega), if_pos (by omega), q2, same03 _ (by omega) k (by omega), Option.bind_some, if_pos rfl, w64 _ (by omega) (by omega), q3]
    generalize (rd_T29 l (j : Int)).f1 = f
    generalize hg : (markB l i).2 = g at *
    cases f with
    | true =>
      rw [if_pos rfl, Bool.true_or, if_neg (by simp)]
      exact hi
    | false =>
      rw [if_neg (by simp), Bool.false_or]
      cases g with
      | true =>
        rw [if_pos rfl, Bool.true_and, if_neg (by simp)]
        exact hi
      | false =>
        rw [if_neg (by simp), Bool.false_and, if_neg (by simp)]
        exact hi
theorem LaneSpoils (l : List S29) (i a y : Int) (hw : okW l) (hy : (Lit.int .u8 y).wf = true) : fourinhandlaw22_LaneSpoils.f (l.length + 30000) l i a y = some true := by
  obtain ⟨t, ht, hs⟩ := few_eq l hw (l.length + 30000) (by omega)
  unfold fourinhandlaw22_LaneSpoils.f
  rw [awake_of, Option.bind_some, ht, Option.bind_some, if_pos rfl]
  obtain ⟨k, hk⟩ : ∃ j, l.length + 30000 = j + 2 := ⟨l.length + 29998, by omega⟩
  rw [hk]
  cases t with
  | false => rw [fourinhandlaw22_LaneSpoils.j0, if_pos (by simp)]
  | true =>
    have hf := hs rfl
    have hsm := few_small hf
    have hl := hf.1
    have h2 := spoil_twice l i a y (fun x hx b hb => wf_u8 ((hw.2 x hx).1.2 b hb)) (wf_u8 hy)
    have hsm1 : small (spoilB l i a y).1 := by
      by_cases c : (mayB l = true ∧ 0 ≤ i ∧ i < (l.length : Int)) ∧ 0 ≤ a ∧ a < ((rd_T29 l i).f0.length : Int)
      · rw [spoil_in c]
        refine small_set hsm _ _ ?_
        show (List.set _ _ _).length ≤ _
        rw [List.length_set]
        obtain ⟨n, rfl⟩ : ∃ n : Nat, i = n := ⟨i.toNat, by omega⟩
        have := hsm.2 _ (rdf l n (by omega))
        exact this
      · rw [spoil_out c]
        exact hsm
    rw [fourinhandlaw22_LaneSpoils.j0, if_neg (by simp), spoil_of hsm, Option.bind_some, spoil_of hsm1, h2, Option.bind_some, mark_of hsm, Option.bind_some, if_neg (by simp), same_few hf _ (by omega), Option.bind_some, if_pos rfl]
    have hml : ((markB l i).1.length : Int) = (l.length : Int) := by
      unfold markB
      split
      · show ((l.set _ _).length : Int) = _
        rw [List.length_set]
      · rfl
    rw [if_pos hml]
    have hlast := spoils_loop l i hf l.length 0 k (by omega) (by omega) (by omega)
    have hj : fourinhandlaw22_LaneSpoils.j1 (k + 1) l i (markB l i).1 (markB l i).2 false = some true := by
      rw [fourinhandlaw22_LaneSpoils.j1, if_neg (by simp)]
      exact hlast
    by_cases c : (spoilB l i a y).2 = true
    · rw [if_pos c]
      have hmk : (markB l i).2 = true := by
        by_cases c2 : (mayB l = true ∧ 0 ≤ i ∧ i < (l.length : Int)) ∧ 0 ≤ a ∧ a < ((rd_T29 l i).f0.length : Int)
        · unfold markB
          rw [if_pos c2.1]
        · rw [spoil_out c2] at c
          cases c
      rw [hmk] at hj ⊢
      exact hj
    · rw [if_neg c]
      exact hj
end Go.Proofs.Ytnfgcjeenjomgaa.Pure
