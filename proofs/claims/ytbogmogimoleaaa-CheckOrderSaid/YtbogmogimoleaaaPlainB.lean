/- The laws of sums of bytes as plain statements: each answers true. -/
import Derived.Test.YtbogmogimoleaaaPlainA
import Derived.Test.YtbogmogimoleaaaSx
import Derived.Laws.Bits64
namespace Go.Proofs.Ytbogmogimoleaaa.Plain
open Go.RowKit Go.Proofs.Ytbogmogimoleaaa.S Go.Proofs.Ytbogmogimoleaaa.Given Go.Proofs.YtbogmogimoleaaaW.PrintWords Go.Proofs.YtbogmogimoleaaaW.PrintLast Go.Proofs.YtbogmogimoleaaaW.PrintMore
set_option linter.unusedVariables false
set_option linter.unusedSimpArgs false

theorem awake_eq : fourinhandlaw03_awake.f = some true := rfl
theorem few_l0 (l : List (List Int)) (hl : l.length ≤ 20) (d : Nat) : ∀ (k i : Nat) (ok : Bool), i ≤ l.length → l.length - i = d → d < k →
    fourinhandlaw03_few.l0 k l ok (i : Int) = some (ok && (l.drop i).all fun p => decide (p.length ≤ 500)) := by
  induction d with
  | zero =>
    intro k i ok hi hd hk
    obtain ⟨k, rfl⟩ : ∃ m, k = m + 1 := ⟨k - 1, by omega⟩
    simp only [fourinhandlaw03_few.l0]
    rw [if_neg (by omega), List.drop_eq_nil_of_le (by omega)]
    simp
  | succ d ih =>
    intro k i ok hi hd hk
    obtain ⟨k, rfl⟩ : ∃ m, k = m + 1 := ⟨k - 1, by omega⟩
    have h1 : i < l.length := by omega
    have hr : rd_L1 l (i : Int) = l[i] := by unfold rd_L1; simp [List.getD_eq_getElem?_getD, h1]
    simp only [fourinhandlaw03_few.l0]
    rw [if_pos (by omega)]
    cases ok with
    | false => rw [if_neg (by simp)]; simp
    | true =>
      rw [if_pos rfl, if_pos (by omega), hr, w1 i l.length h1 (by omega), ih k (i + 1) _ (by omega) (by omega) (by omega), List.drop_eq_getElem_cons h1]
      simp only [List.all_cons, Bool.true_and]
      congr 2
      rw [decide_eq_decide]
      omega
theorem few_eq (k : Nat) (l : List (List Int)) (hk : 22 ≤ k) : ∃ b : Bool, fourinhandlaw03_few.f k l = some b ∧ (b = true → l.length ≤ 20 ∧ ∀ p ∈ l, p.length ≤ 500) := by
  unfold fourinhandlaw03_few.f
  by_cases h : l.length ≤ 20
  · rw [decide_eq_true (by omega)]
    have := few_l0 l h l.length k 0 true (by omega) (by omega) (by omega)
    refine ⟨_, this, ?_⟩
    intro hb
    simp only [Bool.true_and, List.drop_zero, List.all_eq_true, decide_eq_true_eq] at hb
    exact ⟨h, hb⟩
  · rw [decide_eq_false (by omega)]
    obtain ⟨k, rfl⟩ : ∃ m, k = m + 1 := ⟨k - 1, by omega⟩
    refine ⟨false, ?_, by simp⟩
    simp only [fourinhandlaw03_few.l0]
    rw [if_pos (by omega), if_neg (by simp)]
theorem flat_len : ∀ (l : List (List Int)) (m : Nat), (∀ p ∈ l, p.length ≤ m) → l.flatten.length ≤ l.length * m
  | [], m, _ => by simp
  | p :: l, m, h => by
    have h1 := h p (by simp)
    have h2 := flat_len l m (fun q hq => h q (by simp [hq]))
    simp only [List.flatten_cons, List.length_append, List.length_cons, Nat.add_mul]
    omega
theorem w64 {n : Int} (h : 0 ≤ n ∧ n < 4294967296) : wrap64 n = n := by unfold wrap64; omega

theorem tells (l0 : List (List Int)) (l1 : List Int) (h0 : ∀ p ∈ l0, Byt p) (h1 : Byt l1) : fourinhandlaw03_CheckTells.f 20001 l0 l1 = some true := by
  obtain ⟨b, hb, hf⟩ := few_eq 20001 l0 (by omega)
  simp only [fourinhandlaw03_CheckTells.f, awake_eq, Option.bind_some, hb, if_true]
  cases b with
  | false => rw [if_neg (by simp)]; rfl
  | true =>
    rw [if_pos rfl]
    by_cases hl : (l1.length : Int) > 3000
    · rw [decide_eq_true hl]; rfl
    · rw [decide_eq_false hl]
      obtain ⟨hn, hp⟩ := hf rfl
      have hfl := flat_len l0 500 hp
      have hfl' : l0.flatten.length ≤ 10000 := by omega
      simp only [fourinhandlaw03_CheckTells.j0]
      rw [if_neg (by simp), open_eq _ _ (by omega) h1 (by omega), Option.bind_some, ropen_eq _ _ (by omega) h1 (by omega), Option.bind_some, same_eq _ _ _ (by unfold opnd; split <;> (try split) <;> simp <;> omega) (by unfold opnd; split <;> (try split) <;> simp <;> omega), Option.bind_some,
        seal_eq _ _ (by omega) h1 (by omega), Option.bind_some, rseal_eq _ _ (by omega) h1 (by omega), Option.bind_some, same_eq _ _ _ (by rw [seald_len]; omega) (by rw [seald_len]; omega), Option.bind_some, if_pos (by simp), if_pos rfl, if_pos (by simp),
        csum_eq h0, Option.bind_some, joined_eq _ _ (by omega) (by omega) (by omega), Option.bind_some, rsum_eq _ _ (byt_flat h0) (by omega) (by omega), Option.bind_some, w64 (summ_bd _)]
      simp

theorem partss (l0 : List (List Int)) (h0 : ∀ p ∈ l0, Byt p) : fourinhandlaw03_CheckParts.f 20001 l0 = some true := by
  obtain ⟨b, hb, hf⟩ := few_eq 20001 l0 (by omega)
  simp only [fourinhandlaw03_CheckParts.f, awake_eq, Option.bind_some, hb, if_true]
  cases b with
  | false => rfl
  | true =>
    obtain ⟨hn, hp⟩ := hf rfl
    have hfl := flat_len l0 500 hp
    simp only [fourinhandlaw03_CheckParts.j0]
    rw [if_neg (by simp), csum_eq h0, Option.bind_some, joined_eq _ _ (by omega) (by omega) (by omega), Option.bind_some, csum_one (byt_flat h0), Option.bind_some]
    simp

/-! ### how the sum turns with one byte -/
theorem sum_fst (l : List Int) : ∀ (x y : Int), 0 ≤ x → x < 65521 → (sumS l (x, y)).1 = (x + l.sum) % 65521 := by
  induction l with
  | nil => intro x y h0 h1; simp [sumS]; omega
  | cons c l ih =>
    intro x y h0 h1
    show (sumS l (stepS (x, y) c)).1 = _
    unfold stepS
    rw [ih _ _ (by omega) (by omega), List.sum_cons]
    dsimp only
    omega
theorem sum_set : ∀ (l : List Int) (i : Nat) (v : Int) (h : i < l.length), (l.set i v).sum = l.sum - l[i] + v
  | [], i, v, h => by simp at h
  | c :: l, 0, v, h => by simp; omega
  | c :: l, i + 1, v, h => by
    have := sum_set l i v (by simpa using h)
    simp only [List.set_cons_succ, List.sum_cons, List.getElem_cons_succ, this]
    omega
theorem summ_ne {l : List Int} (i : Nat) (v : Int) (h : i < l.length) (hl : 0 ≤ l[i] ∧ l[i] ≤ 255) (hv : 0 ≤ v ∧ v ≤ 255) (hne : v ≠ l[i]) : summ (l.set i v) ≠ summ l := by
  intro e
  have h1 := (summ_fst l).1
  have h2 := (summ_fst (l.set i v)).1
  rw [e, h1, sum_fst _ _ _ (by omega) (by omega), sum_fst _ _ _ (by omega) (by omega), sum_set l i v h] at h2
  omega
theorem byt_set {l : List Int} (h : Byt l) (i : Nat) {v : Int} (hv : 0 ≤ v ∧ v ≤ 255) : Byt (l.set i v) := by
  intro c hc
  rcases List.mem_or_eq_of_mem_set hc with h' | rfl
  · exact h c h'
  · exact hv
theorem bits_xor_u8_nat (a b : Nat) (ha : a < 256) (hb : b < 256) : bits .xor .u8 (a : Int) (b : Int) = ((a ^^^ b : Nat) : Int) := by
  have hx : a ^^^ b < 2 ^ 8 := Nat.xor_lt_two_pow (by omega) (by omega)
  have h1 : (BitVec.ofInt 8 (a : Int)).toNat = a := by
    rw [BitVec.toNat_ofInt]; omega
  have h2 : (BitVec.ofInt 8 (b : Int)).toNat = b := by
    rw [BitVec.toNat_ofInt]; omega
  show IntKind.u8.wrap ((BitVec.ofInt 8 (a : Int) ^^^ BitVec.ofInt 8 (b : Int)).toNat : Int) = _
  rw [BitVec.toNat_xor, h1, h2, IntKind.wrap_u8]
  omega
theorem xor_byte {x y : Int} (hx : 0 ≤ x ∧ x ≤ 255) (hy : 0 ≤ y ∧ y ≤ 255) : 0 ≤ bits .xor .u8 x y ∧ bits .xor .u8 x y ≤ 255 ∧ (y ≠ 0 → bits .xor .u8 x y ≠ x) := by
  obtain ⟨a, rfl⟩ := Int.eq_ofNat_of_zero_le hx.1
  obtain ⟨b, rfl⟩ := Int.eq_ofNat_of_zero_le hy.1
  rw [bits_xor_u8_nat a b (by omega) (by omega)]
  have hx : a ^^^ b < 2 ^ 8 := Nat.xor_lt_two_pow (by omega) (by omega)
  refine ⟨by omega, by omega, fun hne he => ?_⟩
  have he' : a ^^^ b = a := by omega
  have : a ^^^ (a ^^^ b) = a ^^^ a := by rw [he']
  rw [← Nat.xor_assoc, Nat.xor_self, Nat.zero_xor] at this
  omega
theorem list_set_ne {l : List Int} (i : Nat) (v : Int) (h : i < l.length) (hne : v ≠ l[i]) : l.set i v ≠ l := by
  intro e
  have : (l.set i v)[i]'(by simpa using h) = l[i] := by simp only [e]
  rw [List.getElem_set_self] at this
  exact hne this
theorem opnd_turned {l : List Int} (hb : Byt l) (i : Nat) (v : Int) (h : i < (seald l).length) (hv : 0 ≤ v ∧ v ≤ 255) (hne : v ≠ (seald l)[i]) : opnd ((seald l).set i v) = ([], 8) := by
  unfold opnd
  rw [if_neg (by rw [List.length_set, seald_len]; omega), if_neg]
  intro e
  by_cases c : i < 4
  · rw [List.drop_set_of_lt c, seald_drop] at e
    rw [List.take_set, seald_take] at e
    refine list_set_ne (l := four (summ l)) i v (by rw [four_len]; exact c) ?_ e.symm
    have : (seald l)[i] = (four (summ l))[i]'(by rw [four_len]; exact c) := by
      have e1 : (seald l)[i]? = (four (summ l))[i]? := by unfold seald; rw [List.getElem?_append_left (by rw [four_len]; exact c)]
      rw [List.getElem?_eq_getElem h, List.getElem?_eq_getElem (by rw [four_len]; exact c)] at e1
      exact Option.some.inj e1
    rw [← this]; exact hne
  · rw [List.drop_set, if_neg c, seald_drop, List.take_set_of_le (by omega), seald_take] at e
    have hi : i - 4 < l.length := by rw [seald_len] at h; omega
    have hg : (seald l)[i] = l[i - 4] := by
      have e1 : (seald l)[i]? = l[i - 4]? := by unfold seald; rw [List.getElem?_append_right (by rw [four_len]; omega), four_len]
      rw [List.getElem?_eq_getElem h, List.getElem?_eq_getElem hi] at e1
      exact Option.some.inj e1
    have := four_inj (summ_bd _) (summ_bd _) e
    exact summ_ne (i - 4) v hi (hb _ (List.getElem_mem hi)) hv (by rw [← hg]; exact hne) this

theorem u8_bd {a : Int} (h : (Lit.int .u8 a).wf = true) : 0 ≤ a ∧ a ≤ 255 := by
  simp [Lit.wf, IntKind.min, IntKind.max, IntKind.signed, IntKind.bits] at h
  omega
theorem CheckBack : fourinhandlaw03_CheckBack.Pure := by
  intro l0 a1 a2 hm hs hw h1 h2
  have hb := byt_wf hw
  have h2 := u8_bd h2
  refine ⟨20001, ?_⟩
  simp only [fourinhandlaw03_CheckBack.f, awake_eq, Option.bind_some, if_true]
  by_cases hl : (l0.length : Int) > 3000
  · rw [decide_eq_true hl]; rfl
  · rw [decide_eq_false hl]
    simp only [fourinhandlaw03_CheckBack.j0]
    rw [if_neg (by simp), seal_eq _ _ (by omega) hb (by omega), Option.bind_some, open_eq _ _ (by omega) (seald_byt hb) (by rw [seald_len]; omega), Option.bind_some, opnd_seald, same_eq _ _ _ (by dsimp only; omega) (by dsimp only; omega), Option.bind_some, if_pos rfl, if_pos (by simp)]
    simp only [fourinhandlaw03_CheckBack.j1]
    have e0 : ((seald l0).length : Int) = wrap64 ((l0.length : Int) + 4) := by rw [seald_len]; unfold wrap64; omega
    rw [if_neg (by rw [e0]; simp)]
    by_cases c1 : a1 < 0
    · rw [if_pos c1]
    rw [if_neg c1]
    by_cases c2 : a1 ≥ ((seald l0).length : Int)
    · rw [if_pos c2]
    rw [if_neg c2]
    by_cases c3 : a2 = 0
    · rw [if_pos c3]
    rw [if_neg c3, if_pos (by rw [seald_len]; simp; omega), Option.bind_some, List.nil_append, if_pos (by omega), if_pos (by omega)]
    have hi : a1.toNat < (seald l0).length := by omega
    have hrd : rd (seald l0) a1 = (seald l0)[a1.toNat] := by
      have := rd_get (seald l0) a1.toNat hi
      rwa [show ((a1.toNat : Nat) : Int) = a1 by omega] at this
    have hbt := seald_byt hb (seald l0)[a1.toNat] (List.getElem_mem hi)
    have hx := xor_byte hbt h2
    rw [hrd, open_eq _ _ (by omega) (byt_set (seald_byt hb) _ ⟨hx.1, hx.2.1⟩) (by rw [List.length_set, seald_len]; omega), Option.bind_some, opnd_turned hb _ _ hi ⟨hx.1, hx.2.1⟩ (hx.2.2 c3), if_pos rfl]
    rfl

theorem CheckOnly : fourinhandlaw03_CheckOnly.Pure := by
  intro l0 hm hs hw
  have hb := byt_wf hw
  refine ⟨20001, ?_⟩
  simp only [fourinhandlaw03_CheckOnly.f, awake_eq, Option.bind_some, if_true]
  by_cases hl : (l0.length : Int) > 3000
  · rw [decide_eq_true hl]; rfl
  · rw [decide_eq_false hl]
    simp only [fourinhandlaw03_CheckOnly.j0]
    rw [if_neg (by simp), open_eq _ _ (by omega) hb (by omega), Option.bind_some]
    by_cases c : l0.length < 4
    · rw [if_pos (by omega)]
      have : opnd l0 = ([], 7) := by unfold opnd; rw [if_pos c]
      rw [this, if_pos rfl]
      rfl
    · rw [if_neg (by omega), if_pos (by omega), seal_eq _ _ (by omega) (byt_drop hb 4) (by rw [List.length_drop]; omega), Option.bind_some, same_eq _ _ _ (by rw [seald_len, List.length_drop]; omega) (by rw [seald_len, List.length_drop]; omega), Option.bind_some]
      have hcut : l0 = l0.take 4 ++ l0.drop 4 := (List.take_append_drop 4 l0).symm
      by_cases e : four (summ (l0.drop 4)) = l0.take 4
      · have h1 : opnd l0 = (l0.drop 4, 0) := by unfold opnd; rw [if_neg c, if_pos e]
        have h2 : seald (l0.drop 4) = l0 := by unfold seald; rw [e]; exact hcut.symm
        rw [h1, h2]
        simp
      · have h1 : opnd l0 = ([], 8) := by unfold opnd; rw [if_neg c, if_neg e]
        have h2 : seald (l0.drop 4) ≠ l0 := by
          intro h
          refine e ?_
          rw [← h, seald_drop, seald_take]
        rw [h1, decide_eq_false h2]
        simp

theorem CheckLong : fourinhandlaw03_CheckLong.Pure := by
  intro l0 hm hs hw
  have hb := byt_wf hw
  refine ⟨20001, ?_⟩
  simp only [fourinhandlaw03_CheckLong.f, awake_eq, Option.bind_some, if_true]
  by_cases hl : (l0.length : Int) > 3000
  · rw [decide_eq_true hl]; rfl
  · rw [decide_eq_false hl]
    simp only [fourinhandlaw03_CheckLong.j0]
    have e0 : ((seald l0).length : Int) = wrap64 ((l0.length : Int) + 4) := by rw [seald_len]; unfold wrap64; omega
    rw [if_neg (by simp), seal_eq _ _ (by omega) hb (by omega), Option.bind_some, if_pos e0, if_pos (by rw [seald_len]; omega), seald_drop, same_eq _ _ _ (by omega) (by omega), Option.bind_some,
      seal_eq _ _ (by omega) (seald_byt hb) (by rw [seald_len]; omega), Option.bind_some, open_eq _ _ (by omega) (seald_byt (seald_byt hb)) (by rw [seald_len, seald_len]; omega), Option.bind_some, opnd_seald,
      open_eq _ _ (by omega) (seald_byt hb) (by rw [seald_len]; omega), Option.bind_some]
    rw [opnd_seald, if_pos (by simp), if_pos rfl, if_pos rfl, same_eq _ _ _ (by rw [seald_len]; omega) (by rw [seald_len]; omega), Option.bind_some, if_pos (by simp), same_eq _ _ _ (by dsimp only; omega) (by dsimp only; omega)]
    simp
end Go.Proofs.Ytbogmogimoleaaa.Plain
