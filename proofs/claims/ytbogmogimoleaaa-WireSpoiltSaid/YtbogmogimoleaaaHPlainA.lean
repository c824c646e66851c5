/- The plain laws of sums of bytes, sealed and opened: no program in sight. -/
import Derived.Test.YtbogmogimoleaaaWx
import Derived.Laws.Bits64
namespace Go.Proofs.Ytbogmogimoleaaa.Plain7
open Go.RowKit Go.Proofs.Ytbogmogimoleaaa.W Go.Proofs.Ytbogmogimoleaaa.Given Go.Proofs.YtbogmogimoleaaaW.PrintWords Go.Proofs.YtbogmogimoleaaaW.PrintLast Go.Proofs.YtbogmogimoleaaaW.PrintMore
set_option linter.unusedVariables false
set_option linter.unusedSimpArgs false

/-! ### bytes -/
def Byt (l : List Int) : Prop := ∀ c ∈ l, 0 ≤ c ∧ c ≤ 255
theorem byt_ok {l : List Int} (h : Byt l) : okB l = true := by
  unfold okB
  rw [List.all_eq_true]
  intro c hc
  have := h c hc
  simp only [Bool.and_eq_true, decide_eq_true_eq]
  exact this
theorem byt_wf {l : List Int} (h : ∀ x ∈ l, (Lit.int .u8 x).wf = true) : Byt l := by
  intro c hc
  have := h c hc
  simp [Lit.wf, IntKind.min, IntKind.max, IntKind.signed, IntKind.bits] at this
  omega
theorem byt_app {a b : List Int} (ha : Byt a) (hb : Byt b) : Byt (a ++ b) := by
  intro c hc
  rcases List.mem_append.mp hc with h | h
  · exact ha c h
  · exact hb c h
theorem byt_drop {a : List Int} (ha : Byt a) (n : Nat) : Byt (a.drop n) := fun c hc => ha c (List.mem_of_mem_drop hc)
theorem byt_take {a : List Int} (ha : Byt a) (n : Nat) : Byt (a.take n) := fun c hc => ha c (List.mem_of_mem_take hc)
theorem byt_flat {l : List (List Int)} (h : ∀ p ∈ l, Byt p) : Byt l.flatten := by
  intro c hc
  obtain ⟨p, hp, hcp⟩ := List.mem_flatten.mp hc
  exact h p hp c hcp
def summ (l : List Int) : Int := sumV (sumS l (1, 0))
theorem csum_eq {l : List (List Int)} (h : ∀ p ∈ l, Byt p) : check_Sum.f l = some (summ l.flatten) := by
  unfold check_Sum.f summ
  rw [if_pos]
  rw [List.all_eq_true]
  exact fun p hp => byt_ok (h p hp)
theorem csum_one {l : List Int} (h : Byt l) : check_Sum.f [l] = some (summ l) := by
  rw [csum_eq (by intro p hp; rw [List.mem_singleton.mp hp]; exact h)]
  simp
theorem summ_bd (l : List Int) : 0 ≤ summ l ∧ summ l < 4294967296 := by
  have := sumS_bd l (1, 0) (by omega)
  unfold summ sumV
  omega
theorem summ_fst (l : List Int) : summ l % 65536 = (sumS l (1, 0)).1 ∧ summ l / 65536 = (sumS l (1, 0)).2 := by
  have := sumS_bd l (1, 0) (by omega)
  unfold summ sumV
  omega

/-! ### the same -/
theorem rd_get (l : List Int) (i : Nat) (h : i < l.length) : rd l (i : Int) = l[i] := by
  unfold rd; simp [List.getD_eq_getElem?_getD, h]
theorem w1 (i n : Nat) (h : i < n) (hn : n ≤ 9223372036854775806) : wrap64 ((i : Int) + 1) = ((i + 1 : Nat) : Int) := by unfold wrap64; omega
theorem same_l0 (a b : List Int) (hl : a.length = b.length) (hn : a.length ≤ 9223372036854775806) (d : Nat) : ∀ (k i : Nat), i ≤ a.length → a.length - i = d → d < k →
    fourinhandref03_Same.l0 k a b (i : Int) = some (decide (a.drop i = b.drop i)) := by
  induction d with
  | zero =>
    intro k i hi hd hk
    obtain ⟨k, rfl⟩ : ∃ m, k = m + 1 := ⟨k - 1, by omega⟩
    simp only [fourinhandref03_Same.l0]
    rw [if_neg (by omega), List.drop_eq_nil_of_le (by omega), List.drop_eq_nil_of_le (by omega)]
    simp
  | succ d ih =>
    intro k i hi hd hk
    obtain ⟨k, rfl⟩ : ∃ m, k = m + 1 := ⟨k - 1, by omega⟩
    have h1 : i < a.length := by omega
    have h2 : i < b.length := by omega
    simp only [fourinhandref03_Same.l0]
    rw [if_pos (by omega), if_pos (by omega), if_pos (by omega), rd_get a i h1, rd_get b i h2, w1 i a.length h1 hn]
    have hab : (a.drop i = b.drop i) ↔ (a[i] = b[i] ∧ a.drop (i + 1) = b.drop (i + 1)) := by
      rw [List.drop_eq_getElem_cons h1, List.drop_eq_getElem_cons h2, List.cons.injEq]
    by_cases e : a[i] = b[i]
    · rw [if_pos e, ih k (i + 1) (by omega) (by omega) (by omega)]
      congr 1
      rw [decide_eq_decide, hab]
      exact ⟨fun h => ⟨e, h⟩, fun h => h.2⟩
    · rw [if_neg e, decide_eq_false (fun h => e (hab.mp h).1)]
theorem same_eq (k : Nat) (a b : List Int) (hk : a.length < k) (hn : a.length ≤ 9223372036854775806) : fourinhandref03_Same.f k a b = some (decide (a = b)) := by
  unfold fourinhandref03_Same.f
  by_cases hl : a.length = b.length
  · rw [if_pos (by omega)]
    have := same_l0 a b hl hn a.length k 0 (by omega) (by omega) (by omega)
    simpa using this
  · rw [if_neg (by omega)]
    simp only [Option.some.injEq]
    rw [eq_comm, decide_eq_false_iff_not]
    intro h
    exact hl (by rw [h])

/-! ### four bytes -/
def four (n : Int) : List Int := [n / 16777216 % 256, n / 65536 % 256, n / 256 % 256, n % 256]
theorem four_len (n : Int) : (four n).length = 4 := rfl
theorem four_byt (n : Int) : Byt (four n) := by
  intro c hc
  simp only [four, List.mem_cons, List.not_mem_nil, or_false] at hc
  omega
theorem four_inj {n m : Int} (hn : 0 ≤ n ∧ n < 4294967296) (hm : 0 ≤ m ∧ m < 4294967296) (h : four n = four m) : n = m := by
  simp only [four, List.cons.injEq, and_true] at h
  omega
theorem told_eq (k : Nat) (n : Int) (hk : 5 ≤ k) (hn : 0 ≤ n ∧ n < 4294967296) : check_told.f k n = some (four n) := by
  obtain ⟨k, rfl⟩ : ∃ m, k = m + 5 := ⟨k - 5, by omega⟩
  unfold check_told.f
  simp only [check_told.l0]
  have e3 : wrap64 (3 * 8) = 24 := by unfold wrap64; omega
  have f3 : wrap64 (3 - 1) = 2 := by unfold wrap64; omega
  have e2 : wrap64 (2 * 8) = 16 := by unfold wrap64; omega
  have f2 : wrap64 (2 - 1) = 1 := by unfold wrap64; omega
  have e1 : wrap64 (1 * 8) = 8 := by unfold wrap64; omega
  have f1 : wrap64 (1 - 1) = 0 := by unfold wrap64; omega
  have e0 : wrap64 (0 * 8) = 0 := by unfold wrap64; omega
  have f0 : wrap64 (0 - 1) = -1 := by unfold wrap64; omega
  rw [if_pos (by decide), e3, if_pos (by decide), if_pos (by simp), f3, if_pos (by decide), e2, if_pos (by decide), if_pos (by simp), f2, if_pos (by decide), e1, if_pos (by decide), if_pos (by simp), f1,
    if_pos (by decide), e0, if_pos (by decide), if_pos (by simp), f0, if_neg (by decide)]
  simp [four, shr, IntKind.bits]
theorem rfour_eq (n : Int) (hn : 0 ≤ n ∧ n < 4294967296) : fourinhandref03_Four.f n = some (four n) := by
  unfold fourinhandref03_Four.f four
  have h (m : Int) (hm : 0 < m) : Int.tdiv n m = n / m := Int.tdiv_eq_ediv_of_nonneg hn.1
  have g (m : Int) (hm : 0 ≤ m) : Int.tmod m 256 = m % 256 := Int.tmod_eq_emod_of_nonneg hm
  rw [h _ (by omega), h _ (by omega), h _ (by omega), show wrap64 (n / 16777216) = n / 16777216 by unfold wrap64; omega, show wrap64 (n / 65536) = n / 65536 by unfold wrap64; omega, show wrap64 (n / 256) = n / 256 by unfold wrap64; omega,
    g _ (by omega), g _ (by omega), g _ (by omega), g _ (by omega)]
  simp

/-! ### the reference's sum -/
theorem rsum_l0 (l : List Int) (hb : Byt l) (hn : l.length ≤ 1000000) (d : Nat) : ∀ (k i : Nat) (x y : Int), i ≤ l.length → l.length - i = d → d < k →
    0 < x → x ≤ 1 + 255 * i → 0 ≤ y → y ≤ 65520 * i →
    fourinhandref03_Sum.l0 k l x y (i : Int) = some (sumV (sumS (l.drop i) (x % 65521, y % 65521))) := by
  induction d with
  | zero =>
    intro k i x y hi hd hk hx0 hx1 hy0 hy1
    obtain ⟨k, rfl⟩ : ∃ m, k = m + 1 := ⟨k - 1, by omega⟩
    simp only [fourinhandref03_Sum.l0]
    rw [if_neg (by omega), List.drop_eq_nil_of_le (by omega), Int.tmod_eq_emod_of_nonneg hy0, Int.tmod_eq_emod_of_nonneg (show 0 ≤ x by omega)]
    congr 1
    show _ = y % 65521 * 65536 + x % 65521
    unfold wrap64
    omega
  | succ d ih =>
    intro k i x y hi hd hk hx0 hx1 hy0 hy1
    obtain ⟨k, rfl⟩ : ∃ m, k = m + 1 := ⟨k - 1, by omega⟩
    have h1 : i < l.length := by omega
    have hc := hb l[i] (List.getElem_mem h1)
    simp only [fourinhandref03_Sum.l0]
    rw [if_pos (by omega), if_pos (by omega), rd_get l i h1, show wrap64 l[i] = l[i] by unfold wrap64; omega, show wrap64 (x + l[i]) = x + l[i] by unfold wrap64; omega,
      Int.tmod_eq_emod_of_nonneg (show 0 ≤ x + l[i] by omega), show wrap64 (y + (x + l[i]) % 65521) = y + (x + l[i]) % 65521 by unfold wrap64; omega, w1 i l.length h1 (by omega)]
    rw [ih k (i + 1) _ _ (by omega) (by omega) (by omega) (by omega) (by omega) (by omega) (by omega), List.drop_eq_getElem_cons h1]
    congr 2
    show _ = sumS (l.drop (i + 1)) (stepS _ _)
    unfold stepS
    congr 1
    simp only [Prod.mk.injEq]
    omega
theorem rsum_eq (k : Nat) (l : List Int) (hb : Byt l) (hk : l.length < k) (hn : l.length ≤ 1000000) : fourinhandref03_Sum.f k l = some (summ l) := by
  unfold fourinhandref03_Sum.f summ
  have := rsum_l0 l hb hn l.length k 0 1 0 (by omega) (by omega) (by omega) (by omega) (by omega) (by omega) (by omega)
  simpa using this
def seald (l : List Int) : List Int := four (summ l) ++ l
def opnd (b : List Int) : List Int × Int := if b.length < 4 then ([], 7) else if four (summ (b.drop 4)) = b.take 4 then (b.drop 4, 0) else ([], 8)
theorem seal_eq (k : Nat) (l : List Int) (hk : 5 ≤ k) (hb : Byt l) (hn : l.length ≤ 1000000) : check_Seal.f k l = some (seald l) := by
  unfold check_Seal.f
  rw [csum_one hb, Option.bind_some, told_eq k _ hk (summ_bd l), Option.bind_some, if_pos (by rw [four_len]; omega)]
  rfl
theorem rseal_eq (k : Nat) (l : List Int) (hk : l.length < k) (hb : Byt l) (hn : l.length ≤ 1000000) : fourinhandref03_Seal.f k l = some (seald l) := by
  unfold fourinhandref03_Seal.f
  rw [rsum_eq k l hb hk hn, Option.bind_some, rfour_eq _ (summ_bd l), Option.bind_some, if_pos (by rw [four_len]; omega)]
  rfl
theorem ofNat_inj {a b : Int} (ha : 0 ≤ a ∧ a ≤ 255) (hb : 0 ≤ b ∧ b ≤ 255) (h : UInt8.ofNat a.toNat = UInt8.ofNat b.toNat) : a = b := by
  have := congrArg UInt8.toNat h
  simp only [UInt8.toNat_ofNat'] at this
  omega
theorem map_inj : ∀ (a b : List Int), Byt a → Byt b → (a.map fun n => UInt8.ofNat n.toNat) = (b.map fun n => UInt8.ofNat n.toNat) → a = b
  | [], [], _, _, _ => rfl
  | [], _ :: _, _, _, h => by simp at h
  | _ :: _, [], _, _, h => by simp at h
  | x :: a, y :: b, ha, hb, h => by
    simp only [List.map_cons, List.cons.injEq] at h
    rw [ofNat_inj (ha x (by simp)) (hb y (by simp)) h.1, map_inj a b (fun c hc => ha c (by simp [hc])) (fun c hc => hb c (by simp [hc])) h.2]
theorem toList_data (xs : List Int) : (strOfNums xs).toList = xs.map fun n => UInt8.ofNat n.toNat := by
  rw [← strOfNums_data]
  exact ByteArray.toList_eq _
theorem equal_eq {a b : List Int} (ha : Byt a) (hb : Byt b) : bytes_Equal.f a b = some (decide (a = b)) := by
  unfold bytes_Equal.f
  rw [toList_data, toList_data]
  congr 1
  rw [Bool.eq_iff_iff, beq_iff_eq, decide_eq_true_eq]
  exact ⟨map_inj a b ha hb, fun h => by rw [h]⟩
theorem clone_eq {l : List Int} (hn : l.length ≤ 1000000) : bytes_Clone.f l = some l := by
  unfold bytes_Clone.f
  rw [if_pos (by omega)]
theorem open_eq (k : Nat) (b : List Int) (hk : 5 ≤ k) (hb : Byt b) (hn : b.length ≤ 1000000) : check_Open.f k b = some (opnd b) := by
  unfold check_Open.f opnd
  by_cases h : b.length < 4
  · rw [if_pos (by omega), if_pos h]
  · rw [if_neg (by omega), if_neg h, if_pos (by omega), Option.bind_some, csum_one (byt_drop hb 4), Option.bind_some, told_eq k _ hk (summ_bd _), Option.bind_some, equal_eq (four_byt _) (byt_take hb 4), Option.bind_some]
    by_cases e : four (summ (b.drop 4)) = b.take 4
    · rw [if_pos (decide_eq_true e), if_pos e, clone_eq (by rw [List.length_drop]; omega), Option.bind_some]
    · rw [if_neg (by simpa using e), if_neg e]
theorem ropen_eq (k : Nat) (b : List Int) (hk : b.length + 5 ≤ k) (hb : Byt b) (hn : b.length ≤ 1000000) : fourinhandref03_Open.f k b = some (opnd b) := by
  unfold fourinhandref03_Open.f opnd
  by_cases h : b.length < 4
  · rw [if_pos (by omega), if_pos h]
  · rw [if_neg (by omega), if_neg h, if_pos (by omega), if_pos (by simp only [List.length_nil, List.length_drop]; omega), Option.bind_some, List.nil_append, rsum_eq k _ (byt_drop hb 4) (by rw [List.length_drop]; omega) (by rw [List.length_drop]; omega), Option.bind_some,
      rfour_eq _ (summ_bd _), Option.bind_some, same_eq k _ _ (by rw [four_len]; omega) (by rw [four_len]; omega), Option.bind_some]
    by_cases e : four (summ (b.drop 4)) = b.take 4
    · rw [if_pos (decide_eq_true e), if_pos e]
    · rw [if_neg (by simpa using e), if_neg e]
theorem seald_byt {l : List Int} (h : Byt l) : Byt (seald l) := byt_app (four_byt _) h
theorem seald_len (l : List Int) : (seald l).length = l.length + 4 := by unfold seald; rw [List.length_append, four_len]; omega
theorem seald_drop (l : List Int) : (seald l).drop 4 = l := by unfold seald; exact List.drop_left' (four_len _)
theorem seald_take (l : List Int) : (seald l).take 4 = four (summ l) := by unfold seald; exact List.take_left' (four_len _)
theorem opnd_seald (l : List Int) : opnd (seald l) = (l, 0) := by
  unfold opnd
  rw [if_neg (by rw [seald_len]; omega), seald_drop, seald_take, if_pos rfl]
theorem w64 {n : Int} (h : 0 ≤ n ∧ n < 4294967296) : wrap64 n = n := by unfold wrap64; omega
theorem sum_fst (l : List Int) : ∀ (x y : Int), 0 ≤ x → x < 65521 → (sumS l (x, y)).1 = (x + l.sum) % 65521 := by
  induction l with
  | nil => intro x y h0 h1; simp [sumS]; omega
  | cons c l ih =>
    intro x y h0 h1
    show (sumS l (stepS (x, y) c)).1 = _
    unfold stepS
    rw [ih _ _ (by omega) (by omega), List.sum_cons]
    dsimp only
    omega
theorem sum_set : ∀ (l : List Int) (i : Nat) (v : Int) (h : i < l.length), (l.set i v).sum = l.sum - l[i] + v
  | [], i, v, h => by simp at h
  | c :: l, 0, v, h => by simp; omega
  | c :: l, i + 1, v, h => by
    have := sum_set l i v (by simpa using h)
    simp only [List.set_cons_succ, List.sum_cons, List.getElem_cons_succ, this]
    omega
theorem summ_ne {l : List Int} (i : Nat) (v : Int) (h : i < l.length) (hl : 0 ≤ l[i] ∧ l[i] ≤ 255) (hv : 0 ≤ v ∧ v ≤ 255) (hne : v ≠ l[i]) : summ (l.set i v) ≠ summ l := by
  intro e
  have h1 := (summ_fst l).1
  have h2 := (summ_fst (l.set i v)).1
  rw [e, h1, sum_fst _ _ _ (by omega) (by omega), sum_fst _ _ _ (by omega) (by omega), sum_set l i v h] at h2
  omega
theorem byt_set {l : List Int} (h : Byt l) (i : Nat) {v : Int} (hv : 0 ≤ v ∧ v ≤ 255) : Byt (l.set i v) := by
  intro c hc
  rcases List.mem_or_eq_of_mem_set hc with h' | rfl
  · exact h c h'
  · exact hv
theorem bits_xor_u8_nat (a b : Nat) (ha : a < 256) (hb : b < 256) : bits .xor .u8 (a : Int) (b : Int) = ((a ^^^ b : Nat) : Int) := by
  have hx : a ^^^ b < 2 ^ 8 := Nat.xor_lt_two_pow (by omega) (by omega)
  have h1 : (BitVec.ofInt 8 (a : Int)).toNat = a := by
    rw [BitVec.toNat_ofInt]; omega
  have h2 : (BitVec.ofInt 8 (b : Int)).toNat = b := by
    rw [BitVec.toNat_ofInt]; omega
  show IntKind.u8.wrap ((BitVec.ofInt 8 (a : Int) ^^^ BitVec.ofInt 8 (b : Int)).toNat : Int) = _
  rw [BitVec.toNat_xor, h1, h2, IntKind.wrap_u8]
  omega
theorem xor_byte {x y : Int} (hx : 0 ≤ x ∧ x ≤ 255) (hy : 0 ≤ y ∧ y ≤ 255) : 0 ≤ bits .xor .u8 x y ∧ bits .xor .u8 x y ≤ 255 ∧ (y ≠ 0 → bits .xor .u8 x y ≠ x) := by
  obtain ⟨a, rfl⟩ := Int.eq_ofNat_of_zero_le hx.1
  obtain ⟨b, rfl⟩ := Int.eq_ofNat_of_zero_le hy.1
  rw [bits_xor_u8_nat a b (by omega) (by omega)]
  have hx : a ^^^ b < 2 ^ 8 := Nat.xor_lt_two_pow (by omega) (by omega)
  refine ⟨by omega, by omega, fun hne he => ?_⟩
  have he' : a ^^^ b = a := by omega
  have : a ^^^ (a ^^^ b) = a ^^^ a := by rw [he']
  rw [← Nat.xor_assoc, Nat.xor_self, Nat.zero_xor] at this
  omega
theorem list_set_ne {l : List Int} (i : Nat) (v : Int) (h : i < l.length) (hne : v ≠ l[i]) : l.set i v ≠ l := by
  intro e
  have : (l.set i v)[i]'(by simpa using h) = l[i] := by simp only [e]
  rw [List.getElem_set_self] at this
  exact hne this
theorem opnd_turned {l : List Int} (hb : Byt l) (i : Nat) (v : Int) (h : i < (seald l).length) (hv : 0 ≤ v ∧ v ≤ 255) (hne : v ≠ (seald l)[i]) : opnd ((seald l).set i v) = ([], 8) := by
  unfold opnd
  rw [if_neg (by rw [List.length_set, seald_len]; omega), if_neg]
  intro e
  by_cases c : i < 4
  · rw [List.drop_set_of_lt c, seald_drop] at e
    rw [List.take_set, seald_take] at e
    refine list_set_ne (l := four (summ l)) i v (by rw [four_len]; exact c) ?_ e.symm
    have : (seald l)[i] = (four (summ l))[i]'(by rw [four_len]; exact c) := by
      have e1 : (seald l)[i]? = (four (summ l))[i]? := by unfold seald; rw [List.getElem?_append_left (by rw [four_len]; exact c)]
      rw [List.getElem?_eq_getElem h, List.getElem?_eq_getElem (by rw [four_len]; exact c)] at e1
      exact Option.some.inj e1
    rw [← this]; exact hne
  · rw [List.drop_set, if_neg c, seald_drop, List.take_set_of_le (by omega), seald_take] at e
    have hi : i - 4 < l.length := by rw [seald_len] at h; omega
    have hg : (seald l)[i] = l[i - 4] := by
      have e1 : (seald l)[i]? = l[i - 4]? := by unfold seald; rw [List.getElem?_append_right (by rw [four_len]; omega), four_len]
      rw [List.getElem?_eq_getElem h, List.getElem?_eq_getElem hi] at e1
      exact Option.some.inj e1
    have := four_inj (summ_bd _) (summ_bd _) e
    exact summ_ne (i - 4) v hi (hb _ (List.getElem_mem hi)) hv (by rw [← hg]; exact hne) this

theorem u8_bd {a : Int} (h : (Lit.int .u8 a).wf = true) : 0 ≤ a ∧ a ≤ 255 := by
  simp [Lit.wf, IntKind.min, IntKind.max, IntKind.signed, IntKind.bits] at h
  omega
end Go.Proofs.Ytbogmogimoleaaa.Plain7
