/- What is got is put as the same bytes: plain laws. -/
import Derived.Test.YtbogmogimoleaaaHPlainE
namespace Go.Proofs.Ytbogmogimoleaaa.Given
open Go.RowKit Go.Proofs.YtbogmogimoleaaaW.PrintWords Go.Proofs.YtbogmogimoleaaaW.PrintLast Go.Proofs.YtbogmogimoleaaaW.PrintMore Go.Proofs.Ytbogmogimoleaaa.W Go.Proofs.Ytbogmogimoleaaa.Plain7
set_option linter.unusedVariables false
set_option linter.unusedSimpArgs false
theorem be_numB (t : List Int) (hb : Byt t) (h1 : 1 ≤ t.length) (h4 : t.length ≤ 4) : be t.length (numB t) = t := by
  match t, h1, h4 with
  | [a], _, _ =>
    have ha := hb a (by simp)
    show be 1 _ = _
    rw [be1]; simp only [numB, List.foldl_cons, List.foldl_nil]
    congr 1; omega
  | [a, b], _, _ =>
    have ha := hb a (by simp); have hb' := hb b (by simp)
    show be 2 _ = _
    rw [be2]; simp only [numB, List.foldl_cons, List.foldl_nil]
    congr 1
    · omega
    · congr 1; omega
  | [a, b, c], _, _ =>
    have ha := hb a (by simp); have hb' := hb b (by simp); have hc := hb c (by simp)
    show be 3 _ = _
    rw [be3]; simp only [four, List.drop_succ_cons, List.drop_zero, numB, List.foldl_cons, List.foldl_nil]
    congr 1
    · omega
    · congr 1
      · omega
      · congr 1; omega
  | [a, b, c, d], _, _ =>
    have ha := hb a (by simp); have hb' := hb b (by simp); have hc := hb c (by simp); have hd := hb d (by simp)
    show be 4 _ = _
    rw [be4]; simp only [four, numB, List.foldl_cons, List.foldl_nil]
    congr 1
    · omega
    · congr 1
      · omega
      · congr 1
        · omega
        · congr 1; omega
theorem be_num (b : List Int) (hb : Byt b) (k sz : Nat) (h1 : 1 ≤ sz) (h4 : sz ≤ 4) (hk : k + sz ≤ b.length) : be sz (num b k sz) ++ b.drop (k + sz) = b.drop k := by
  have hl : ((b.drop k).take sz).length = sz := by rw [List.length_take, List.length_drop]; omega
  have h := be_numB ((b.drop k).take sz) (byt_take (byt_drop hb k) sz) (by omega) (by omega)
  rw [hl] at h
  unfold num
  rw [h, ← List.drop_drop, List.take_append_drop]
theorem sk_put (b : List Int) (hb : Byt b) (m : Nat) : ∀ j, j ≤ m → 32 + 8 * m ≤ b.length → skB (sacksB b j) ++ b.drop (32 + 8 * j) = b.drop 32 := by
  intro j
  induction j with
  | zero => intro _ _; simp [sacksB, skB]
  | succ j ih =>
    intro hj hm
    have h := ih (by omega) hm
    have e : skB (sacksB b (j + 1)) = skB (sacksB b j) ++ (be 4 (num b (32 + 8 * j) 4) ++ be 4 (num b (32 + 8 * j + 4) 4)) := by
      rw [sacksB_step]
      unfold skB
      rw [List.flatMap_append]
      simp
    have h2 := be_num b hb (32 + 8 * j) 4 (by decide) (by decide) (by omega)
    have h3 := be_num b hb (32 + 8 * j + 4) 4 (by decide) (by decide) (by omega)
    rw [e, List.append_assoc, List.append_assoc, show 32 + 8 * (j + 1) = 32 + 8 * j + 4 + 4 by omega, h3, h2, h]
theorem put_seg (b : List Int) (hb : Byt b) (hen : enoughB b = true) (hm : mayB (segOf b) = true) : outB (segOf b) = b := by
  have hlen : 32 + 8 * (num b 31 1).toNat ≤ b.length := of_decide_eq_true hen
  have hp := may_parts (a0 := (segOf b).a0) (a1 := (segOf b).a1) (a2 := (segOf b).a2) (a3 := (segOf b).a3) (a4 := (segOf b).a4) (a5 := (segOf b).a5) (a6 := (segOf b).a6) (a7 := (segOf b).a7) (a8 := (segOf b).a8) (a9 := (segOf b).a9) (a10 := (segOf b).a10) (a11 := (segOf b).a11) (a12 := (segOf b).a12) (l13 := (segOf b).l13) (l14 := (segOf b).l14) hm
  obtain ⟨m0, m1, m2, m3, m4, m5, m6, m7, m8, m9, m10⟩ := hp
  obtain ⟨k0, k1⟩ := num_bd b hb 1 1 (by decide)
  obtain ⟨l0, l1⟩ := num_bd b hb 0 1 (by decide)
  obtain ⟨c0, c1⟩ := num_bd b hb 31 1 (by decide)
  have hfl : flB (segOf b).a2 (segOf b).a3 (segOf b).a9 = num b 1 1 := by
    have ha := and_eq k0 (by omega)
    unfold segOf flB
    simp only
    rw [ha.1, ha.2]
    by_cases h1 : num b 1 1 % 2 = 1 <;> by_cases h2 : num b 1 1 / 2 % 2 = 1 <;> simp [h1, h2] <;> omega
  have h0 : (segOf b).a0 * 16 + (segOf b).a1 = num b 0 1 := by
    show num b 0 1 / 16 * 16 + num b 0 1 % 16 = num b 0 1
    omega
  have hmany : (((segOf b).l13.length : Nat) : Int) = num b 31 1 := by
    show (((sacksB b (num b 31 1).toNat).length : Nat) : Int) = num b 31 1
    rw [sacksB_len]; omega
  have e := fun k sz (h1 : 1 ≤ sz) (h4 : sz ≤ 4) (h : k + sz ≤ 32) => be_num b hb k sz h1 h4 (by omega)
  rw [out_eq, hfl, h0, hmany]
  show be 1 (num b 0 1) ++ be 1 (num b 1 1) ++ be 2 (num b 2 2) ++ be 4 (num b 4 4) ++ be 4 (num b 8 4) ++ be 4 (num b 12 4) ++ be 4 (num b 16 4) ++ be 3 (num b 20 3) ++ be 4 (num b 23 4) ++ be 4 (num b 27 4) ++ be 1 (num b 31 1) ++ skB (sacksB b (num b 31 1).toNat) ++ b.drop (32 + 8 * (num b 31 1).toNat) = b
  simp only [List.append_assoc]
  rw [sk_put b hb (num b 31 1).toNat _ (Nat.le_refl _) hlen]
  have e31 := e 31 1 (by decide) (by decide) (by decide)
  have e27 := e 27 4 (by decide) (by decide) (by decide)
  have e23 := e 23 4 (by decide) (by decide) (by decide)
  have e20 := e 20 3 (by decide) (by decide) (by decide)
  have e16 := e 16 4 (by decide) (by decide) (by decide)
  have e12 := e 12 4 (by decide) (by decide) (by decide)
  have e8 := e 8 4 (by decide) (by decide) (by decide)
  have e4 := e 4 4 (by decide) (by decide) (by decide)
  have e2 := e 2 2 (by decide) (by decide) (by decide)
  have e1 := e 1 1 (by decide) (by decide) (by decide)
  have e0 := e 0 1 (by decide) (by decide) (by decide)
  simp only [Nat.reduceAdd, List.drop_zero] at e31 e27 e23 e20 e16 e12 e8 e4 e2 e1 e0
  rw [e31, e27, e23, e20, e16, e12, e8, e4, e2, e1, e0]
theorem seg_ok (b : List Int) (hb : Byt b) : okS (segOf b) := by
  have u := fun k sz (h : sz ≤ 4) => num_bd4 b hb k sz h
  refine ⟨u 4 4 (by decide), u 8 4 (by decide), u 12 4 (by decide), u 16 4 (by decide), u 20 3 (by decide), u 23 4 (by decide), u 27 4 (by decide), ?_, byt_drop hb _⟩
  intro p hp
  have hp' : p ∈ sacksB b (num b 31 1).toNat := hp
  unfold sacksB at hp'
  rw [List.mem_map] at hp'
  obtain ⟨i, _, rfl⟩ := hp'
  exact ⟨u _ 4 (by decide), u _ 4 (by decide)⟩
/-- What Put puts. -/
def putB (s : Sg) : List Int × Int := if mayB s = true then (seald (outB s), 0) else ([], 1)
theorem get_seal (b : List Int) (hb : Byt b) (x : Sg) (e : Int) (hg : getB (seald b) = (x, e)) : okS x ∧ (e = 0 → mayB x = true ∧ putB x = (seald b, 0)) ∧ (e ≠ 0 → e = 7) := by
  unfold getB at hg
  rw [opnd_seald] at hg
  simp only at hg
  rw [if_pos trivial] at hg
  by_cases h : (enoughB b && mayB (segOf b)) = true
  · rw [if_pos h] at hg
    obtain ⟨h1, h2⟩ := Prod.mk.inj hg
    subst h1 h2
    rw [Bool.and_eq_true] at h
    refine ⟨seg_ok b hb, fun _ => ⟨h.2, ?_⟩, fun h => absurd rfl h⟩
    unfold putB
    rw [if_pos h.2, put_seg b hb h.1 h.2]
  · rw [if_neg h] at hg
    obtain ⟨h1, h2⟩ := Prod.mk.inj hg
    subst h1 h2
    refine ⟨⟨?_, ?_, ?_, ?_, ?_, ?_, ?_, ?_, ?_⟩, ⟨fun h => absurd h (by decide), fun _ => rfl⟩⟩
    all_goals first | exact ⟨by decide, by decide⟩ | (intro p hp; cases hp)
end Go.Proofs.Ytbogmogimoleaaa.Given
