/- The document's number, and bytes' bits, as plain laws; the contract of number in plain words. -/
import Derived.Test.YtbogmogimoleaaaHSput
namespace Go.Proofs.Ytbogmogimoleaaa.Given
open Go.RowKit Go.Proofs.YtbogmogimoleaaaW.PrintWords Go.Proofs.YtbogmogimoleaaaW.PrintLast Go.Proofs.YtbogmogimoleaaaW.PrintMore Go.Proofs.Ytbogmogimoleaaa.W Go.Proofs.Ytbogmogimoleaaa.Plain7
set_option linter.unusedVariables false
set_option linter.unusedSimpArgs false
theorem num_step (l : List Int) (a i : Nat) (h : a + i < l.length) : num l a (i + 1) = num l a i * 256 + l[a + i] := by
  unfold num
  have hl : i < (l.drop a).length := by rw [List.length_drop]; omega
  rw [take_snoc (l.drop a) i hl, numB_snoc, List.getElem_drop]
theorem num_bd (l : List Int) (hb : Byt l) (a i : Nat) (hi : i ≤ 4) : 0 ≤ num l a i ∧ num l a i < 256 ^ i := numB_bd (l.drop a) (byt_ok (byt_drop hb a)) i hi
theorem num_bd4 (l : List Int) (hb : Byt l) (a i : Nat) (hi : i ≤ 4) : 0 ≤ num l a i ∧ num l a i < 4294967296 := by
  obtain ⟨h0, h1⟩ := num_bd l hb a i hi
  have h : i = 0 ∨ i = 1 ∨ i = 2 ∨ i = 3 ∨ i = 4 := by omega
  refine ⟨h0, ?_⟩
  rcases h with rfl | rfl | rfl | rfl | rfl <;> omega
theorem num_one (l : List Int) (a : Nat) (h : a < l.length) : num l a 1 = l[a] := by
  rw [num_step l a 0 (by omega)]
  simp [num, numB]
theorem number_l0 (l : List Int) (hb : Byt l) (hn : l.length ≤ 1000000) (a n : Nat) (hn4 : n ≤ 4) (han : a + n ≤ l.length) (d : Nat) : ∀ (k i : Nat), i ≤ n → n - i = d → d < k →
    fourinhandref07_number.l0 k l (a : Int) (n : Int) (num l a i) (i : Int) = some (num l a n) := by
  induction d with
  | zero =>
    intro k i hi hd hk
    obtain ⟨k, rfl⟩ : ∃ m, k = m + 1 := ⟨k - 1, by omega⟩
    obtain rfl : i = n := by omega
    simp only [fourinhandref07_number.l0]
    rw [if_neg (by omega)]
  | succ d ih =>
    intro k i hi hd hk
    obtain ⟨k, rfl⟩ : ∃ m, k = m + 1 := ⟨k - 1, by omega⟩
    simp only [fourinhandref07_number.l0]
    have hai : wrap64 ((a : Int) + (i : Int)) = ((a + i : Nat) : Int) := by unfold wrap64; omega
    have hx : a + i < l.length := by omega
    have hbd := hb l[a + i] (List.getElem_mem hx)
    obtain ⟨b0, b1⟩ := num_bd4 l hb a i (by omega)
    rw [if_pos (by omega), hai, if_pos (by omega), if_pos (by omega), rd_get l (a + i) hx]
    have e1 : wrap64 (wrap64 (256 * num l a i) + wrap64 l[a + i]) = num l a (i + 1) := by
      rw [num_step l a i hx]
      unfold wrap64
      omega
    rw [e1, w1 i n (by omega) (by omega)]
    exact ih k (i + 1) (by omega) (by omega) (by omega)
theorem number_eq (k : Nat) (l : List Int) (hb : Byt l) (hn : l.length ≤ 1000000) (a n : Nat) (hn4 : n ≤ 4) (han : a + n ≤ l.length) (hk : 5 ≤ k) : fourinhandref07_number.f k l (a : Int) (n : Int) = some (num l a n) := by
  unfold fourinhandref07_number.f
  have h := number_l0 l hb hn a n hn4 han n k 0 (by omega) (by omega) (by omega)
  have e : num l a 0 = 0 := by simp [num, numB]
  rw [e] at h
  exact h
theorem k_number {l : List Int} (hb : Byt l) (hn : l.length ≤ 1000000) (a n : Nat) (x y q : Int) (hx : (a : Int) = x) (hy : (n : Int) = y) (hq : q = num l a n) (hn4 : n ≤ 4) (han : a + n ≤ l.length) {A : Option Addr} {c : Nat} {w : World} (h : By w A c l) :
    Calls Try.prog 41 #[.slice A l.length c, .int .i64 x, .int .i64 y] w fun e w' => e = .returned (.int .i64 q) ∧ ∃ m, w' = w.drewN m := by
  subst hx hy hq
  exact (fourinhandref07_number.calls 5 A c l a n _ w h.1 h.2 (number_eq 5 l hb hn a n hn4 han (by omega))).mono fun e w' ⟨h1, h2⟩ => ⟨h1, h2.out⟩
theorem and_all : (List.range 256).all (fun n => ((bits .and .i64 (n : Int) 1 != 0) == ((n : Int) % 2 == 1)) && ((bits .and .i64 (n : Int) 2 != 0) == ((n : Int) / 2 % 2 == 1))) = true := by decide +kernel
theorem and_eq {q : Int} (h0 : 0 ≤ q) (h1 : q < 256) : (bits .and .i64 q 1 != 0) = (q % 2 == 1) ∧ (bits .and .i64 q 2 != 0) = (q / 2 % 2 == 1) := by
  obtain ⟨n, rfl⟩ : ∃ n : Nat, q = n := ⟨q.toNat, by omega⟩
  have h := List.all_eq_true.mp and_all n (List.mem_range.mpr (by omega))
  simp only [Bool.and_eq_true, beq_iff_eq] at h
  exact h
end Go.Proofs.Ytbogmogimoleaaa.Given
