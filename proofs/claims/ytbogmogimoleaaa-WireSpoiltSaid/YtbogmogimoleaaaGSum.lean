/- The walk of check.Sum: what it tells, as a plain function. -/
import Derived.Test.YtbogmogimoleaaaProg
import Derived.Test.YtbogmogimoleaaaWWords
import Derived.Test.YtbogmogimoleaaaWMore
import Derived.WalkKit
import Derived.LoopTactic
import Derived.Outline
import Derived.Laws.Rows
import Derived.Laws.NewBlocks
import Derived.Laws.BitsLemmas
import Derived.WalkLawsBesides
namespace Go.Proofs.Ytbogmogimoleaaa.Given
open Go.RowKit Go.Proofs.YtbogmogimoleaaaW.PrintWords Go.Proofs.YtbogmogimoleaaaW.PrintLast Go.Proofs.YtbogmogimoleaaaW.PrintMore
set_option linter.unusedVariables false
set_option linter.unusedSimpArgs false

def stepS (s : Int × Int) (c : Int) : Int × Int := ((s.1 + c) % 65521, (s.2 + (s.1 + c) % 65521) % 65521)
def sumS (l : List Int) (s : Int × Int) : Int × Int := l.foldl stepS s
def okB (l : List Int) : Bool := l.all fun c => decide (0 ≤ c) && decide (c ≤ 255)
def sumV (s : Int × Int) : Int := s.2 * 65536 + s.1
def check_Sum.f (l0 : List (List Int)) : Option Int := if l0.all okB = true then some (sumV (sumS l0.flatten (1, 0))) else none
theorem ret_int {k : IntKind} {a b : Int} (h : a = b) : Ending.returned (.int k a) = .returned (.int k b) := by rw [h]
theorem u32_or16 {y x : Int} (hy₀ : 0 ≤ y) (hy₁ : y < 65536) (h₀ : 0 ≤ x) (h₁ : x < 65536) : bits .or .u32 (y * 65536) x = y * 65536 + x :=
  bits_join .u32 32 (by decide) (fun n h₀ h₁ => by rw [IntKind.wrap_u32]; omega) 16 (y * 65536) x (by omega) (by omega) (by omega) h₀ h₁ (by omega)
theorem sumS_bd (l : List Int) (s : Int × Int) (h : 0 ≤ s.1 ∧ s.1 < 65521 ∧ 0 ≤ s.2 ∧ s.2 < 65521) : 0 ≤ (sumS l s).1 ∧ (sumS l s).1 < 65521 ∧ 0 ≤ (sumS l s).2 ∧ (sumS l s).2 < 65521 := by
  induction l generalizing s with
  | nil => exact h
  | cons c l ih => exact ih _ (by unfold stepS; dsimp only; omega)
theorem sumS_append (l l' : List Int) (s : Int × Int) : sumS (l ++ l') s = sumS l' (sumS l s) := List.foldl_append
theorem take_snoc {α : Type} (l : List α) (k : Nat) (h : k < l.length) : l.take (k + 1) = l.take k ++ [l[k]] := by
  rw [List.take_succ_eq_append_getElem h]
def rd_L (xs : List (List Int)) (i : Int) : (List Int) := xs.getD i.toNat ([] : List Int)
theorem at_L {w : World} {A : Option Addr} {n : Nat} {xs : List (List Int)} (h : Kd.C (Kd.slice 5 (Kd.int .u8)) w A n xs) (i : Int) (h0 : 0 ≤ i) (h1 : i < n) : ∃ ad A0 c0, A = some ad ∧ w.cell? (ad.add i.toNat) = some (.slice A0 (rd_L xs i).length c0) ∧ (rd_L xs i).length ≤ c0 ∧ (Kd.int .u8).C w A0 (rd_L xs i).length (rd_L xs i) := by
  obtain ⟨ad, c, e, _, hK, hc0⟩ := Kd.C_get h ([] : List Int) i h0 h1
  have hc : ∀ j u, c[j]? = some u → w.cell? (ad.add (i.toNat * 1 + j)) = some u := hc0
  obtain ⟨A0, c0, rfl, l0, g0⟩ := hK
  exact ⟨ad, A0, c0, e, by have hq := hc 0 _ rfl; rwa [Nat.mul_one, Nat.add_zero] at hq, l0, g0⟩

set_option maxHeartbeats 8000000 in
set_option maxRecDepth 100000 in
theorem check_Sum.calls (A0 : Option Addr) (c0 : Nat) (l0 : List (List Int)) (r : Int) (w : World) (hr0 : Kd.C (Kd.slice 5 (Kd.int .u8)) w A0 l0.length l0) (hc0 : l0.length ≤ c0) (h : check_Sum.f l0 = some r) :
    Calls Try.prog 21 #[.slice A0 l0.length c0] w fun e w' => e = .returned (.int .u32 r) ∧ Below w.heap.size w w' := by
  unfold check_Sum.f at h
  split at h
  · rename_i hok
    have HR0 := Aside0.mk hr0
    have HC0 := Aside0.mk hc0
    have HOK := Aside0.mk hok
    have HRr := Aside0.mk h
    clear h hr0 hc0 hok
    have hlen : l0.length ≤ 9223372036854775807 := HR0.out.2.1
    go_enter Try.func21, Try.ntmps21
    go_wp2
    go_loopw [11] (fun v11 wr => ∃ k : Nat, k ≤ l0.length ∧ v11 = .int .i64 k ∧ ∃ x y : Int, wr = w.alloc (.cells #[.int .u32 x, .int .u32 y] 51) ∧ Aside0 ((x, y) = sumS (l0.take k).flatten (1, 0))) (fun v11 _ => l0.length - (intOf v11).toNat)
    case atStart => exact ⟨0, Nat.zero_le _, rfl, 1, 0, rfl, ⟨rfl⟩⟩
    case round =>
      obtain ⟨k, hk, rfl, x, y, rfl, hxy⟩ := hrel
      obtain ⟨b1, b2, b3, b4⟩ : 0 ≤ x ∧ x < 65521 ∧ 0 ≤ y ∧ y < 65521 := by
        have := sumS_bd (l0.take k).flatten (1, 0) (by omega)
        rw [← hxy.out] at this
        exact this
      by_cases hlt : k < l0.length
      · obtain ⟨ad, A1, c1, e, hx, hl1, hi1⟩ := at_L HR0.out (k : Int) (by omega) (by omega)
        cases e
        rw [Int.toNat_natCast] at hx
        have hB : ∀ u v : Int, Below w.heap.size w (w.alloc (.cells #[.int .u32 u, .int .u32 v] 51)) := fun u v => (Below.refl _ _).alloc (Nat.le_refl _) _
        have hx' := ((hB x y).cell (World.block_lt_of_cell? w _ hx)).trans hx
        have HI1 := Aside0.mk hi1
        have HL1 := Aside0.mk hl1
        have hp : rd_L l0 (k : Int) = l0[k] := by unfold rd_L; simp [List.getD_eq_getElem?_getD, hlt]
        have hlen1 : (rd_L l0 (k : Int)).length ≤ 9223372036854775807 := HI1.out.2.1
        have HP := Aside0.mk hp
        clear hi1 hl1 hp
        generalize rd_L l0 (k : Int) = p at *
        go_wp2
        obtain ⟨wo, hwo⟩ : ∃ wo : World, wo = w := ⟨_, rfl⟩
        go_loopw [17] (fun v17 wr => ∃ j : Nat, j ≤ p.length ∧ v17 = .int .i64 j ∧ ∃ x' y' : Int, wr = w.alloc (.cells #[.int .u32 x', .int .u32 y'] 51) ∧ Aside0 ((x', y') = sumS (p.take j) (x, y))) (fun v17 _ => p.length - (intOf v17).toNat)
        case atStart => exact ⟨0, Nat.zero_le _, rfl, x, y, rfl, ⟨rfl⟩⟩
        case round =>
          obtain ⟨j, hj, rfl, x', y', rfl, hxy'⟩ := hrel
          obtain ⟨d1, d2, d3, d4⟩ : 0 ≤ x' ∧ x' < 65521 ∧ 0 ≤ y' ∧ y' < 65521 := by
            have := sumS_bd (p.take j) (x, y) ⟨b1, b2, b3, b4⟩
            rw [← hxy'.out] at this
            exact this
          by_cases hjt : j < p.length
          · obtain ⟨ad1, e1, hz⟩ := Kd.at_int HI1.out (j : Int) (by omega) (by omega)
            cases e1
            rw [Int.toNat_natCast] at hz
            have hz' := ((hB x' y').cell (World.block_lt_of_cell? w _ hz)).trans hz
            have hrd : rd p (j : Int) = p[j] := by unfold rd; simp [List.getD_eq_getElem?_getD, hjt]
            have hcb : 0 ≤ rd p (j : Int) ∧ rd p (j : Int) ≤ 255 := by
              have hall := List.all_eq_true.mp HOK.out p (by rw [HP.out]; exact List.getElem_mem hlt)
              have := List.all_eq_true.mp hall p[j] (List.getElem_mem hjt)
              simp only [Bool.and_eq_true, decide_eq_true_eq] at this
              rw [hrd]; exact this
            obtain ⟨hc1, hc2⟩ := hcb
            have HRD := Aside0.mk hrd
            clear hrd hz
            generalize rd p (j : Int) = c at *
            go_wp2
            go_roundw
            case rel =>
              refine ⟨j + 1, by omega, by go_num, _, _, rfl, ⟨?_⟩⟩
              rw [take_snoc p j hjt, sumS_append, ← hxy'.out]
              show _ = stepS (x', y') p[j]
              rw [← HRD.out]
              unfold stepS
              simp only [Prod.mk.injEq, true_and]
              omega
            case measure => simp [intOf]; omega
          · go_wp2
            go_roundw
            case rel =>
              refine ⟨k + 1, by omega, by go_num, _, _, rfl, ⟨?_⟩⟩
              have hj' : j = p.length := by omega
              rw [take_snoc l0 k hlt, List.flatten_append, sumS_append, ← hxy.out, hxy'.out, hj', List.take_length, HP.out]
              simp
            case measure => simp [intOf]; omega
      · have HLT := Aside0.mk hlt
        go_wp2
        go_ret
        refine ⟨ret_int ?_, (Below.refl _ _).alloc (Nat.le_refl _) _⟩
        have hk' : k = l0.length := by omega
        have hs := hxy.out
        rw [hk', List.take_length] at hs
        have hr := Option.some.inj HRr.out
        rw [← hs] at hr
        rw [← hr]
        exact u32_or16 b3 (by omega) b1 (by omega)
  · cases h
end Go.Proofs.Ytbogmogimoleaaa.Given
