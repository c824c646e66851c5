/- The walk of reader.number: the number of the first bytes, and the reader is behind them. -/
import Derived.Test.YtbogmogimoleaaaHNum
import Derived.Test.YtbogmogimoleaaaGSum
namespace Go.Proofs.Ytbogmogimoleaaa.Given
open Go.RowKit Go.Proofs.YtbogmogimoleaaaW.PrintWords Go.Proofs.YtbogmogimoleaaaW.PrintLast Go.Proofs.YtbogmogimoleaaaW.PrintMore Go.Proofs.Ytbogmogimoleaaa.W
set_option linter.unusedVariables false
set_option linter.unusedSimpArgs false
def numB (l : List Int) : Int := l.foldl (fun n c => n * 256 + c) 0
theorem numB_snoc (l : List Int) (c : Int) : numB (l ++ [c]) = numB l * 256 + c := by unfold numB; rw [List.foldl_append]; rfl
theorem i64_or8 {x c : Int} (hx : 0 ≤ x) (hx1 : x < 1099511627776) (h0 : 0 ≤ c) (h1 : c < 256) : bits .or .i64 (x * 256) c = x * 256 + c :=
  bits_join .i64 49 (by decide) (fun n h₀ h₁ => by rw [IntKind.wrap_i64]; omega) 8 (x * 256) c (by omega) (by omega) (by omega) h0 h1 (by omega)
theorem numB_bd (l : List Int) (h : okB l = true) : ∀ j, j ≤ 4 → 0 ≤ numB (l.take j) ∧ numB (l.take j) < 256 ^ j := by
  intro j
  induction j with
  | zero => intro _; simp [numB]
  | succ j ih =>
    intro hj
    obtain ⟨h1, h2⟩ := ih (by omega)
    by_cases hl : j < l.length
    · have hc := List.all_eq_true.mp h l[j] (List.getElem_mem hl)
      simp only [Bool.and_eq_true, decide_eq_true_eq] at hc
      rw [take_snoc l j hl, numB_snoc]
      have e : (256 : Int) ^ (j + 1) = 256 ^ j * 256 := Int.pow_succ 256 j
      rw [e]
      omega
    · rw [List.take_of_length_le (by omega)]
      rw [List.take_of_length_le (by omega)] at h1 h2
      have e : (256 : Int) ^ (j + 1) = 256 ^ j * 256 := Int.pow_succ 256 j
      rw [e]
      omega
set_option maxHeartbeats 4000000 in
set_option maxRecDepth 100000 in
theorem number_ok (g c : Nat) (A : Option Addr) (bs : List Int) (size : Nat) (w : World) (hB : Kd.C (Kd.int .u8) w A bs.length bs) (hbc : bs.length ≤ c) (hok : okB bs = true) (h1 : 1 ≤ size) (h4 : size ≤ 4) (hsz : size ≤ bs.length)
    (hc : w.cell? ⟨g, 0, none⟩ = some (.slice A bs.length c)) (hf : w.frozen? ⟨g, 0, none⟩ = false) :
    Calls Try.prog 44 #[.pointer (some ⟨g, 0, none⟩), .int .i64 (size : Int)] w fun e w' => e = .returned (.int .i64 (numB (bs.take size))) ∧ w' = w.setCell ⟨g, 0, none⟩ (.slice (if c = size then A else A.map (·.add size)) (bs.length - size) (c - size)) := by
  have hd : decide ((bs.length : Int) < (size : Int)) = false := decide_eq_false (by omega)
  obtain ⟨i0, hi0, _, hsz0, _⟩ := info_parts info5
  have hcut1 := cut_to (P := Try.prog) 67 5 .i64 Try.underlying67 hi0 A bs.length c (size : Int) (by omega) (by omega) hbc
  have hcut2 := cut_from (P := Try.prog) 67 5 .i64 Try.underlying67 hi0 1 hsz0 A bs.length c (size : Int) (by omega) (by omega)
  rw [Int.toNat_natCast] at hcut1 hcut2
  rw [Nat.mul_one] at hcut2
  obtain ⟨A2, hA2⟩ : ∃ A2, A2 = (if c = size then A else A.map (·.add size)) := ⟨_, rfl⟩
  rw [← hA2] at hcut2
  rw [← hA2]
  have HB := Aside0.mk hB
  have HOK := Aside0.mk hok
  have hlen := hB.2.1
  clear hB hA2 hsz0 hi0 hok
  go_enter Try.func44, Try.ntmps44
  go_wp2
  go_loopw [5, 22] (fun v5 v22 wr => ∃ j : Nat, j ≤ size ∧ v5 = .int .i64 (numB (bs.take j)) ∧ v22 = .int .i64 j ∧ wr = w) (fun _ v22 _ => size - (intOf v22).toNat)
  case atStart => exact ⟨0, Nat.zero_le _, rfl, rfl, rfl⟩
  case round =>
    obtain ⟨j, hj, rfl, rfl, rfl⟩ := hrel
    by_cases hjt : j < size
    · obtain ⟨ad, e, hz⟩ := Kd.at_int HB.out (j : Int) (by omega) (by omega)
      cases e
      rw [Int.toNat_natCast] at hz
      have hjl : j < bs.length := by omega
      have hrd : rd bs (j : Int) = bs[j] := by unfold rd; simp [List.getD_eq_getElem?_getD, hjl]
      have hcb := List.all_eq_true.mp HOK.out bs[j] (List.getElem_mem hjl)
      simp only [Bool.and_eq_true, decide_eq_true_eq] at hcb
      rw [← hrd] at hcb
      obtain ⟨hc1, hc2⟩ := hcb
      obtain ⟨d1, d2⟩ := numB_bd bs HOK.out j (by omega)
      have hsn : numB (bs.take (j + 1)) = numB (bs.take j) * 256 + rd bs (j : Int) := by rw [take_snoc bs j hjl, numB_snoc, hrd]
      have d3 : numB (bs.take j) < 16777216 := by
        have hj3 : j = 0 ∨ j = 1 ∨ j = 2 ∨ j = 3 := by omega
        have hpw : (256 : Int) ^ j ≤ 16777216 := by rcases hj3 with h | h | h | h <;> (rw [h]; decide)
        omega
      have hor := i64_or8 d1 (by omega) hc1 (by omega)
      have HS := Aside0.mk hsn
      clear hsn hrd d2
      generalize rd bs (j : Int) = q at *
      generalize numB (bs.take j) = m at *
      go_wp2
      exact ⟨⟨j + 1, by omega, by rw [HS.out], rfl, trivial⟩, by simp [intOf]; omega⟩
    · obtain rfl : j = size := by omega
      go_wp2
      go_ret
      exact ⟨rfl, rfl⟩
end Go.Proofs.Ytbogmogimoleaaa.Given
