/- The walk of slices.Max at ints, of a list that holds something. -/
import Derived.Test.YtefpdneokkcmpaaSx0
import Derived.WalkSpells
import Derived.LoopTactic
namespace Go.Proofs.Ytefpdneokkcmpaa.Given
open Go.RowKit Go.Proofs.YtefpdneokkcmpaaW.PrintWords Go.Proofs.YtefpdneokkcmpaaW.PrintLast Go.Proofs.YtefpdneokkcmpaaW.PrintMore Go.Proofs.Ytefpdneokkcmpaa.S
attribute [local go_sem] max2_int min2_int max_two min_two max_three min_three max_four min_four
set_option linter.unusedVariables false
set_option linter.unusedSimpArgs false
def maxL : List Int → Int
  | [] => 0
  | x :: t => t.foldl (fun m y => if m < y then y else m) x
theorem maxL_take (l : List Int) (k : Nat) (h0 : 0 < k) (h : k < l.length) : maxL (l.take (k + 1)) = (if maxL (l.take k) < l[k] then l[k] else maxL (l.take k)) := by
  cases l with
  | nil => simp at h
  | cons x t =>
    obtain ⟨k, rfl⟩ : ∃ j, k = j + 1 := ⟨k - 1, by omega⟩
    simp only [List.length_cons] at h
    rw [List.take_succ_cons, List.take_succ_cons]
    show (t.take (k + 1)).foldl (fun m y => if m < y then y else m) x = (if (t.take k).foldl (fun m y => if m < y then y else m) x < t[k] then t[k] else (t.take k).foldl (fun m y => if m < y then y else m) x)
    rw [List.take_succ_eq_append_getElem (by omega), List.foldl_append]
    rfl
def slices_Max_int_int.f (l0 : List Int) : Option Int := if 0 < l0.length then some (maxL l0) else none
set_option maxHeartbeats 4000000 in
set_option maxRecDepth 100000 in
theorem slices_Max_int_int.calls (A0 : Option Addr) (c0 : Nat) (l0 : List Int) (r : Int) (w : World) (hr0 : Kd.C (Kd.int .i64) w A0 l0.length l0) (hc0 : l0.length ≤ c0) (h : slices_Max_int_int.f l0 = some r) :
    Calls Try.prog 19 #[.slice A0 l0.length c0] w fun e w' => e = .returned (.int .i64 r) ∧ Drawn0 w w' := by
  unfold slices_Max_int_int.f at h
  split at h
  · rename_i hpos
    obtain rfl := Option.some.inj h
    clear h
    have hlen : l0.length ≤ 9223372036854775807 := hr0.2.1
    obtain ⟨ad, rfl, hp0⟩ := Kd.at_int hr0 0 (by omega) (by omega)
    have h00 : Aside0 (rd l0 0 = maxL (l0.take 1)) := ⟨by
      cases l0 with
      | nil => simp at hpos
      | cons x t => rfl⟩
    rw [show (0 : Int).toNat = 0 from rfl, show ad.add 0 = ad by simp [Addr.add]] at hp0
    generalize rd l0 0 = x0 at *
    have hn1 : decide ((l0.length : Int) < 1) = false := decide_eq_false (by omega)
    have HR := Aside0.mk hr0
    clear hr0
    go_enter Try.func19, Try.ntmps19
    go_wp2
    go_loopg [3, 4] l0.length (fun gg s3 s4 wr => ∃ (kk nd : Nat) (m : Int), 0 < kk ∧ kk ≤ l0.length ∧ l0.length - kk ≤ gg ∧ s3 = .int .i64 m ∧ s4 = .int .i64 kk ∧ wr = w.drewN nd ∧ Aside0 (m = maxL (l0.take kk)))
    case atStart => exact ⟨1, 0, x0, by omega, by omega, by omega, rfl, rfl, rfl, h00⟩
    case round =>
      obtain ⟨kk, nd, m, hk0, hkk, hg, rfl, rfl, rfl, HA⟩ := hrel
      by_cases hlt : kk < l0.length
      · have hltz : (kk : Int) < (l0.length : Int) := by omega
        obtain ⟨ad2, e2, hp⟩ := Kd.at_int HR.out (kk : Int) (by omega) (by omega)
        cases e2
        rw [Int.toNat_natCast] at hp
        have hrd : Aside0 (rd l0 (kk : Int) = l0[kk]) := ⟨by unfold rd; simp [List.getD_eq_getElem?_getD, hlt]⟩
        generalize rd l0 (kk : Int) = x at *
        have HM := HA
        clear HA
        have HA := HM
        by_cases cx : m < x
        · have CX := Aside0.mk cx
          go_wp2
          go_roundg (l0.length - (kk + 1))
          case measure => omega
          case rel =>
            refine ⟨kk + 1, nd, x, by omega, by omega, by omega, rfl, by go_num, rfl, ⟨?_⟩⟩
            rw [maxL_take l0 kk hk0 hlt, ← HA.out, ← hrd.out, if_pos CX.out]
        · have CX := Aside0.mk cx
          go_wp2
          go_roundg (l0.length - (kk + 1))
          case measure => omega
          case rel =>
            refine ⟨kk + 1, nd, m, by omega, by omega, by omega, rfl, by go_num, rfl, ⟨?_⟩⟩
            rw [maxL_take l0 kk hk0 hlt, ← HA.out, ← hrd.out, if_neg (by have := CX.out; omega)]
      · have hltz : ¬ (kk : Int) < (l0.length : Int) := by omega
        obtain rfl : kk = l0.length := by omega
        go_wp2
        go_ret
        refine ⟨?_, ⟨_, rfl⟩⟩
        have := HA.out
        rw [List.take_length] at this
        rw [← this]
        rfl
  · cases h
end Go.Proofs.Ytefpdneokkcmpaa.Given
