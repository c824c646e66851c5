/- The walk of group.May: a list of at most sixteen, none of which is out. -/
import Derived.Test.YtefpdneokkcmpaaSx1
import Derived.WalkSpells
import Derived.LoopTactic
namespace Go.Proofs.Ytefpdneokkcmpaa.Given
open Go.RowKit Go.Proofs.YtefpdneokkcmpaaW.PrintWords Go.Proofs.YtefpdneokkcmpaaW.PrintLast Go.Proofs.YtefpdneokkcmpaaW.PrintMore Go.Proofs.Ytefpdneokkcmpaa.S
set_option linter.unusedVariables false
set_option linter.unusedSimpArgs false
def outB (x : Int) : Bool := decide (x < 0) || decide (262144 < x)
theorem out_eq (x : Int) : group_out.f x = some (outB x) := by
  unfold group_out.f outB
  by_cases h : x < 0
  · rw [if_pos h, decide_eq_true h]; rfl
  · rw [if_neg h, decide_eq_false h]; rfl
set_option maxHeartbeats 4000000 in
set_option maxRecDepth 100000 in
theorem idx_calls (A : Option Addr) (c : Nat) (l : List Int) (w : World) (hr : Kd.C (Kd.int .i64) w A l.length l) :
    Calls Try.prog 25 #[.slice A l.length c, .func (.func 22) #[] #[]] w fun e w' => ∃ i : Int, e = .returned (.int .i64 i) ∧ decide (0 ≤ i) = l.any outB ∧ Drawn0 w w' := by
  have hlen : l.length ≤ 9223372036854775807 := hr.2.1
  have HR := Aside0.mk hr
  clear hr
  go_enter Try.func25, Try.ntmps25
  go_wp2
  go_loopg [5, 8] l.length (fun gg _ s8 wr => ∃ kk nd : Nat, kk ≤ l.length ∧ l.length - kk ≤ gg ∧ s8 = .int .i64 kk ∧ wr = w.drewN nd ∧ Aside0 ((l.take kk).any outB = false))
  case atStart => exact ⟨0, 0, Nat.zero_le _, by omega, rfl, rfl, ⟨rfl⟩⟩
  case round =>
    obtain ⟨kk, nd, hkk, hg, rfl, rfl, HA⟩ := hrel
    by_cases hlt : kk < l.length
    · have hltz : (kk : Int) < (l.length : Int) := by omega
      obtain ⟨ad, rfl, hp⟩ := Kd.at_int HR.out (kk : Int) (by omega) (by omega)
      rw [Int.toNat_natCast] at hp
      have hcall := fun W => group_out.calls (rd l (kk : Int)) (outB (rd l (kk : Int))) W (out_eq _)
      have hrd : Aside0 (rd l (kk : Int) = l[kk]) := ⟨by unfold rd; simp [List.getD_eq_getElem?_getD, hlt]⟩
      generalize rd l (kk : Int) = x at *
      cases hq : outB x with
      | true =>
        rw [hq] at hcall
        go_wp2_with (go_at_call 22; (with_reducible refine (hcall _).mono ?_); rintro e w' ⟨rfl, ⟨⟨nd2, rfl⟩⟩⟩)
        go_ret
        refine ⟨_, rfl, ?_, ⟨_, rfl⟩⟩
        rw [decide_eq_true (by omega)]
        refine (List.any_eq_true.2 ⟨l[kk], List.getElem_mem _, ?_⟩).symm
        rw [← hrd.out]
        exact hq
      | false =>
        rw [hq] at hcall
        go_wp2_with (go_at_call 22; (with_reducible refine (hcall _).mono ?_); rintro e w' ⟨rfl, ⟨⟨nd2, rfl⟩⟩⟩)
        go_roundg (l.length - (kk + 1))
        case measure => omega
        case rel =>
          refine ⟨kk + 1, nd + nd2, by omega, by omega, by go_num, rfl, ⟨?_⟩⟩
          rw [List.take_succ_eq_append_getElem hlt, List.any_append, HA.out, ← hrd.out]
          simp [hq]
    · have hltz : ¬ (kk : Int) < (l.length : Int) := by omega
      obtain rfl : kk = l.length := by omega
      go_wp2
      go_ret
      refine ⟨_, rfl, ?_, ⟨_, rfl⟩⟩
      have := HA.out
      rw [List.take_length] at this
      rw [this]
      rfl
def group_May.f (l0 : List Int) : Option Bool := some (decide (l0.length ≤ 16) && !l0.any outB)
set_option maxHeartbeats 4000000 in
set_option maxRecDepth 100000 in
theorem group_May.calls (A0 : Option Addr) (c0 : Nat) (l0 : List Int) (r : Bool) (w : World) (hr0 : Kd.C (Kd.int .i64) w A0 l0.length l0) (hc0 : l0.length ≤ c0) (h : group_May.f l0 = some r) :
    Calls Try.prog 12 #[.slice A0 l0.length c0] w fun e w' => e = .returned (.bool r) ∧ Drawn0 w w' := by
  unfold group_May.f at h
  obtain rfl := Option.some.inj h
  clear h
  have hI : ∀ W nd, W = w.drewN nd → Calls Try.prog 25 #[.slice A0 l0.length c0, .func (.func 22) #[] #[]] W fun e w' => ∃ i : Int, e = .returned (.int .i64 i) ∧ decide (0 ≤ i) = l0.any outB ∧ Drawn0 W w' := fun W nd e => idx_calls A0 c0 l0 W (by rw [e]; exact Kd.C_drewN hr0 nd)
  have hC : ∀ W nd, W = w.drewN nd → Calls Try.prog 21 #[.slice A0 l0.length c0, .func (.func 22) #[] #[]] W fun e w' => e = .returned (.bool (l0.any outB)) ∧ Drawn0 W w' := by
    intro W nd e
    have hI' := hI W nd e
    clear hI e hr0
    go_enter Try.func21, Try.ntmps21
    go_wp2_with (go_at_call 25; (with_reducible refine hI'.mono ?_); rintro e1 w1 ⟨i, rfl, hi, ⟨⟨n1, rfl⟩⟩⟩)
    go_ret
    exact ⟨by rw [← hi]; rfl, ⟨_, rfl⟩⟩
  clear hI
  have hC0 := hC w 0 rfl
  clear hC hr0
  by_cases c : (l0.length : Int) ≤ 16
  · have cd : decide ((l0.length : Int) ≤ 16) = true := decide_eq_true c
    rw [decide_eq_true (show l0.length ≤ 16 by omega)]
    go_enter Try.func12, Try.ntmps12
    go_wp2_with (go_at_call 21; (with_reducible refine hC0.mono ?_); rintro e1 w1 ⟨rfl, ⟨⟨n1, rfl⟩⟩⟩)
    go_ret
    exact ⟨by simp, ⟨_, rfl⟩⟩
  · have cd : decide ((l0.length : Int) ≤ 16) = false := decide_eq_false c
    rw [decide_eq_false (show ¬ l0.length ≤ 16 by omega)]
    go_enter Try.func12, Try.ntmps12
    go_wp2
    go_ret
    exact ⟨rfl, ⟨0, rfl⟩⟩
end Go.Proofs.Ytefpdneokkcmpaa.Given
