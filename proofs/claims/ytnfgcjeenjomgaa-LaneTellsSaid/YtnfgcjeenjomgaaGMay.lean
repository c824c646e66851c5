/- The walk of lane.May: at most sixty-four packets, none of which is too long. -/
import Derived.Test.YtnfgcjeenjomgaaSx0
import Derived.WalkSpells
import Derived.LoopTactic
import Derived.Outline
namespace Go.Proofs.Ytnfgcjeenjomgaa.Given
open Go.RowKit Go.Proofs.YtnfgcjeenjomgaaW.PrintWords Go.Proofs.YtnfgcjeenjomgaaW.PrintLast Go.Proofs.YtnfgcjeenjomgaaW.PrintMore Go.Proofs.Ytnfgcjeenjomgaa.S
set_option linter.unusedVariables false
set_option linter.unusedSimpArgs false
def longB (x : S29) : Bool := decide (2000 < x.f0.length)
def mayB (l : List S29) : Bool := decide (l.length ≤ 64) && !l.any longB
set_option maxHeartbeats 4000000 in
set_option maxRecDepth 100000 in
theorem long_calls (A0 : Option Addr) (n c0 : Nat) (m b : Bool) (w : World) (hb : decide ((2000 : Int) < (n : Int)) = b) :
    Calls Try.prog 27 #[.agg #[.slice A0 n c0, .bool m]] w fun e w' => e = .returned (.bool b) ∧ Below w.heap.size w w' := by
  go_enter Try.func27, Try.ntmps27
  go_wp2
  go_ret
  exact ⟨rfl, below_alloc (Below.refl _ _) _⟩
set_option maxHeartbeats 4000000 in
set_option maxRecDepth 100000 in
theorem idx_calls (A : Option Addr) (c : Nat) (l : List S29) (w : World) (hr : Kd.C k29 w A l.length l) :
    Calls Try.prog 36 #[.slice A l.length c, .func (.func 27) #[] #[]] w fun e w' => ∃ i : Int, e = .returned (.int .i64 i) ∧ decide (0 ≤ i) = l.any longB ∧ Below w.heap.size w w' := by
  have hlen : l.length ≤ 9223372036854775807 := hr.2.1
  have HR := Aside0.mk hr
  clear hr
  go_enter Try.func36, Try.ntmps36
  go_wp2
  go_loopg [5, 8] l.length (fun gg _ s8 wr => ∃ kk : Nat, kk ≤ l.length ∧ l.length - kk ≤ gg ∧ s8 = .int .i64 kk ∧ Aside0 (Below w.heap.size w wr) ∧ Aside0 ((l.take kk).any longB = false))
  case atStart => exact ⟨0, Nat.zero_le _, by omega, rfl, ⟨Below.refl _ _⟩, ⟨rfl⟩⟩
  case round =>
    obtain ⟨kk, hkk, hg, rfl, HB, HA⟩ := hrel
    by_cases hlt : kk < l.length
    · have hltz : (kk : Int) < (l.length : Int) := by omega
      obtain ⟨ad, A0, c0, rfl, hp0, hp1, hle, hC⟩ := at_T29 HR.out (kk : Int) (by omega) (by omega)
      replace hp0 := (HB.out.cell (World.block_lt_of_cell? w _ hp0)).trans hp0
      replace hp1 := (HB.out.cell (World.block_lt_of_cell? w _ hp1)).trans hp1
      rw [Int.toNat_natCast] at hp0 hp1
      have hrd : Aside0 (rd_T29 l (kk : Int) = l[kk]) := ⟨by unfold rd_T29; simp [List.getD_eq_getElem?_getD, hlt]⟩
      clear hC hle
      generalize rd_T29 l (kk : Int) = x at *
      have hlb : longB x = decide ((2000 : Int) < (x.f0.length : Int)) := by unfold longB; rw [decide_eq_decide]; omega
      generalize x.f0.length = nx at *
      generalize x.f1 = mx at *
      cases hq : longB x with
      | true =>
        have hcall := fun W => long_calls A0 nx c0 mx true W (by rw [← hlb]; exact hq)
        have HL := Aside0.mk hlb
        have HQ := Aside0.mk hq
        clear hlb hq
        go_wp2_with (go_at_call 27; (with_reducible refine (hcall _).mono ?_); rintro e w' ⟨rfl, hb⟩)
        go_ret
        refine ⟨_, rfl, ?_, below_step HB.out hb⟩
        rw [decide_eq_true (by omega)]
        refine (List.any_eq_true.2 ⟨l[kk], List.getElem_mem _, ?_⟩).symm
        rw [← hrd.out]
        exact HQ.out
      | false =>
        have hcall := fun W => long_calls A0 nx c0 mx false W (by rw [← hlb]; exact hq)
        have HL := Aside0.mk hlb
        have HQ := Aside0.mk hq
        clear hlb hq
        go_wp2_with (go_at_call 27; (with_reducible refine (hcall _).mono ?_); rintro e w' ⟨rfl, hb⟩)
        go_roundg (l.length - (kk + 1))
        case measure => omega
        case rel =>
          refine ⟨kk + 1, by omega, by omega, by go_num, ⟨below_step HB.out hb⟩, ⟨?_⟩⟩
          rw [List.take_succ_eq_append_getElem hlt, List.any_append, HA.out, ← hrd.out]
          simp [HQ.out]
    · have hltz : ¬ (kk : Int) < (l.length : Int) := by omega
      obtain rfl : kk = l.length := by omega
      go_wp2
      go_ret
      refine ⟨_, rfl, ?_, HB.out⟩
      have := HA.out
      rw [List.take_length] at this
      rw [this]
      rfl
def lane_May.f (l0 : List S29) : Option Bool := some (mayB l0)
set_option maxHeartbeats 4000000 in
set_option maxRecDepth 100000 in
theorem lane_May.calls (A0 : Option Addr) (c0 : Nat) (l0 : List S29) (r : Bool) (w : World) (hr0 : Kd.C k29 w A0 l0.length l0) (hc0 : l0.length ≤ c0) (h : lane_May.f l0 = some r) :
    Calls Try.prog 11 #[.slice A0 l0.length c0] w fun e w' => e = .returned (.bool r) ∧ Below w.heap.size w w' := by
  unfold lane_May.f mayB at h
  obtain rfl := Option.some.inj h
  clear h
  have hI := idx_calls A0 c0 l0 w hr0
  have hC : Calls Try.prog 26 #[.slice A0 l0.length c0, .func (.func 27) #[] #[]] w fun e w' => e = .returned (.bool (l0.any longB)) ∧ Below w.heap.size w w' := by
    clear hr0
    go_enter Try.func26, Try.ntmps26
    go_wp2_with (go_at_call 36; (with_reducible refine hI.mono ?_); rintro e1 w1 ⟨i, rfl, hi, hb⟩)
    go_ret
    exact ⟨by rw [← hi]; rfl, hb⟩
  clear hI hr0
  by_cases c : (l0.length : Int) ≤ 64
  · have cd : decide ((l0.length : Int) ≤ 64) = true := decide_eq_true c
    rw [decide_eq_true (show l0.length ≤ 64 by omega)]
    go_enter Try.func11, Try.ntmps11
    go_wp2_with (go_at_call 26; (with_reducible refine hC.mono ?_); rintro e1 w1 ⟨rfl, hb⟩)
    go_ret
    exact ⟨by simp, hb⟩
  · have cd : decide ((l0.length : Int) ≤ 64) = false := decide_eq_false c
    rw [decide_eq_false (show ¬ l0.length ≤ 64 by omega)]
    go_enter Try.func11, Try.ntmps11
    go_wp2
    go_ret
    exact ⟨rfl, Below.refl _ _⟩
end Go.Proofs.Ytnfgcjeenjomgaa.Given
