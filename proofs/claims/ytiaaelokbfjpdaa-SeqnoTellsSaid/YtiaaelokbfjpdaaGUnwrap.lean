/- The walk of seqno.Unwrap: what it tells, as a plain function. -/
import Derived.Test.YtiaaelokbfjpdaaProg
import Derived.Test.YtiaaelokbfjpdaaWWords
import Derived.Test.YtiaaelokbfjpdaaWMore
import Derived.Test.YtiaaelokbfjpdaaFwd
namespace Go.Proofs.Ytiaaelokbfjpdaa.Given
open Go.RowKit Go.Proofs.YtiaaelokbfjpdaaW.PrintWords Go.Proofs.YtiaaelokbfjpdaaW.PrintLast Go.Proofs.YtiaaelokbfjpdaaW.PrintMore
attribute [local go_sem] max2_int min2_int max_two min_two
set_option linter.unusedVariables false
set_option linter.unusedSimpArgs false

theorem ret_int {k : IntKind} {a b : Int} (h : a = b) : Ending.returned (.int k a) = .returned (.int k b) := by rw [h]
/-- near, clamped. -/
def nearU (a : Int) : Int := max 0 (min a 4611686018427387904)
def unwrapU (m a1 : Int) : Int :=
  if m - m % 4294967296 + a1 - m > 2147483648 then (if m - m % 4294967296 + a1 ≥ 4294967296 then m - m % 4294967296 + a1 - 4294967296 else m - m % 4294967296 + a1)
  else if m - (m - m % 4294967296 + a1) > 2147483648 then m - m % 4294967296 + a1 + 4294967296
  else if m - m % 4294967296 + a1 - m = 2147483648 then (if m - m % 4294967296 + a1 ≥ 4294967296 then m - m % 4294967296 + a1 - 4294967296 else m - m % 4294967296 + a1)
  else m - m % 4294967296 + a1
def seqno_Unwrap.f (a0 : Int) (a1 : Int) : Option (Int) := if 0 ≤ a1 ∧ a1 < 4294967296 then some (unwrapU (nearU a0) a1) else none
set_option maxHeartbeats 8000000 in
set_option maxRecDepth 100000 in
theorem seqno_Unwrap.calls (a0 : Int) (a1 : Int) (r : Int) (w : World) (h : seqno_Unwrap.f a0 a1 = some r) :
    Calls Try.prog 16 #[.int .i64 a0, .int .u32 a1] w fun e w' => e = .returned (.int .i64 r) ∧ Drawn0 w w' := by
  unfold seqno_Unwrap.f at h
  split at h
  · rename_i hb
    obtain ⟨hb1, hb2⟩ := hb
    obtain rfl := Option.some.inj h
    clear h
    go_enter Try.func16, Try.ntmps16
    rcases (show a0 ≤ 0 ∨ 4611686018427387904 < a0 ∨ (0 < a0 ∧ a0 ≤ 4611686018427387904) by omega) with c | c | ⟨c, c'⟩
    all_goals
      go_wp2
      refine wp_scope_fwd 0 _ rfl ?_
      go_wp2
    all_goals (try (go_step3; rw [Exit.then_goto, Exit.fwd_goto]; refine ⟨rfl, ?_⟩; go_wp2))
    all_goals (first | rw [Exit.fwd_ret] | rw [Exit.noGoto_ret])
    all_goals
      go_ret
      refine ⟨ret_int ?_, ⟨0, rfl⟩⟩
      (try simp only [beq_iff_eq, beq_eq_false_iff_ne, ne_eq] at *)
      first
      | (rw [show nearU a0 = 0 from by unfold nearU; omega]; unfold unwrapU; (repeat' split) <;> omega)
      | (rw [show nearU a0 = 4611686018427387904 from by unfold nearU; omega]; unfold unwrapU; (repeat' split) <;> omega)
      | (rw [show nearU a0 = a0 from by unfold nearU; omega]; unfold unwrapU; (repeat' split) <;> omega)
  · cases h
end Go.Proofs.Ytiaaelokbfjpdaa.Given
