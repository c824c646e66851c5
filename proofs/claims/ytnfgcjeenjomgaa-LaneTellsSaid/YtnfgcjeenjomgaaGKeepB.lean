/- The walk of LaneKeeps: what is too much, or may not be. -/
import Derived.Test.YtnfgcjeenjomgaaGKeepA
namespace Go.Proofs.Ytnfgcjeenjomgaa.Given
open Go.RowKit Go.Proofs.YtnfgcjeenjomgaaW.PrintWords Go.Proofs.YtnfgcjeenjomgaaW.PrintLast Go.Proofs.YtnfgcjeenjomgaaW.PrintMore Go.Proofs.Ytnfgcjeenjomgaa.S
set_option linter.unusedVariables false
set_option linter.unusedSimpArgs false
set_option maxHeartbeats 4000000 in
set_option maxRecDepth 100000 in
theorem keeps_out (k : Nat) (A0 : Option Addr) (c0 : Nat) (l : List S29) (A1 : Option Addr) (c1 n1 : Nat) (i : Int) (w : World) (h0 : Pk w A0 c0 l) (f B M : Bool) (hfew : fourinhandlaw22_few.f k l = some f) (hB : decide ((2100 : Int) < (n1 : Int)) = B) (hM : mayB l = M)
    (hout : (!f || B || !M) = true) :
    Calls Try.prog 3 #[.slice A0 l.length c0, .slice A1 n1 c1, .int .i64 i] w fun e w' => e = .returned (.bool true) ∧ Below w.heap.size w w' := by
  have hB' : decide ((n1 : Int) > (2100 : Int)) = B := hB
  have HP := Aside0.mk h0
  clear h0
  cases f <;> cases B <;> cases M <;> simp at hout
  all_goals
    clear hout
    go_enter Try.func3, Try.ntmps3
    go_wp2_with (first | (go_at_call 9; (with_reducible refine (k_awake _).mono ?_); rintro e w1 ⟨rfl, hb1⟩) | (go_at_call 10; (with_reducible refine (k_few hfew (HP.out.later hb1.out)).mono ?_); rintro e w2 ⟨rfl, hb2⟩) | (go_at_call 11; (with_reducible refine (k_may hM ((HP.out.later hb1.out).later hb2.out)).mono ?_); rintro e w3 ⟨rfl, hb3⟩))
    go_ret
    first
      | exact ⟨rfl, below_step hb1.out hb2.out⟩
      | exact ⟨rfl, below_step (below_step hb1.out hb2.out) hb3.out⟩
end Go.Proofs.Ytnfgcjeenjomgaa.Given
