/- What the program's functions compute, as plain functions, and that they do: walks laid by a program of the session's. -/
import Derived.Test.YtefpdneokkcmpaaSx0
namespace Go.Proofs.Ytefpdneokkcmpaa.S
open Go.RowKit Go.Proofs.YtefpdneokkcmpaaW.PrintWords Go.Proofs.YtefpdneokkcmpaaW.PrintLast Go.Proofs.YtefpdneokkcmpaaW.PrintMore
open Go.Proofs.Ytefpdneokkcmpaa.Given
attribute [local go_sem] max2_int min2_int max_two min_two max_three min_three max_four min_four   -- for this text's walks alone
set_option linter.unusedVariables false
set_option linter.unusedSimpArgs false

-- NOT PRINTED: function 25 (slices_IndexFunc_int_int)

-- NOT PRINTED: function 21 (slices_ContainsFunc_int_int)

/-! ### group_out: function 22 -/
def group_out.f (a0 : Int) : Option (Bool) := if a0 < 0 then (some true) else (some (decide (a0 > 262144)))
set_option maxHeartbeats 8000000 in
set_option maxRecDepth 100000 in
theorem group_out.calls (a0 : Int) (r : Bool) (w : World) (h : group_out.f a0 = some r) :
    Calls Try.prog 22 #[.int .i64 a0] w fun e w' => e = .returned (.bool r) ∧ Drawn0 w w' := by
  have H : (if a0 < 0 then (some true) else (some (decide (a0 > 262144)))) = some r := h
  clear h
  by_cases c2 : a0 < 0
  · rw [if_pos c2] at H
    have c2b0 : decide (a0 < 0) = true := decide_eq_true c2
    clear c2
    obtain rfl := Option.some.inj H
    go_enter Try.func22, Try.ntmps22
    go_wp2
    go_ret
    exact ⟨by first | rfl | (simp; done) | (simp [*]; done), by repeat (first | exact Drawn0.refl _ | apply Drawn0.step)⟩
  · rw [if_neg c2] at H
    have c2b0 : decide (a0 < 0) = false := decide_eq_false c2
    clear c2
    obtain rfl := Option.some.inj H
    go_enter Try.func22, Try.ntmps22
    go_wp2
    go_ret
    exact ⟨by first | rfl | (simp; done) | (simp [*]; done), by repeat (first | exact Drawn0.refl _ | apply Drawn0.step)⟩

end Go.Proofs.Ytefpdneokkcmpaa.S
