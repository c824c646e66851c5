/- A scope with one label that is jumped to forward alone: what stands behind the label is walked in the very state of the jump. -/
import Derived.ScopeJumps
import Derived.WalkMore
import Derived.WalkKit
namespace Go
/-- As Q; by a goto to label l: what stands behind the label, walked from there. -/
def Exit.fwd (P : Program) (l : Nat) (rest : Code) (Q : Exit → Act → World → Prop) : Exit → Act → World → Prop
  | .goto l', a, w => l' = l ∧ rest.wp P (Exit.noGoto Q) a w
  | e, a, w => Q e a w
section
variable {P : Program} {a : Act} {w : World} {Q : Exit → Act → World → Prop} {l : Nat} {rest : Code}
theorem Exit.then_goto {next : Act → World → Prop} : Exit.then next Q (.goto l) a w = Q (.goto l) a w := rfl
theorem Exit.fwd_ret : Exit.fwd P l rest Q .ret a w = Q .ret a w := rfl
theorem Exit.fwd_normal : Exit.fwd P l rest Q .normal a w = Q .normal a w := rfl
theorem Exit.fwd_goto : Exit.fwd P l rest Q (.goto l) a w = (l = l ∧ rest.wp P (Exit.noGoto Q) a w) := rfl
theorem wp_scope_fwd {c : Code} (l : Nat) (rest : Code) (hf : findLabel c l = some rest)
    (first : c.wp P (Exit.fwd P l rest Q) a w) : (Code.scope c).wp P Q a w := by
  refine wp_scope_jumps l (fun a w => rest.wp P (Exit.noGoto Q) a w) (fun _ _ => 0) hf ?_ ?_
  · refine wp_mono first ?_
    intro e a w h
    cases e <;> exact h
  · intro a w h
    refine wp_mono h ?_
    intro e a w h
    cases e <;> first | exact h | exact h.elim
end
end Go
