/-
  No cell of these rows narrows 'for every input' (looked for: loops, veiled, ifaces, maps, wideKeys, modest, calm, conditions, laid).
  DERIVED. THE GIVEN ROWS OF THIS SEAT. 5 by the template 'for every input the law returns true; each argument reads behind the call as it read before'; 0 by the template 'total and deterministic' (their statements: YtenpchgnjhmaaaaTotals.lean).
  GIVEN WITH THE SEED: the statements are not yours to turn. If you find one false, say at which input.
  Laid BY PROGRAM, IN A SANDBOX (cutbox-rows.mjs): the forced cells as the released guide's own fill.sh prints them over the translation c0b5b83e1030267a… (all of the seat's roots in one cut). By AI agents, Wed Nov 11 2026. No macro, syntax, notation, axiom, sorry.
-/
import Derived.Test.YtenpchgnjhmaaaaChecked
import GoSem.Claim
import GoSem.ClaimJoined
import GoSem.ClaimMapViews
import Derived.JoinedTies
import Derived.KernelRfl
namespace Go.Proofs.Ytenpchgnjhmaaaa
/- THE CELL 'sum', in the pinned program and in every row, IS THE sha256 OF THE DUMP (.gsa) THAT YtenpchgnjhmaaaaProg.lean LOADS. Nothing in Lean hashes anything: it is a label: what it is worth is what the hold of that sum in a sandbox is worth. -/
noncomputable def Try.pinned : Pinned := { name := "ytenpchgnjhmaaaa", sum := "c0b5b83e1030267a47e9a0a1d0e7787ae11856ccfe9b8295391f981e5ec36db1", checked := Try.checked }
namespace Rows
def none {H : Type} : Left H := { results := [], args := [] }

/-- 'fourinhandlaw09.LeastTells': WHATEVER THE INPUT: true; the input reads as it did. -/
def leastTellsSpec : ChangeSpec := { name := "leastTells", fn := fun _ => fun
  | [d1, d2, d3] => { results := [.lit (.bool true)], args := [d1, d2, d3] }
  | _ => none }
def leastTellsRow : OpenClaim := { program := "ytenpchgnjhmaaaa", sum := "c0b5b83e1030267a47e9a0a1d0e7787ae11856ccfe9b8295391f981e5ec36db1", func := "fourinhand/fourinhandlaw09.LeastTells", spec := "leastTells", unfollowed := true, recurses := true, apart := false }
def LeastTellsSaid : Prop := leastTellsRow.holds Try.pinned (OpenSpec.ofChange leastTellsSpec)

/-- ITS FALSE NEIGHBOUR: 'it returns false'. Refute it at one input. -/
def leastTellsWrong : ChangeSpec := { name := "leastTells", fn := fun _ => fun
  | [d1, d2, d3] => { results := [.lit (.bool false)], args := [d1, d2, d3] }
  | _ => none }
def LeastTellsWrongFalsely : Prop := leastTellsRow.holds Try.pinned (OpenSpec.ofChange leastTellsWrong)

/-- 'fourinhandlaw09.LeastOf': WHATEVER THE INPUT: true; the input reads as it did. -/
def leastOfSpec : ChangeSpec := { name := "leastOf", fn := fun _ => fun
  | [d1, d2, d3] => { results := [.lit (.bool true)], args := [d1, d2, d3] }
  | _ => none }
def leastOfRow : OpenClaim := { program := "ytenpchgnjhmaaaa", sum := "c0b5b83e1030267a47e9a0a1d0e7787ae11856ccfe9b8295391f981e5ec36db1", func := "fourinhand/fourinhandlaw09.LeastOf", spec := "leastOf", unfollowed := true, recurses := true, apart := false }
def LeastOfSaid : Prop := leastOfRow.holds Try.pinned (OpenSpec.ofChange leastOfSpec)

/-- ITS FALSE NEIGHBOUR: 'it returns false'. Refute it at one input. -/
def leastOfWrong : ChangeSpec := { name := "leastOf", fn := fun _ => fun
  | [d1, d2, d3] => { results := [.lit (.bool false)], args := [d1, d2, d3] }
  | _ => none }
def LeastOfWrongFalsely : Prop := leastOfRow.holds Try.pinned (OpenSpec.ofChange leastOfWrong)

/-- 'fourinhandlaw09.LeastTurns': WHATEVER THE INPUT: true; the input reads as it did. -/
def leastTurnsSpec : ChangeSpec := { name := "leastTurns", fn := fun _ => fun
  | [d1, d2, d3] => { results := [.lit (.bool true)], args := [d1, d2, d3] }
  | _ => none }
def leastTurnsRow : OpenClaim := { program := "ytenpchgnjhmaaaa", sum := "c0b5b83e1030267a47e9a0a1d0e7787ae11856ccfe9b8295391f981e5ec36db1", func := "fourinhand/fourinhandlaw09.LeastTurns", spec := "leastTurns", unfollowed := true, recurses := true, apart := false }
def LeastTurnsSaid : Prop := leastTurnsRow.holds Try.pinned (OpenSpec.ofChange leastTurnsSpec)

/-- ITS FALSE NEIGHBOUR: 'it returns false'. Refute it at one input. -/
def leastTurnsWrong : ChangeSpec := { name := "leastTurns", fn := fun _ => fun
  | [d1, d2, d3] => { results := [.lit (.bool false)], args := [d1, d2, d3] }
  | _ => none }
def LeastTurnsWrongFalsely : Prop := leastTurnsRow.holds Try.pinned (OpenSpec.ofChange leastTurnsWrong)

/-- 'fourinhandlaw09.LeastLater': WHATEVER THE INPUT: true; the input reads as it did. -/
def leastLaterSpec : ChangeSpec := { name := "leastLater", fn := fun _ => fun
  | [d1, d2, d3, d4] => { results := [.lit (.bool true)], args := [d1, d2, d3, d4] }
  | _ => none }
def leastLaterRow : OpenClaim := { program := "ytenpchgnjhmaaaa", sum := "c0b5b83e1030267a47e9a0a1d0e7787ae11856ccfe9b8295391f981e5ec36db1", func := "fourinhand/fourinhandlaw09.LeastLater", spec := "leastLater", unfollowed := true, recurses := true, apart := false }
def LeastLaterSaid : Prop := leastLaterRow.holds Try.pinned (OpenSpec.ofChange leastLaterSpec)

/-- ITS FALSE NEIGHBOUR: 'it returns false'. Refute it at one input. -/
def leastLaterWrong : ChangeSpec := { name := "leastLater", fn := fun _ => fun
  | [d1, d2, d3, d4] => { results := [.lit (.bool false)], args := [d1, d2, d3, d4] }
  | _ => none }
def LeastLaterWrongFalsely : Prop := leastLaterRow.holds Try.pinned (OpenSpec.ofChange leastLaterWrong)

/-- 'fourinhandlaw09.LeastWrong': WHATEVER THE INPUT: true; the input reads as it did. -/
def leastWrongSpec : ChangeSpec := { name := "leastWrong", fn := fun _ => fun
  | [d1, d2, d3] => { results := [.lit (.bool true)], args := [d1, d2, d3] }
  | _ => none }
def leastWrongRow : OpenClaim := { program := "ytenpchgnjhmaaaa", sum := "c0b5b83e1030267a47e9a0a1d0e7787ae11856ccfe9b8295391f981e5ec36db1", func := "fourinhand/fourinhandlaw09.LeastWrong", spec := "leastWrong", unfollowed := true, recurses := true, apart := false }
def LeastWrongSaid : Prop := leastWrongRow.holds Try.pinned (OpenSpec.ofChange leastWrongSpec)

/-- ITS FALSE NEIGHBOUR: 'it returns false'. Refute it at one input. -/
def leastWrongWrong : ChangeSpec := { name := "leastWrong", fn := fun _ => fun
  | [d1, d2, d3] => { results := [.lit (.bool false)], args := [d1, d2, d3] }
  | _ => none }
def LeastWrongWrongFalsely : Prop := leastWrongRow.holds Try.pinned (OpenSpec.ofChange leastWrongWrong)

/- THE SECOND FORM. 'bulk': how many values and letters a reading holds, each counted each time it is reached (what is shared counts as often as it is met; a slice's spare places count too). A statement '..UptoSaid' is the law's where the arguments, and the package variables that the reading takes, are together of bulk at most 1048576: NARROWER than '..Said'. Prove '..Said' where nothing that the law and all that it calls make is longer than what came in: it says more and counts as full. Else prove '..UptoSaid'. A law counts once. -/
mutual
def uptoBulk {H : Type} : DataW H → Nat
  | .lit (.string bytes) => bytes.length + 1
  | .lit _ => 1
  | .nil => 1
  | .ptr d => uptoBulk d + 1
  | .slice elems spare => uptoBulkAll elems + uptoBulkAll spare + 1
  | .agg parts => uptoBulkAll parts + 1
  | .iface _ d => uptoBulk d + 1
  | .map entries => uptoBulkEntries entries + 1
  | .held _ => 1
def uptoBulkAll {H : Type} : List (DataW H) → Nat
  | [] => 0
  | d :: r => uptoBulk d + uptoBulkAll r
def uptoBulkEntries {H : Type} : List (Lit × DataW H) → Nat
  | [] => 0
  | x :: r => uptoBulkEntry x + uptoBulkEntries r
def uptoBulkEntry {H : Type} : Lit × DataW H → Nat
  | (.string bytes, d) => bytes.length + uptoBulk d + 1
  | (_, d) => uptoBulk d + 1
 end
def uptoSmall : (H : Type) → List (DataW H) → Bool := fun _ ds => decide (uptoBulkAll ds ≤ 1048576)
def OpenSpec.upto (s : _root_.Go.ChangeSpec) : _root_.Go.OpenSpec := { _root_.Go.OpenSpec.ofChange s with cond := some uptoSmall }

/-- 'fourinhandlaw09.LeastTells', WHERE WHAT IT READS IS OF BULK AT MOST 1048576: true; the input reads as it did. -/
def leastTellsUptoRow : OpenClaim := { program := "ytenpchgnjhmaaaa", sum := "c0b5b83e1030267a47e9a0a1d0e7787ae11856ccfe9b8295391f981e5ec36db1", func := "fourinhand/fourinhandlaw09.LeastTells", spec := "leastTells", unfollowed := true, recurses := true, apart := false, narrowed := true }
def LeastTellsUptoSaid : Prop := leastTellsUptoRow.holds Try.pinned (OpenSpec.upto leastTellsSpec)

/-- 'fourinhandlaw09.LeastOf', WHERE WHAT IT READS IS OF BULK AT MOST 1048576: true; the input reads as it did. -/
def leastOfUptoRow : OpenClaim := { program := "ytenpchgnjhmaaaa", sum := "c0b5b83e1030267a47e9a0a1d0e7787ae11856ccfe9b8295391f981e5ec36db1", func := "fourinhand/fourinhandlaw09.LeastOf", spec := "leastOf", unfollowed := true, recurses := true, apart := false, narrowed := true }
def LeastOfUptoSaid : Prop := leastOfUptoRow.holds Try.pinned (OpenSpec.upto leastOfSpec)

/-- 'fourinhandlaw09.LeastTurns', WHERE WHAT IT READS IS OF BULK AT MOST 1048576: true; the input reads as it did. -/
def leastTurnsUptoRow : OpenClaim := { program := "ytenpchgnjhmaaaa", sum := "c0b5b83e1030267a47e9a0a1d0e7787ae11856ccfe9b8295391f981e5ec36db1", func := "fourinhand/fourinhandlaw09.LeastTurns", spec := "leastTurns", unfollowed := true, recurses := true, apart := false, narrowed := true }
def LeastTurnsUptoSaid : Prop := leastTurnsUptoRow.holds Try.pinned (OpenSpec.upto leastTurnsSpec)

/-- 'fourinhandlaw09.LeastLater', WHERE WHAT IT READS IS OF BULK AT MOST 1048576: true; the input reads as it did. -/
def leastLaterUptoRow : OpenClaim := { program := "ytenpchgnjhmaaaa", sum := "c0b5b83e1030267a47e9a0a1d0e7787ae11856ccfe9b8295391f981e5ec36db1", func := "fourinhand/fourinhandlaw09.LeastLater", spec := "leastLater", unfollowed := true, recurses := true, apart := false, narrowed := true }
def LeastLaterUptoSaid : Prop := leastLaterUptoRow.holds Try.pinned (OpenSpec.upto leastLaterSpec)

/-- 'fourinhandlaw09.LeastWrong', WHERE WHAT IT READS IS OF BULK AT MOST 1048576: true; the input reads as it did. -/
def leastWrongUptoRow : OpenClaim := { program := "ytenpchgnjhmaaaa", sum := "c0b5b83e1030267a47e9a0a1d0e7787ae11856ccfe9b8295391f981e5ec36db1", func := "fourinhand/fourinhandlaw09.LeastWrong", spec := "leastWrong", unfollowed := true, recurses := true, apart := false, narrowed := true }
def LeastWrongUptoSaid : Prop := leastWrongUptoRow.holds Try.pinned (OpenSpec.upto leastWrongSpec)

end Rows
end Go.Proofs.Ytenpchgnjhmaaaa
