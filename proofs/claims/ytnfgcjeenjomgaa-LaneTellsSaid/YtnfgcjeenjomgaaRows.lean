/-
  No cell of these rows narrows 'for every input' (looked for: loops, veiled, ifaces, maps, wideKeys, modest, calm, conditions, laid).
  DERIVED. THE GIVEN ROWS OF THIS SEAT. 6 by the template 'for every input the law returns true; each argument reads behind the call as it read before'; 0 by the template 'total and deterministic' (their statements: YtnfgcjeenjomgaaTotals.lean).
  GIVEN WITH THE SEED: the statements are not yours to turn. If you find one false, say at which input.
  Laid BY PROGRAM, IN A SANDBOX (cutbox-rows.mjs): the forced cells as the released guide's own fill.sh prints them over the translation 9feedaa10311b6f7… (all of the seat's roots in one cut). By AI agents, Wed Nov 11 2026. No macro, syntax, notation, axiom, sorry.
-/
import Derived.Test.YtnfgcjeenjomgaaChecked
import GoSem.Claim
import GoSem.ClaimJoined
import GoSem.ClaimMapViews
import Derived.JoinedTies
import Derived.KernelRfl
namespace Go.Proofs.Ytnfgcjeenjomgaa
/- THE CELL 'sum', in the pinned program and in every row, IS THE sha256 OF THE DUMP (.gsa) THAT YtnfgcjeenjomgaaProg.lean LOADS. Nothing in Lean hashes anything: it is a label: what it is worth is what the hold of that sum in a sandbox is worth. -/
noncomputable def Try.pinned : Pinned := { name := "ytnfgcjeenjomgaa", sum := "9feedaa10311b6f71335bc6bcc8159f543ab1724cbd1ec9e74c0d190d540d28a", checked := Try.checked }
namespace Rows
def none {H : Type} : Left H := { results := [], args := [] }

/-- 'fourinhandlaw22.LaneKeeps': WHATEVER THE INPUT: true; the input reads as it did. -/
def laneKeepsSpec : ChangeSpec := { name := "laneKeeps", fn := fun _ => fun
  | [d1, d2, d3] => { results := [.lit (.bool true)], args := [d1, d2, d3] }
  | _ => none }
def laneKeepsRow : OpenClaim := { program := "ytnfgcjeenjomgaa", sum := "9feedaa10311b6f71335bc6bcc8159f543ab1724cbd1ec9e74c0d190d540d28a", func := "fourinhand/fourinhandlaw22.LaneKeeps", spec := "laneKeeps", unfollowed := true, recurses := true, apart := false }
def LaneKeepsSaid : Prop := laneKeepsRow.holds Try.pinned (OpenSpec.ofChange laneKeepsSpec)

/-- ITS FALSE NEIGHBOUR: 'it returns false'. Refute it at one input. -/
def laneKeepsWrong : ChangeSpec := { name := "laneKeeps", fn := fun _ => fun
  | [d1, d2, d3] => { results := [.lit (.bool false)], args := [d1, d2, d3] }
  | _ => none }
def LaneKeepsWrongFalsely : Prop := laneKeepsRow.holds Try.pinned (OpenSpec.ofChange laneKeepsWrong)

/-- 'fourinhandlaw22.LaneDrops': WHATEVER THE INPUT: true; the input reads as it did. -/
def laneDropsSpec : ChangeSpec := { name := "laneDrops", fn := fun _ => fun
  | [d1, d2] => { results := [.lit (.bool true)], args := [d1, d2] }
  | _ => none }
def laneDropsRow : OpenClaim := { program := "ytnfgcjeenjomgaa", sum := "9feedaa10311b6f71335bc6bcc8159f543ab1724cbd1ec9e74c0d190d540d28a", func := "fourinhand/fourinhandlaw22.LaneDrops", spec := "laneDrops", unfollowed := true, recurses := true, apart := false }
def LaneDropsSaid : Prop := laneDropsRow.holds Try.pinned (OpenSpec.ofChange laneDropsSpec)

/-- ITS FALSE NEIGHBOUR: 'it returns false'. Refute it at one input. -/
def laneDropsWrong : ChangeSpec := { name := "laneDrops", fn := fun _ => fun
  | [d1, d2] => { results := [.lit (.bool false)], args := [d1, d2] }
  | _ => none }
def LaneDropsWrongFalsely : Prop := laneDropsRow.holds Try.pinned (OpenSpec.ofChange laneDropsWrong)

/-- 'fourinhandlaw22.LaneMany': WHATEVER THE INPUT: true; the input reads as it did. -/
def laneManySpec : ChangeSpec := { name := "laneMany", fn := fun _ => fun
  | [d] => { results := [.lit (.bool true)], args := [d] }
  | _ => none }
def laneManyRow : OpenClaim := { program := "ytnfgcjeenjomgaa", sum := "9feedaa10311b6f71335bc6bcc8159f543ab1724cbd1ec9e74c0d190d540d28a", func := "fourinhand/fourinhandlaw22.LaneMany", spec := "laneMany", unfollowed := true, recurses := true, apart := false }
def LaneManySaid : Prop := laneManyRow.holds Try.pinned (OpenSpec.ofChange laneManySpec)

/-- ITS FALSE NEIGHBOUR: 'it returns false'. Refute it at one input. -/
def laneManyWrong : ChangeSpec := { name := "laneMany", fn := fun _ => fun
  | [d] => { results := [.lit (.bool false)], args := [d] }
  | _ => none }
def LaneManyWrongFalsely : Prop := laneManyRow.holds Try.pinned (OpenSpec.ofChange laneManyWrong)

/-- 'fourinhandlaw22.LaneTells': WHATEVER THE INPUT: true; the input reads as it did. -/
def laneTellsSpec : ChangeSpec := { name := "laneTells", fn := fun _ => fun
  | [d1, d2, d3, d4, d5] => { results := [.lit (.bool true)], args := [d1, d2, d3, d4, d5] }
  | _ => none }
def laneTellsRow : OpenClaim := { program := "ytnfgcjeenjomgaa", sum := "9feedaa10311b6f71335bc6bcc8159f543ab1724cbd1ec9e74c0d190d540d28a", func := "fourinhand/fourinhandlaw22.LaneTells", spec := "laneTells", unfollowed := true, recurses := true, apart := false }
def LaneTellsSaid : Prop := laneTellsRow.holds Try.pinned (OpenSpec.ofChange laneTellsSpec)

/-- ITS FALSE NEIGHBOUR: 'it returns false'. Refute it at one input. -/
def laneTellsWrong : ChangeSpec := { name := "laneTells", fn := fun _ => fun
  | [d1, d2, d3, d4, d5] => { results := [.lit (.bool false)], args := [d1, d2, d3, d4, d5] }
  | _ => none }
def LaneTellsWrongFalsely : Prop := laneTellsRow.holds Try.pinned (OpenSpec.ofChange laneTellsWrong)

/-- 'fourinhandlaw22.LaneSpoils': WHATEVER THE INPUT: true; the input reads as it did. -/
def laneSpoilsSpec : ChangeSpec := { name := "laneSpoils", fn := fun _ => fun
  | [d1, d2, d3, d4] => { results := [.lit (.bool true)], args := [d1, d2, d3, d4] }
  | _ => none }
def laneSpoilsRow : OpenClaim := { program := "ytnfgcjeenjomgaa", sum := "9feedaa10311b6f71335bc6bcc8159f543ab1724cbd1ec9e74c0d190d540d28a", func := "fourinhand/fourinhandlaw22.LaneSpoils", spec := "laneSpoils", unfollowed := true, recurses := true, apart := false }
def LaneSpoilsSaid : Prop := laneSpoilsRow.holds Try.pinned (OpenSpec.ofChange laneSpoilsSpec)

/-- ITS FALSE NEIGHBOUR: 'it returns false'. Refute it at one input. -/
def laneSpoilsWrong : ChangeSpec := { name := "laneSpoils", fn := fun _ => fun
  | [d1, d2, d3, d4] => { results := [.lit (.bool false)], args := [d1, d2, d3, d4] }
  | _ => none }
def LaneSpoilsWrongFalsely : Prop := laneSpoilsRow.holds Try.pinned (OpenSpec.ofChange laneSpoilsWrong)

/-- 'fourinhandlaw22.LaneWrong': WHATEVER THE INPUT: true; the input reads as it did. -/
def laneWrongSpec : ChangeSpec := { name := "laneWrong", fn := fun _ => fun
  | [d1, d2, d3] => { results := [.lit (.bool true)], args := [d1, d2, d3] }
  | _ => none }
def laneWrongRow : OpenClaim := { program := "ytnfgcjeenjomgaa", sum := "9feedaa10311b6f71335bc6bcc8159f543ab1724cbd1ec9e74c0d190d540d28a", func := "fourinhand/fourinhandlaw22.LaneWrong", spec := "laneWrong", unfollowed := true, recurses := true, apart := false }
def LaneWrongSaid : Prop := laneWrongRow.holds Try.pinned (OpenSpec.ofChange laneWrongSpec)

/-- ITS FALSE NEIGHBOUR: 'it returns false'. Refute it at one input. -/
def laneWrongWrong : ChangeSpec := { name := "laneWrong", fn := fun _ => fun
  | [d1, d2, d3] => { results := [.lit (.bool false)], args := [d1, d2, d3] }
  | _ => none }
def LaneWrongWrongFalsely : Prop := laneWrongRow.holds Try.pinned (OpenSpec.ofChange laneWrongWrong)

/- THE SECOND FORM. 'bulk': how many values and letters a reading holds, each counted each time it is reached (what is shared counts as often as it is met; a slice's spare places count too). A statement '..UptoSaid' is the law's where the arguments, and the package variables that the reading takes, are together of bulk at most 1048576: NARROWER than '..Said'. Prove '..Said' where nothing that the law and all that it calls make is longer than what came in: it says more and counts as full. Else prove '..UptoSaid'. A law counts once. -/
mutual
def uptoBulk {H : Type} : DataW H → Nat
  | .lit (.string bytes) => bytes.length + 1
  | .lit _ => 1
  | .nil => 1
  | .ptr d => uptoBulk d + 1
  | .slice elems spare => uptoBulkAll elems + uptoBulkAll spare + 1
  | .agg parts => uptoBulkAll parts + 1
  | .iface _ d => uptoBulk d + 1
  | .map entries => uptoBulkEntries entries + 1
  | .held _ => 1
def uptoBulkAll {H : Type} : List (DataW H) → Nat
  | [] => 0
  | d :: r => uptoBulk d + uptoBulkAll r
def uptoBulkEntries {H : Type} : List (Lit × DataW H) → Nat
  | [] => 0
  | x :: r => uptoBulkEntry x + uptoBulkEntries r
def uptoBulkEntry {H : Type} : Lit × DataW H → Nat
  | (.string bytes, d) => bytes.length + uptoBulk d + 1
  | (_, d) => uptoBulk d + 1
 end
def uptoSmall : (H : Type) → List (DataW H) → Bool := fun _ ds => decide (uptoBulkAll ds ≤ 1048576)
def OpenSpec.upto (s : _root_.Go.ChangeSpec) : _root_.Go.OpenSpec := { _root_.Go.OpenSpec.ofChange s with cond := some uptoSmall }

/-- 'fourinhandlaw22.LaneKeeps', WHERE WHAT IT READS IS OF BULK AT MOST 1048576: true; the input reads as it did. -/
def laneKeepsUptoRow : OpenClaim := { program := "ytnfgcjeenjomgaa", sum := "9feedaa10311b6f71335bc6bcc8159f543ab1724cbd1ec9e74c0d190d540d28a", func := "fourinhand/fourinhandlaw22.LaneKeeps", spec := "laneKeeps", unfollowed := true, recurses := true, apart := false, narrowed := true }
def LaneKeepsUptoSaid : Prop := laneKeepsUptoRow.holds Try.pinned (OpenSpec.upto laneKeepsSpec)

/-- 'fourinhandlaw22.LaneDrops', WHERE WHAT IT READS IS OF BULK AT MOST 1048576: true; the input reads as it did. -/
def laneDropsUptoRow : OpenClaim := { program := "ytnfgcjeenjomgaa", sum := "9feedaa10311b6f71335bc6bcc8159f543ab1724cbd1ec9e74c0d190d540d28a", func := "fourinhand/fourinhandlaw22.LaneDrops", spec := "laneDrops", unfollowed := true, recurses := true, apart := false, narrowed := true }
def LaneDropsUptoSaid : Prop := laneDropsUptoRow.holds Try.pinned (OpenSpec.upto laneDropsSpec)

/-- 'fourinhandlaw22.LaneMany', WHERE WHAT IT READS IS OF BULK AT MOST 1048576: true; the input reads as it did. -/
def laneManyUptoRow : OpenClaim := { program := "ytnfgcjeenjomgaa", sum := "9feedaa10311b6f71335bc6bcc8159f543ab1724cbd1ec9e74c0d190d540d28a", func := "fourinhand/fourinhandlaw22.LaneMany", spec := "laneMany", unfollowed := true, recurses := true, apart := false, narrowed := true }
def LaneManyUptoSaid : Prop := laneManyUptoRow.holds Try.pinned (OpenSpec.upto laneManySpec)

/-- 'fourinhandlaw22.LaneTells', WHERE WHAT IT READS IS OF BULK AT MOST 1048576: true; the input reads as it did. -/
def laneTellsUptoRow : OpenClaim := { program := "ytnfgcjeenjomgaa", sum := "9feedaa10311b6f71335bc6bcc8159f543ab1724cbd1ec9e74c0d190d540d28a", func := "fourinhand/fourinhandlaw22.LaneTells", spec := "laneTells", unfollowed := true, recurses := true, apart := false, narrowed := true }
def LaneTellsUptoSaid : Prop := laneTellsUptoRow.holds Try.pinned (OpenSpec.upto laneTellsSpec)

/-- 'fourinhandlaw22.LaneSpoils', WHERE WHAT IT READS IS OF BULK AT MOST 1048576: true; the input reads as it did. -/
def laneSpoilsUptoRow : OpenClaim := { program := "ytnfgcjeenjomgaa", sum := "9feedaa10311b6f71335bc6bcc8159f543ab1724cbd1ec9e74c0d190d540d28a", func := "fourinhand/fourinhandlaw22.LaneSpoils", spec := "laneSpoils", unfollowed := true, recurses := true, apart := false, narrowed := true }
def LaneSpoilsUptoSaid : Prop := laneSpoilsUptoRow.holds Try.pinned (OpenSpec.upto laneSpoilsSpec)

/-- 'fourinhandlaw22.LaneWrong', WHERE WHAT IT READS IS OF BULK AT MOST 1048576: true; the input reads as it did. -/
def laneWrongUptoRow : OpenClaim := { program := "ytnfgcjeenjomgaa", sum := "9feedaa10311b6f71335bc6bcc8159f543ab1724cbd1ec9e74c0d190d540d28a", func := "fourinhand/fourinhandlaw22.LaneWrong", spec := "laneWrong", unfollowed := true, recurses := true, apart := false, narrowed := true }
def LaneWrongUptoSaid : Prop := laneWrongUptoRow.holds Try.pinned (OpenSpec.upto laneWrongSpec)

end Rows
end Go.Proofs.Ytnfgcjeenjomgaa
