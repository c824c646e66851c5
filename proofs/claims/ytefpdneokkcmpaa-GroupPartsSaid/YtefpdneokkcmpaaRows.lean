/-
  No cell of these rows narrows 'for every input' (looked for: loops, veiled, ifaces, maps, wideKeys, modest, calm, conditions, laid).
  DERIVED. THE GIVEN ROWS OF THIS SEAT. 5 by the template 'for every input the law returns true; each argument reads behind the call as it read before'; 0 by the template 'total and deterministic' (their statements: YtefpdneokkcmpaaTotals.lean).
  GIVEN WITH THE SEED: the statements are not yours to turn. If you find one false, say at which input.
  Laid BY PROGRAM, IN A SANDBOX (cutbox-rows.mjs): the forced cells as the released guide's own fill.sh prints them over the translation 1f6e4b5bc21e4245… (all of the seat's roots in one cut). By AI agents, Wed Nov 11 2026. No macro, syntax, notation, axiom, sorry.
-/
import Derived.Test.YtefpdneokkcmpaaChecked
import GoSem.Claim
import GoSem.ClaimJoined
import GoSem.ClaimMapViews
import Derived.JoinedTies
import Derived.KernelRfl
namespace Go.Proofs.Ytefpdneokkcmpaa
/- THE CELL 'sum', in the pinned program and in every row, IS THE sha256 OF THE DUMP (.gsa) THAT YtefpdneokkcmpaaProg.lean LOADS. Nothing in Lean hashes anything: it is a label: what it is worth is what the hold of that sum in a sandbox is worth. -/
noncomputable def Try.pinned : Pinned := { name := "ytefpdneokkcmpaa", sum := "1f6e4b5bc21e424580a17cb62e73e449f233b4288d20911cdba654d6e938b861", checked := Try.checked }
namespace Rows
def none {H : Type} : Left H := { results := [], args := [] }

/-- 'fourinhandlaw17.GroupParts': WHATEVER THE INPUT: true; the input reads as it did. -/
def groupPartsSpec : ChangeSpec := { name := "groupParts", fn := fun _ => fun
  | [d] => { results := [.lit (.bool true)], args := [d] }
  | _ => none }
def groupPartsRow : OpenClaim := { program := "ytefpdneokkcmpaa", sum := "1f6e4b5bc21e424580a17cb62e73e449f233b4288d20911cdba654d6e938b861", func := "fourinhand/fourinhandlaw17.GroupParts", spec := "groupParts", unfollowed := true, recurses := true, apart := false }
def GroupPartsSaid : Prop := groupPartsRow.holds Try.pinned (OpenSpec.ofChange groupPartsSpec)

/-- ITS FALSE NEIGHBOUR: 'it returns false'. Refute it at one input. -/
def groupPartsWrong : ChangeSpec := { name := "groupParts", fn := fun _ => fun
  | [d] => { results := [.lit (.bool false)], args := [d] }
  | _ => none }
def GroupPartsWrongFalsely : Prop := groupPartsRow.holds Try.pinned (OpenSpec.ofChange groupPartsWrong)

/-- 'fourinhandlaw17.GroupMore': WHATEVER THE INPUT: true; the input reads as it did. -/
def groupMoreSpec : ChangeSpec := { name := "groupMore", fn := fun _ => fun
  | [d1, d2, d3] => { results := [.lit (.bool true)], args := [d1, d2, d3] }
  | _ => none }
def groupMoreRow : OpenClaim := { program := "ytefpdneokkcmpaa", sum := "1f6e4b5bc21e424580a17cb62e73e449f233b4288d20911cdba654d6e938b861", func := "fourinhand/fourinhandlaw17.GroupMore", spec := "groupMore", unfollowed := true, recurses := true, apart := false }
def GroupMoreSaid : Prop := groupMoreRow.holds Try.pinned (OpenSpec.ofChange groupMoreSpec)

/-- ITS FALSE NEIGHBOUR: 'it returns false'. Refute it at one input. -/
def groupMoreWrong : ChangeSpec := { name := "groupMore", fn := fun _ => fun
  | [d1, d2, d3] => { results := [.lit (.bool false)], args := [d1, d2, d3] }
  | _ => none }
def GroupMoreWrongFalsely : Prop := groupMoreRow.holds Try.pinned (OpenSpec.ofChange groupMoreWrong)

/-- 'fourinhandlaw17.GroupShort': WHATEVER THE INPUT: true; the input reads as it did. -/
def groupShortSpec : ChangeSpec := { name := "groupShort", fn := fun _ => fun
  | [d] => { results := [.lit (.bool true)], args := [d] }
  | _ => none }
def groupShortRow : OpenClaim := { program := "ytefpdneokkcmpaa", sum := "1f6e4b5bc21e424580a17cb62e73e449f233b4288d20911cdba654d6e938b861", func := "fourinhand/fourinhandlaw17.GroupShort", spec := "groupShort", unfollowed := true, recurses := true, apart := false }
def GroupShortSaid : Prop := groupShortRow.holds Try.pinned (OpenSpec.ofChange groupShortSpec)

/-- ITS FALSE NEIGHBOUR: 'it returns false'. Refute it at one input. -/
def groupShortWrong : ChangeSpec := { name := "groupShort", fn := fun _ => fun
  | [d] => { results := [.lit (.bool false)], args := [d] }
  | _ => none }
def GroupShortWrongFalsely : Prop := groupShortRow.holds Try.pinned (OpenSpec.ofChange groupShortWrong)

/-- 'fourinhandlaw17.GroupTells': WHATEVER THE INPUT: true; the input reads as it did. -/
def groupTellsSpec : ChangeSpec := { name := "groupTells", fn := fun _ => fun
  | [d1, d2] => { results := [.lit (.bool true)], args := [d1, d2] }
  | _ => none }
def groupTellsRow : OpenClaim := { program := "ytefpdneokkcmpaa", sum := "1f6e4b5bc21e424580a17cb62e73e449f233b4288d20911cdba654d6e938b861", func := "fourinhand/fourinhandlaw17.GroupTells", spec := "groupTells", unfollowed := true, recurses := true, apart := false }
def GroupTellsSaid : Prop := groupTellsRow.holds Try.pinned (OpenSpec.ofChange groupTellsSpec)

/-- ITS FALSE NEIGHBOUR: 'it returns false'. Refute it at one input. -/
def groupTellsWrong : ChangeSpec := { name := "groupTells", fn := fun _ => fun
  | [d1, d2] => { results := [.lit (.bool false)], args := [d1, d2] }
  | _ => none }
def GroupTellsWrongFalsely : Prop := groupTellsRow.holds Try.pinned (OpenSpec.ofChange groupTellsWrong)

/-- 'fourinhandlaw17.GroupAdd': WHATEVER THE INPUT: true; the input reads as it did. -/
def groupAddSpec : ChangeSpec := { name := "groupAdd", fn := fun _ => fun
  | [d1, d2] => { results := [.lit (.bool true)], args := [d1, d2] }
  | _ => none }
def groupAddRow : OpenClaim := { program := "ytefpdneokkcmpaa", sum := "1f6e4b5bc21e424580a17cb62e73e449f233b4288d20911cdba654d6e938b861", func := "fourinhand/fourinhandlaw17.GroupAdd", spec := "groupAdd", unfollowed := true, recurses := true, apart := false }
def GroupAddSaid : Prop := groupAddRow.holds Try.pinned (OpenSpec.ofChange groupAddSpec)

/-- ITS FALSE NEIGHBOUR: 'it returns false'. Refute it at one input. -/
def groupAddWrong : ChangeSpec := { name := "groupAdd", fn := fun _ => fun
  | [d1, d2] => { results := [.lit (.bool false)], args := [d1, d2] }
  | _ => none }
def GroupAddWrongFalsely : Prop := groupAddRow.holds Try.pinned (OpenSpec.ofChange groupAddWrong)

/- THE SECOND FORM. 'bulk': how many values and letters a reading holds, each counted each time it is reached (what is shared counts as often as it is met; a slice's spare places count too). A statement '..UptoSaid' is the law's where the arguments, and the package variables that the reading takes, are together of bulk at most 1048576: NARROWER than '..Said'. Prove '..Said' where nothing that the law and all that it calls make is longer than what came in: it says more and counts as full. Else prove '..UptoSaid'. A law counts once. -/
mutual
def uptoBulk {H : Type} : DataW H → Nat
  | .lit (.string bytes) => bytes.length + 1
  | .lit _ => 1
  | .nil => 1
  | .ptr d => uptoBulk d + 1
  | .slice elems spare => uptoBulkAll elems + uptoBulkAll spare + 1
  | .agg parts => uptoBulkAll parts + 1
  | .iface _ d => uptoBulk d + 1
  | .map entries => uptoBulkEntries entries + 1
  | .held _ => 1
def uptoBulkAll {H : Type} : List (DataW H) → Nat
  | [] => 0
  | d :: r => uptoBulk d + uptoBulkAll r
def uptoBulkEntries {H : Type} : List (Lit × DataW H) → Nat
  | [] => 0
  | x :: r => uptoBulkEntry x + uptoBulkEntries r
def uptoBulkEntry {H : Type} : Lit × DataW H → Nat
  | (.string bytes, d) => bytes.length + uptoBulk d + 1
  | (_, d) => uptoBulk d + 1
 end
def uptoSmall : (H : Type) → List (DataW H) → Bool := fun _ ds => decide (uptoBulkAll ds ≤ 1048576)
def OpenSpec.upto (s : _root_.Go.ChangeSpec) : _root_.Go.OpenSpec := { _root_.Go.OpenSpec.ofChange s with cond := some uptoSmall }

/-- 'fourinhandlaw17.GroupParts', WHERE WHAT IT READS IS OF BULK AT MOST 1048576: true; the input reads as it did. -/
def groupPartsUptoRow : OpenClaim := { program := "ytefpdneokkcmpaa", sum := "1f6e4b5bc21e424580a17cb62e73e449f233b4288d20911cdba654d6e938b861", func := "fourinhand/fourinhandlaw17.GroupParts", spec := "groupParts", unfollowed := true, recurses := true, apart := false, narrowed := true }
def GroupPartsUptoSaid : Prop := groupPartsUptoRow.holds Try.pinned (OpenSpec.upto groupPartsSpec)

/-- 'fourinhandlaw17.GroupMore', WHERE WHAT IT READS IS OF BULK AT MOST 1048576: true; the input reads as it did. -/
def groupMoreUptoRow : OpenClaim := { program := "ytefpdneokkcmpaa", sum := "1f6e4b5bc21e424580a17cb62e73e449f233b4288d20911cdba654d6e938b861", func := "fourinhand/fourinhandlaw17.GroupMore", spec := "groupMore", unfollowed := true, recurses := true, apart := false, narrowed := true }
def GroupMoreUptoSaid : Prop := groupMoreUptoRow.holds Try.pinned (OpenSpec.upto groupMoreSpec)

/-- 'fourinhandlaw17.GroupShort', WHERE WHAT IT READS IS OF BULK AT MOST 1048576: true; the input reads as it did. -/
def groupShortUptoRow : OpenClaim := { program := "ytefpdneokkcmpaa", sum := "1f6e4b5bc21e424580a17cb62e73e449f233b4288d20911cdba654d6e938b861", func := "fourinhand/fourinhandlaw17.GroupShort", spec := "groupShort", unfollowed := true, recurses := true, apart := false, narrowed := true }
def GroupShortUptoSaid : Prop := groupShortUptoRow.holds Try.pinned (OpenSpec.upto groupShortSpec)

/-- 'fourinhandlaw17.GroupTells', WHERE WHAT IT READS IS OF BULK AT MOST 1048576: true; the input reads as it did. -/
def groupTellsUptoRow : OpenClaim := { program := "ytefpdneokkcmpaa", sum := "1f6e4b5bc21e424580a17cb62e73e449f233b4288d20911cdba654d6e938b861", func := "fourinhand/fourinhandlaw17.GroupTells", spec := "groupTells", unfollowed := true, recurses := true, apart := false, narrowed := true }
def GroupTellsUptoSaid : Prop := groupTellsUptoRow.holds Try.pinned (OpenSpec.upto groupTellsSpec)

/-- 'fourinhandlaw17.GroupAdd', WHERE WHAT IT READS IS OF BULK AT MOST 1048576: true; the input reads as it did. -/
def groupAddUptoRow : OpenClaim := { program := "ytefpdneokkcmpaa", sum := "1f6e4b5bc21e424580a17cb62e73e449f233b4288d20911cdba654d6e938b861", func := "fourinhand/fourinhandlaw17.GroupAdd", spec := "groupAdd", unfollowed := true, recurses := true, apart := false, narrowed := true }
def GroupAddUptoSaid : Prop := groupAddUptoRow.holds Try.pinned (OpenSpec.upto groupAddSpec)

end Rows
end Go.Proofs.Ytefpdneokkcmpaa
