/-
  No cell of these rows narrows 'for every input' (looked for: loops, veiled, ifaces, maps, wideKeys, modest, calm, conditions, laid).
  DERIVED. THE GIVEN ROWS OF THIS SEAT. 6 by the template 'for every input the law returns true; each argument reads behind the call as it read before'; 0 by the template 'total and deterministic' (their statements: YtiaaelokbfjpdaaTotals.lean).
  GIVEN WITH THE SEED: the statements are not yours to turn. If you find one false, say at which input.
  Laid BY PROGRAM, IN A SANDBOX (cutbox-rows.mjs): the forced cells as the released guide's own fill.sh prints them over the translation 75b054ac982a81b8… (all of the seat's roots in one cut). By AI agents, Wed Nov 11 2026. No macro, syntax, notation, axiom, sorry.
-/
import Derived.Test.YtiaaelokbfjpdaaChecked
import GoSem.Claim
import GoSem.ClaimJoined
import GoSem.ClaimMapViews
import Derived.JoinedTies
import Derived.KernelRfl
namespace Go.Proofs.Ytiaaelokbfjpdaa
/- THE CELL 'sum', in the pinned program and in every row, IS THE sha256 OF THE DUMP (.gsa) THAT YtiaaelokbfjpdaaProg.lean LOADS. Nothing in Lean hashes anything: it is a label: what it is worth is what the hold of that sum in a sandbox is worth. -/
noncomputable def Try.pinned : Pinned := { name := "ytiaaelokbfjpdaa", sum := "75b054ac982a81b87a0e6c9177d5a6be8ce2ea6f29b30e0ba9032dac69f22008", checked := Try.checked }
namespace Rows
def none {H : Type} : Left H := { results := [], args := [] }

/-- 'fourinhandlaw02.SeqnoTells': WHATEVER THE INPUT: true; the input reads as it did. -/
def seqnoTellsSpec : ChangeSpec := { name := "seqnoTells", fn := fun _ => fun
  | [d1, d2, d3, d4] => { results := [.lit (.bool true)], args := [d1, d2, d3, d4] }
  | _ => none }
def seqnoTellsRow : OpenClaim := { program := "ytiaaelokbfjpdaa", sum := "75b054ac982a81b87a0e6c9177d5a6be8ce2ea6f29b30e0ba9032dac69f22008", func := "fourinhand/fourinhandlaw02.SeqnoTells", spec := "seqnoTells", apart := false }
def SeqnoTellsSaid : Prop := seqnoTellsRow.holds Try.pinned (OpenSpec.ofChange seqnoTellsSpec)

/-- ITS FALSE NEIGHBOUR: 'it returns false'. Refute it at one input. -/
def seqnoTellsWrong : ChangeSpec := { name := "seqnoTells", fn := fun _ => fun
  | [d1, d2, d3, d4] => { results := [.lit (.bool false)], args := [d1, d2, d3, d4] }
  | _ => none }
def SeqnoTellsWrongFalsely : Prop := seqnoTellsRow.holds Try.pinned (OpenSpec.ofChange seqnoTellsWrong)

/-- 'fourinhandlaw02.SeqnoBack': WHATEVER THE INPUT: true; the input reads as it did. -/
def seqnoBackSpec : ChangeSpec := { name := "seqnoBack", fn := fun _ => fun
  | [d1, d2, d3] => { results := [.lit (.bool true)], args := [d1, d2, d3] }
  | _ => none }
def seqnoBackRow : OpenClaim := { program := "ytiaaelokbfjpdaa", sum := "75b054ac982a81b87a0e6c9177d5a6be8ce2ea6f29b30e0ba9032dac69f22008", func := "fourinhand/fourinhandlaw02.SeqnoBack", spec := "seqnoBack", apart := false }
def SeqnoBackSaid : Prop := seqnoBackRow.holds Try.pinned (OpenSpec.ofChange seqnoBackSpec)

/-- ITS FALSE NEIGHBOUR: 'it returns false'. Refute it at one input. -/
def seqnoBackWrong : ChangeSpec := { name := "seqnoBack", fn := fun _ => fun
  | [d1, d2, d3] => { results := [.lit (.bool false)], args := [d1, d2, d3] }
  | _ => none }
def SeqnoBackWrongFalsely : Prop := seqnoBackRow.holds Try.pinned (OpenSpec.ofChange seqnoBackWrong)

/-- 'fourinhandlaw02.SeqnoOrder': WHATEVER THE INPUT: true; the input reads as it did. -/
def seqnoOrderSpec : ChangeSpec := { name := "seqnoOrder", fn := fun _ => fun
  | [d1, d2, d3] => { results := [.lit (.bool true)], args := [d1, d2, d3] }
  | _ => none }
def seqnoOrderRow : OpenClaim := { program := "ytiaaelokbfjpdaa", sum := "75b054ac982a81b87a0e6c9177d5a6be8ce2ea6f29b30e0ba9032dac69f22008", func := "fourinhand/fourinhandlaw02.SeqnoOrder", spec := "seqnoOrder", apart := false }
def SeqnoOrderSaid : Prop := seqnoOrderRow.holds Try.pinned (OpenSpec.ofChange seqnoOrderSpec)

/-- ITS FALSE NEIGHBOUR: 'it returns false'. Refute it at one input. -/
def seqnoOrderWrong : ChangeSpec := { name := "seqnoOrder", fn := fun _ => fun
  | [d1, d2, d3] => { results := [.lit (.bool false)], args := [d1, d2, d3] }
  | _ => none }
def SeqnoOrderWrongFalsely : Prop := seqnoOrderRow.holds Try.pinned (OpenSpec.ofChange seqnoOrderWrong)

/-- 'fourinhandlaw02.SeqnoNear': WHATEVER THE INPUT: true; the input reads as it did. -/
def seqnoNearSpec : ChangeSpec := { name := "seqnoNear", fn := fun _ => fun
  | [d1, d2] => { results := [.lit (.bool true)], args := [d1, d2] }
  | _ => none }
def seqnoNearRow : OpenClaim := { program := "ytiaaelokbfjpdaa", sum := "75b054ac982a81b87a0e6c9177d5a6be8ce2ea6f29b30e0ba9032dac69f22008", func := "fourinhand/fourinhandlaw02.SeqnoNear", spec := "seqnoNear", apart := false }
def SeqnoNearSaid : Prop := seqnoNearRow.holds Try.pinned (OpenSpec.ofChange seqnoNearSpec)

/-- ITS FALSE NEIGHBOUR: 'it returns false'. Refute it at one input. -/
def seqnoNearWrong : ChangeSpec := { name := "seqnoNear", fn := fun _ => fun
  | [d1, d2] => { results := [.lit (.bool false)], args := [d1, d2] }
  | _ => none }
def SeqnoNearWrongFalsely : Prop := seqnoNearRow.holds Try.pinned (OpenSpec.ofChange seqnoNearWrong)

/-- 'fourinhandlaw02.SeqnoParts': WHATEVER THE INPUT: true; the input reads as it did. -/
def seqnoPartsSpec : ChangeSpec := { name := "seqnoParts", fn := fun _ => fun
  | [d1, d2, d3] => { results := [.lit (.bool true)], args := [d1, d2, d3] }
  | _ => none }
def seqnoPartsRow : OpenClaim := { program := "ytiaaelokbfjpdaa", sum := "75b054ac982a81b87a0e6c9177d5a6be8ce2ea6f29b30e0ba9032dac69f22008", func := "fourinhand/fourinhandlaw02.SeqnoParts", spec := "seqnoParts", apart := false }
def SeqnoPartsSaid : Prop := seqnoPartsRow.holds Try.pinned (OpenSpec.ofChange seqnoPartsSpec)

/-- ITS FALSE NEIGHBOUR: 'it returns false'. Refute it at one input. -/
def seqnoPartsWrong : ChangeSpec := { name := "seqnoParts", fn := fun _ => fun
  | [d1, d2, d3] => { results := [.lit (.bool false)], args := [d1, d2, d3] }
  | _ => none }
def SeqnoPartsWrongFalsely : Prop := seqnoPartsRow.holds Try.pinned (OpenSpec.ofChange seqnoPartsWrong)

/-- 'fourinhandlaw02.SeqnoLess': WHATEVER THE INPUT: true; the input reads as it did. -/
def seqnoLessSpec : ChangeSpec := { name := "seqnoLess", fn := fun _ => fun
  | [d1, d2, d3] => { results := [.lit (.bool true)], args := [d1, d2, d3] }
  | _ => none }
def seqnoLessRow : OpenClaim := { program := "ytiaaelokbfjpdaa", sum := "75b054ac982a81b87a0e6c9177d5a6be8ce2ea6f29b30e0ba9032dac69f22008", func := "fourinhand/fourinhandlaw02.SeqnoLess", spec := "seqnoLess", apart := false }
def SeqnoLessSaid : Prop := seqnoLessRow.holds Try.pinned (OpenSpec.ofChange seqnoLessSpec)

/-- ITS FALSE NEIGHBOUR: 'it returns false'. Refute it at one input. -/
def seqnoLessWrong : ChangeSpec := { name := "seqnoLess", fn := fun _ => fun
  | [d1, d2, d3] => { results := [.lit (.bool false)], args := [d1, d2, d3] }
  | _ => none }
def SeqnoLessWrongFalsely : Prop := seqnoLessRow.holds Try.pinned (OpenSpec.ofChange seqnoLessWrong)

/- THE SECOND FORM. 'bulk': how many values and letters a reading holds, each counted each time it is reached (what is shared counts as often as it is met; a slice's spare places count too). A statement '..UptoSaid' is the law's where the arguments, and the package variables that the reading takes, are together of bulk at most 1048576: NARROWER than '..Said'. Prove '..Said' where nothing that the law and all that it calls make is longer than what came in: it says more and counts as full. Else prove '..UptoSaid'. A law counts once. -/
mutual
def uptoBulk {H : Type} : DataW H → Nat
  | .lit (.string bytes) => bytes.length + 1
  | .lit _ => 1
  | .nil => 1
  | .ptr d => uptoBulk d + 1
  | .slice elems spare => uptoBulkAll elems + uptoBulkAll spare + 1
  | .agg parts => uptoBulkAll parts + 1
  | .iface _ d => uptoBulk d + 1
  | .map entries => uptoBulkEntries entries + 1
  | .held _ => 1
def uptoBulkAll {H : Type} : List (DataW H) → Nat
  | [] => 0
  | d :: r => uptoBulk d + uptoBulkAll r
def uptoBulkEntries {H : Type} : List (Lit × DataW H) → Nat
  | [] => 0
  | x :: r => uptoBulkEntry x + uptoBulkEntries r
def uptoBulkEntry {H : Type} : Lit × DataW H → Nat
  | (.string bytes, d) => bytes.length + uptoBulk d + 1
  | (_, d) => uptoBulk d + 1
 end
def uptoSmall : (H : Type) → List (DataW H) → Bool := fun _ ds => decide (uptoBulkAll ds ≤ 1048576)
def OpenSpec.upto (s : _root_.Go.ChangeSpec) : _root_.Go.OpenSpec := { _root_.Go.OpenSpec.ofChange s with cond := some uptoSmall }

/-- 'fourinhandlaw02.SeqnoTells', WHERE WHAT IT READS IS OF BULK AT MOST 1048576: true; the input reads as it did. -/
def seqnoTellsUptoRow : OpenClaim := { program := "ytiaaelokbfjpdaa", sum := "75b054ac982a81b87a0e6c9177d5a6be8ce2ea6f29b30e0ba9032dac69f22008", func := "fourinhand/fourinhandlaw02.SeqnoTells", spec := "seqnoTells", apart := false, narrowed := true }
def SeqnoTellsUptoSaid : Prop := seqnoTellsUptoRow.holds Try.pinned (OpenSpec.upto seqnoTellsSpec)

/-- 'fourinhandlaw02.SeqnoBack', WHERE WHAT IT READS IS OF BULK AT MOST 1048576: true; the input reads as it did. -/
def seqnoBackUptoRow : OpenClaim := { program := "ytiaaelokbfjpdaa", sum := "75b054ac982a81b87a0e6c9177d5a6be8ce2ea6f29b30e0ba9032dac69f22008", func := "fourinhand/fourinhandlaw02.SeqnoBack", spec := "seqnoBack", apart := false, narrowed := true }
def SeqnoBackUptoSaid : Prop := seqnoBackUptoRow.holds Try.pinned (OpenSpec.upto seqnoBackSpec)

/-- 'fourinhandlaw02.SeqnoOrder', WHERE WHAT IT READS IS OF BULK AT MOST 1048576: true; the input reads as it did. -/
def seqnoOrderUptoRow : OpenClaim := { program := "ytiaaelokbfjpdaa", sum := "75b054ac982a81b87a0e6c9177d5a6be8ce2ea6f29b30e0ba9032dac69f22008", func := "fourinhand/fourinhandlaw02.SeqnoOrder", spec := "seqnoOrder", apart := false, narrowed := true }
def SeqnoOrderUptoSaid : Prop := seqnoOrderUptoRow.holds Try.pinned (OpenSpec.upto seqnoOrderSpec)

/-- 'fourinhandlaw02.SeqnoNear', WHERE WHAT IT READS IS OF BULK AT MOST 1048576: true; the input reads as it did. -/
def seqnoNearUptoRow : OpenClaim := { program := "ytiaaelokbfjpdaa", sum := "75b054ac982a81b87a0e6c9177d5a6be8ce2ea6f29b30e0ba9032dac69f22008", func := "fourinhand/fourinhandlaw02.SeqnoNear", spec := "seqnoNear", apart := false, narrowed := true }
def SeqnoNearUptoSaid : Prop := seqnoNearUptoRow.holds Try.pinned (OpenSpec.upto seqnoNearSpec)

/-- 'fourinhandlaw02.SeqnoParts', WHERE WHAT IT READS IS OF BULK AT MOST 1048576: true; the input reads as it did. -/
def seqnoPartsUptoRow : OpenClaim := { program := "ytiaaelokbfjpdaa", sum := "75b054ac982a81b87a0e6c9177d5a6be8ce2ea6f29b30e0ba9032dac69f22008", func := "fourinhand/fourinhandlaw02.SeqnoParts", spec := "seqnoParts", apart := false, narrowed := true }
def SeqnoPartsUptoSaid : Prop := seqnoPartsUptoRow.holds Try.pinned (OpenSpec.upto seqnoPartsSpec)

/-- 'fourinhandlaw02.SeqnoLess', WHERE WHAT IT READS IS OF BULK AT MOST 1048576: true; the input reads as it did. -/
def seqnoLessUptoRow : OpenClaim := { program := "ytiaaelokbfjpdaa", sum := "75b054ac982a81b87a0e6c9177d5a6be8ce2ea6f29b30e0ba9032dac69f22008", func := "fourinhand/fourinhandlaw02.SeqnoLess", spec := "seqnoLess", apart := false, narrowed := true }
def SeqnoLessUptoSaid : Prop := seqnoLessUptoRow.holds Try.pinned (OpenSpec.upto seqnoLessSpec)

end Rows
end Go.Proofs.Ytiaaelokbfjpdaa
