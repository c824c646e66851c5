/- The row of WireGets: for every input the law answers true, and what it reads reads behind the call as it read before. -/
import Derived.Test.YtbogmogimoleaaaRows
import Derived.Test.YtbogmogimoleaaaWx0
import Derived.Test.YtbogmogimoleaaaHGets
import Derived.Test.YtbogmogimoleaaaOpens
import Derived.WalkKit
import Derived.ProofKit
import Derived.OpenShut
import Derived.ShutString
import Derived.ChangeOld
import Derived.Below
import Derived.SizedLaws
namespace Go.Proofs.Ytbogmogimoleaaa.wireGets
open Go.ChangeShapes Go.WideShapes Go.ChangeAt Go.RowKit Go.Proofs.YtbogmogimoleaaaW.PrintWords Go.Proofs.YtbogmogimoleaaaW.PrintLast Go.Proofs.YtbogmogimoleaaaW.PrintMore Go.Proofs.YtbogmogimoleaaaW.Opens Go.Proofs.Ytbogmogimoleaaa.W
open Go.ChangeMaps (open_string shut_string)
set_option linter.unusedVariables false
set_option linter.unusedSimpArgs false
theorem own : ownKnob Try.prog.godebug = none := by kernel_rfl
theorem laidOut : laidOutB Try.prog = true := by kernel_rfl
set_option maxRecDepth 100000 in
theorem lifted (os : Os) (started : os.Started) (H : Type) (enc : TypeId × Value → H) :
    ReturnsInHanded {} Try.checked os 10 .any (Rows.wireGetsSpec.pre6 enc Try.prog Try.f10 Rows.wireGetsRow.domain false) (Rows.wireGetsSpec.post enc Try.prog Try.f10 false true false false) := by
  refine returnsInHanded_of_change_sized (C := Try.checked) own started (by kernel_rfl) Try.func10
    (ChangeSpec.witness6 (enc := enc) (C := Try.checked) false ⟨#[], #[.slice none 0 0], []⟩ 8 (by kernel_rfl) (by kernel_rfl) (by kernel_rfl) (by kernel_rfl)) ?_
  intro W base args ds gs before hval0 hW hcnd hsz0 _
  have hval : ∀ (j : Nat) t v, Try.f10.params[j]? = some t → args[j]? = some v → Value.okWide Try.prog W .any base t v := hval0
  have hW' := hW
  obtain ⟨p, q, hA0, hV, rfl, hfz, hnd⟩ := hW
  have hA : DataW.TrodAll enc Try.prog W 0 (fun _ => true) true Try.f10.params.toList args.toList ds p := hA0
  rw [Try.params10] at hA hval
  obtain ⟨v0, vs0, d0, ds0, p0, q0, hargs, rfl, rfl, h0, r0⟩ := trodAll_cons hA
  obtain ⟨rfl, rfl, rfl⟩ := trodAll_nil r0
  obtain rfl : args = #[v0] := by cases args; simp_all
  obtain ⟨rfl, rfl⟩ := trodVars_none hV
  obtain ⟨a0, len0, cap0, rfl⟩ := okWide_slice Try.underlying23 (hval 0 23 v0 rfl rfl)
  have k0 := h0
  have lt0 : ∀ x ∈ p0, x.block < W.heap.size := by obtain ⟨m, hm⟩ := k0; exact DataW.trod_lt m _ _ _ hm
  obtain ⟨l0, ⟨A0, c0, e0, hc0, hr0⟩, wf0⟩ : ∃ y, (Kd.slice 5 (Kd.int .u8)).K W y [.slice a0 len0 cap0] ∧ ∀ y' ∈ y, (Lit.int .u8 y').wf = true := by
    obtain ⟨m, hm⟩ := h0
    exact (opens_slice Try.underlying23 (by kernel_rfl) (opens_int Try.underlying5)) enc W 0 _ _ m _ _ hm
  simp only [List.cons.injEq, Value.slice.injEq, and_true] at e0
  obtain ⟨rfl, rfl, rfl⟩ := e0
  clear hA0 hval0 hsz0
  refine (Go.Proofs.Ytbogmogimoleaaa.Given.gets_all a0 cap0 l0 W ⟨hr0, hc0⟩ (Go.Proofs.Ytbogmogimoleaaa.Plain7.byt_wf wf0)).mono fun e W' hr => ?_
  obtain ⟨he, bel⟩ := hr
  subst he
  exact ⟨_, rfl, _, _, _, [], _, [], hW', trodAll_mk1 (shut_bool Try.underlying4 _), (trodAll_cons_mk (Below.trod laidOut (by kernel_rfl) (of_decide_eq_true (by kernel_rfl)) k0 bel lt0) trodAll_mk0), rfl, bel.frame _, fun h => by cases h⟩
theorem over : Rows.wireGetsRow.holds Try.pinned (OpenSpec.ofChange Rows.wireGetsSpec) :=
  OpenClaim.holds_of_wide 10 Try.f10 rfl rfl rfl rfl rfl rfl rfl ⟨rfl, rfl, rfl, rfl, rfl⟩ rfl rfl rfl rfl rfl (by kernel_rfl) Try.func10 (by kernel_rfl)
    (of_decide_eq_true (by kernel_rfl)) (by unfold Func.isWrapper; first | (rw [if_pos (by decide +kernel)]; kernel_rfl) | (rw [if_neg (by decide +kernel)]; exact ⟨rfl, rfl⟩))
    (fun os started H enc _ => lifted os started H enc)
theorem proved : Rows.WireGetsSaid := over
#print axioms proved
end Go.Proofs.Ytbogmogimoleaaa.wireGets
namespace Go.Proofs.Ytbogmogimoleaaa
/-- The row, under a short name, for the claim. -/
theorem wireGets_holds : Rows.WireGetsSaid := wireGets.proved
end Go.Proofs.Ytbogmogimoleaaa
