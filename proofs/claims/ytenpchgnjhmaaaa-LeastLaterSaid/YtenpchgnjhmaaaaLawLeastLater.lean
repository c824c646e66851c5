/- The row of LeastLater: for every input the law answers true, and what it reads reads behind the call as it read before. -/
import Derived.Test.YtenpchgnjhmaaaaRows
import Derived.Test.YtenpchgnjhmaaaaSx13
import Derived.Test.YtenpchgnjhmaaaaPureLeastLater
import Derived.Test.YtenpchgnjhmaaaaOpens
import Derived.WalkKit
import Derived.ProofKit
import Derived.OpenShut
import Derived.ShutString
import Derived.ChangeOld
import Derived.Below
import Derived.SizedLaws
namespace Go.Proofs.Ytenpchgnjhmaaaa.leastLater
open Go.ChangeShapes Go.WideShapes Go.ChangeAt Go.RowKit Go.Proofs.YtenpchgnjhmaaaaW.PrintWords Go.Proofs.YtenpchgnjhmaaaaW.PrintLast Go.Proofs.YtenpchgnjhmaaaaW.PrintMore Go.Proofs.YtenpchgnjhmaaaaW.Opens Go.Proofs.Ytenpchgnjhmaaaa.S
open Go.ChangeMaps (open_string shut_string)
set_option linter.unusedVariables false
set_option linter.unusedSimpArgs false
theorem own : ownKnob Try.prog.godebug = none := by kernel_rfl
theorem laidOut : laidOutB Try.prog = true := by kernel_rfl
set_option maxRecDepth 100000 in
theorem lifted (os : Os) (started : os.Started) (H : Type) (enc : TypeId × Value → H) :
    ReturnsInHanded {} Try.checked os 6 .any (Rows.leastLaterSpec.pre6 enc Try.prog Try.f6 Rows.leastLaterRow.domain false) (Rows.leastLaterSpec.post enc Try.prog Try.f6 false true false false) := by
  refine returnsInHanded_of_change_sized (C := Try.checked) own started (by kernel_rfl) Try.func6
    (ChangeSpec.witness6 (enc := enc) (C := Try.checked) false ⟨#[], #[.agg #[.int .i64 0, .slice none 0 0, .int .i64 0], .int .i64 0, .int .i64 0, .int .i64 0], []⟩ 8 (by kernel_rfl) (by kernel_rfl) (by kernel_rfl) (by kernel_rfl)) ?_
  intro W base args ds gs before hval0 hW hcnd hsz0 _
  have hval : ∀ (j : Nat) t v, Try.f6.params[j]? = some t → args[j]? = some v → Value.okWide Try.prog W .any base t v := hval0
  have hW' := hW
  obtain ⟨p, q, hA0, hV, rfl, hfz, hnd⟩ := hW
  have hA : DataW.TrodAll enc Try.prog W 0 (fun _ => true) true Try.f6.params.toList args.toList ds p := hA0
  rw [Try.params6] at hA hval
  obtain ⟨v0, vs0, d0, ds0, p0, q0, hargs, rfl, rfl, h0, r0⟩ := trodAll_cons hA
  obtain ⟨v1, vs1, d1, ds1, p1, q1, rfl, rfl, rfl, h1, r1⟩ := trodAll_cons r0
  obtain ⟨v2, vs2, d2, ds2, p2, q2, rfl, rfl, rfl, h2, r2⟩ := trodAll_cons r1
  obtain ⟨v3, vs3, d3, ds3, p3, q3, rfl, rfl, rfl, h3, r3⟩ := trodAll_cons r2
  obtain ⟨rfl, rfl, rfl⟩ := trodAll_nil r3
  obtain rfl : args = #[v0, v1, v2, v3] := by cases args; simp_all
  obtain ⟨rfl, rfl⟩ := trodVars_none hV
  have k0 := h0
  have lt0 : ∀ x ∈ p0, x.block < W.heap.size := by obtain ⟨m, hm⟩ := k0; exact DataW.trod_lt m _ _ _ hm
  obtain ⟨c0_0, c0_1, c0_2, rfl, g0_0, g0_1, g0_2⟩ := open_fields3 Try.underlying24 (by kernel_rfl) (by kernel_rfl) (hval 0 24 v0 rfl rfl) h0
  obtain ⟨a0_0, e0_0, wf0_0⟩ : ∃ y, (Kd.int .i64).K W y [c0_0] ∧ (Lit.int .i64 y).wf = true := by
    obtain ⟨m, _, hm⟩ := g0_0
    exact (opens_int Try.underlying3) enc W 0 _ _ m _ _ hm
  replace e0_0 := (List.cons.inj e0_0).1
  subst e0_0
  obtain ⟨l0_1, ⟨A0_1, c0_1, e0_1, hc0_1, hr0_1⟩, wf0_1⟩ : ∃ y, (Kd.slice 38 k38).K W y [c0_1] ∧ ∀ y' ∈ y, (fun x : S38 => (Lit.int .i64 x.f0).wf = true ∧ (Lit.int .i64 x.f1).wf = true) y' := by
    obtain ⟨m, _, hm⟩ := g0_1
    exact (opens_slice Try.underlying22 (by kernel_rfl) (opens_pair (fun x : S38 => (x.f0, x.f1)) (fun q => ⟨q.1, q.2⟩) (fun _ => rfl) Try.underlying38 (by kernel_rfl) (by kernel_rfl) (opens_int Try.underlying3) (opens_int Try.underlying3))) enc W 0 _ _ m _ _ hm
  replace e0_1 := (List.cons.inj e0_1).1
  subst e0_1
  obtain ⟨a0_2, e0_2, wf0_2⟩ : ∃ y, (Kd.int .i64).K W y [c0_2] ∧ (Lit.int .i64 y).wf = true := by
    obtain ⟨m, _, hm⟩ := g0_2
    exact (opens_int Try.underlying3) enc W 0 _ _ m _ _ hm
  replace e0_2 := (List.cons.inj e0_2).1
  subst e0_2
  obtain ⟨a1, rfl, rfl, rfl, wf1⟩ := open_int Try.underlying3 (hval 1 3 v1 rfl rfl) h1
  obtain ⟨a2, rfl, rfl, rfl, wf2⟩ := open_int Try.underlying3 (hval 2 3 v2 rfl rfl) h2
  obtain ⟨a3, rfl, rfl, rfl, wf3⟩ := open_int Try.underlying3 (hval 3 3 v3 rfl rfl) h3
  clear hA0 hval0 hsz0
  refine (fourinhandlaw09_LeastLater.calls 400 a0_0 A0_1 c0_1 l0_1 a0_2 a1 a2 a3 true W hr0_1 hc0_1 (Pure.LeastLater a0_0 l0_1 a0_2 a1 a2 a3) rfl).mono fun e W' hr => ?_
  obtain ⟨he, bel⟩ := hr
  subst he
  exact ⟨_, rfl, _, _, _, [], _, [], hW', trodAll_mk1 (shut_bool Try.underlying4 _), (trodAll_cons_mk (Below.trod laidOut (by kernel_rfl) (of_decide_eq_true (by kernel_rfl)) k0 bel lt0) (trodAll_cons_mk (shut_int Try.underlying3 wf1) (trodAll_cons_mk (shut_int Try.underlying3 wf2) (trodAll_cons_mk (shut_int Try.underlying3 wf3) trodAll_mk0)))), rfl, bel.frame _, fun h => by cases h⟩
theorem over : Rows.leastLaterRow.holds Try.pinned (OpenSpec.ofChange Rows.leastLaterSpec) :=
  OpenClaim.holds_of_wide 6 Try.f6 rfl rfl rfl rfl rfl rfl rfl ⟨rfl, rfl, rfl, rfl, rfl⟩ rfl rfl rfl rfl rfl (by kernel_rfl) Try.func6 (by kernel_rfl)
    (of_decide_eq_true (by kernel_rfl)) (by unfold Func.isWrapper; first | (rw [if_pos (by decide +kernel)]; kernel_rfl) | (rw [if_neg (by decide +kernel)]; exact ⟨rfl, rfl⟩))
    (fun os started H enc _ => lifted os started H enc)
theorem proved : Rows.LeastLaterSaid := over
#print axioms proved
end Go.Proofs.Ytenpchgnjhmaaaa.leastLater
namespace Go.Proofs.Ytenpchgnjhmaaaa
/-- The row, under a short name, for the claim. -/
theorem leastLater_holds : Rows.LeastLaterSaid := leastLater.proved
end Go.Proofs.Ytenpchgnjhmaaaa
