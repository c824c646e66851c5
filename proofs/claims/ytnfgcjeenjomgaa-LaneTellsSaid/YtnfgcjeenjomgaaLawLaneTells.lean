/- The row of LaneTells: for every input the law answers true, and what it reads reads behind the call as it read before. -/
import Derived.Test.YtnfgcjeenjomgaaRows
import Derived.Test.YtnfgcjeenjomgaaSx6
import Derived.Test.YtnfgcjeenjomgaaPureLaneTells
import Derived.Test.YtnfgcjeenjomgaaOpens
import Derived.WalkKit
import Derived.ProofKit
import Derived.OpenShut
import Derived.ShutString
import Derived.ChangeOld
import Derived.Below
import Derived.SizedLaws
namespace Go.Proofs.Ytnfgcjeenjomgaa.laneTells
open Go.ChangeShapes Go.WideShapes Go.ChangeAt Go.RowKit Go.Proofs.YtnfgcjeenjomgaaW.PrintWords Go.Proofs.YtnfgcjeenjomgaaW.PrintLast Go.Proofs.YtnfgcjeenjomgaaW.PrintMore Go.Proofs.YtnfgcjeenjomgaaW.Opens Go.Proofs.Ytnfgcjeenjomgaa.S
open Go.ChangeMaps (open_string shut_string)
set_option linter.unusedVariables false
set_option linter.unusedSimpArgs false
theorem own : ownKnob Try.prog.godebug = none := by kernel_rfl
theorem laidOut : laidOutB Try.prog = true := by kernel_rfl
set_option maxRecDepth 100000 in
theorem lifted (os : Os) (started : os.Started) (H : Type) (enc : TypeId × Value → H) :
    ReturnsInHanded {} Try.checked os 6 .any (Rows.laneTellsSpec.pre6 enc Try.prog Try.f6 Rows.laneTellsRow.domain false) (Rows.laneTellsSpec.post enc Try.prog Try.f6 false true false false) := by
  refine returnsInHanded_of_change_sized (C := Try.checked) own started (by kernel_rfl) Try.func6
    (ChangeSpec.witness6 (enc := enc) (C := Try.checked) false ⟨#[], #[.slice none 0 0, .slice none 0 0, .int .i64 0, .int .i64 0, .int .u8 0], []⟩ 8 (by kernel_rfl) (by kernel_rfl) (by kernel_rfl) (by kernel_rfl)) ?_
  intro W base args ds gs before hval0 hW hcnd hsz0 _
  have hval : ∀ (j : Nat) t v, Try.f6.params[j]? = some t → args[j]? = some v → Value.okWide Try.prog W .any base t v := hval0
  have hW' := hW
  obtain ⟨p, q, hA0, hV, rfl, hfz, hnd⟩ := hW
  have hA : DataW.TrodAll enc Try.prog W 0 (fun _ => true) true Try.f6.params.toList args.toList ds p := hA0
  rw [Try.params6] at hA hval
  obtain ⟨v0, vs0, d0, ds0, p0, q0, hargs, rfl, rfl, h0, r0⟩ := trodAll_cons hA
  obtain ⟨v1, vs1, d1, ds1, p1, q1, rfl, rfl, rfl, h1, r1⟩ := trodAll_cons r0
  obtain ⟨v2, vs2, d2, ds2, p2, q2, rfl, rfl, rfl, h2, r2⟩ := trodAll_cons r1
  obtain ⟨v3, vs3, d3, ds3, p3, q3, rfl, rfl, rfl, h3, r3⟩ := trodAll_cons r2
  obtain ⟨v4, vs4, d4, ds4, p4, q4, rfl, rfl, rfl, h4, r4⟩ := trodAll_cons r3
  obtain ⟨rfl, rfl, rfl⟩ := trodAll_nil r4
  obtain rfl : args = #[v0, v1, v2, v3, v4] := by cases args; simp_all
  obtain ⟨rfl, rfl⟩ := trodVars_none hV
  obtain ⟨a0, len0, cap0, rfl⟩ := okWide_slice Try.underlying22 (hval 0 22 v0 rfl rfl)
  have k0 := h0
  have lt0 : ∀ x ∈ p0, x.block < W.heap.size := by obtain ⟨m, hm⟩ := k0; exact DataW.trod_lt m _ _ _ hm
  obtain ⟨l0, ⟨A0, c0, e0, hc0, hr0⟩, wf0⟩ : ∃ y, (Kd.slice 29 k29).K W y [.slice a0 len0 cap0] ∧ (y.length * Try.prog.bytesOf 29 ≤ reachBytes ∧ ∀ y' ∈ y, (fun x : S29 => (x.f0.length * Try.prog.bytesOf 5 ≤ reachBytes ∧ ∀ b ∈ x.f0, (Lit.int .u8 b).wf = true) ∧ True) y') := by
    obtain ⟨m, hm⟩ := h0
    exact (opens_slice Try.underlying22 (by kernel_rfl) (opens_pair (fun x : S29 => (x.f0, x.f1)) (fun q => ⟨q.1, q.2⟩) (fun _ => rfl) Try.underlying29 (by kernel_rfl) (by kernel_rfl) (opens_slice Try.underlying23 (by kernel_rfl) (opens_int Try.underlying5)) (opens_bool Try.underlying4))) enc W 0 _ _ m _ _ hm (weights_arg hsz0 (j := 0) rfl rfl)
  simp only [List.cons.injEq, Value.slice.injEq, and_true] at e0
  obtain ⟨rfl, rfl, rfl⟩ := e0
  obtain ⟨a1, len1, cap1, rfl⟩ := okWide_slice Try.underlying23 (hval 1 23 v1 rfl rfl)
  have k1 := h1
  have lt1 : ∀ x ∈ p1, x.block < W.heap.size := by obtain ⟨m, hm⟩ := k1; exact DataW.trod_lt m _ _ _ hm
  obtain ⟨l1, ⟨A1, c1, e1, hc1, hr1⟩, wf1⟩ : ∃ y, (Kd.slice 5 (Kd.int .u8)).K W y [.slice a1 len1 cap1] ∧ (y.length * Try.prog.bytesOf 5 ≤ reachBytes ∧ ∀ y' ∈ y, (Lit.int .u8 y').wf = true) := by
    obtain ⟨m, hm⟩ := h1
    exact (opens_slice Try.underlying23 (by kernel_rfl) (opens_int Try.underlying5)) enc W 0 _ _ m _ _ hm (weights_arg hsz0 (j := 1) rfl rfl)
  simp only [List.cons.injEq, Value.slice.injEq, and_true] at e1
  obtain ⟨rfl, rfl, rfl⟩ := e1
  obtain ⟨a2, rfl, rfl, rfl, wf2⟩ := open_int Try.underlying3 (hval 2 3 v2 rfl rfl) h2
  obtain ⟨a3, rfl, rfl, rfl, wf3⟩ := open_int Try.underlying3 (hval 3 3 v3 rfl rfl) h3
  obtain ⟨a4, rfl, rfl, rfl, wf4⟩ := open_int Try.underlying5 (hval 4 5 v4 rfl rfl) h4
  clear hA0 hval0 hsz0
  refine (Go.Proofs.Ytnfgcjeenjomgaa.Pure.tells_all a0 cap0 l0 a1 cap1 l1 a2 a3 a4 W ⟨hr0, hc0⟩ ⟨hr1, hc1⟩ wf0).mono fun e W' hr => ?_
  obtain ⟨he, bel⟩ := hr
  subst he
  exact ⟨_, rfl, _, _, _, [], _, [], hW', trodAll_mk1 (shut_bool Try.underlying4 _), (trodAll_cons_mk (Below.trod laidOut (by kernel_rfl) (of_decide_eq_true (by kernel_rfl)) k0 bel lt0) (trodAll_cons_mk (Below.trod laidOut (by kernel_rfl) (of_decide_eq_true (by kernel_rfl)) k1 bel lt1) (trodAll_cons_mk (shut_int Try.underlying3 wf2) (trodAll_cons_mk (shut_int Try.underlying3 wf3) (trodAll_cons_mk (shut_int Try.underlying5 wf4) trodAll_mk0))))), rfl, bel.frame _, fun h => by cases h⟩
theorem over : Rows.laneTellsRow.holds Try.pinned (OpenSpec.ofChange Rows.laneTellsSpec) :=
  OpenClaim.holds_of_wide 6 Try.f6 rfl rfl rfl rfl rfl rfl rfl ⟨rfl, rfl, rfl, rfl, rfl⟩ rfl rfl rfl rfl rfl (by kernel_rfl) Try.func6 (by kernel_rfl)
    (of_decide_eq_true (by kernel_rfl)) (by unfold Func.isWrapper; first | (rw [if_pos (by decide +kernel)]; kernel_rfl) | (rw [if_neg (by decide +kernel)]; exact ⟨rfl, rfl⟩))
    (fun os started H enc _ => lifted os started H enc)
theorem proved : Rows.LaneTellsSaid := over
#print axioms proved
end Go.Proofs.Ytnfgcjeenjomgaa.laneTells
namespace Go.Proofs.Ytnfgcjeenjomgaa
/-- The row, under a short name, for the claim. -/
theorem laneTells_holds : Rows.LaneTellsSaid := laneTells.proved
end Go.Proofs.Ytnfgcjeenjomgaa
