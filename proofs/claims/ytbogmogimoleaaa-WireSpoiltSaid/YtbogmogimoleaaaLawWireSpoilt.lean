/- The row of WireSpoilt: for every input the law answers true, and what it reads reads behind the call as it read before. -/
import Derived.Test.YtbogmogimoleaaaRows
import Derived.Test.YtbogmogimoleaaaWx0
import Derived.Test.YtbogmogimoleaaaHSpoilt
import Derived.Test.YtbogmogimoleaaaOpens
import Derived.WalkKit
import Derived.ProofKit
import Derived.OpenShut
import Derived.ShutString
import Derived.ChangeOld
import Derived.Below
import Derived.SizedLaws
namespace Go.Proofs.Ytbogmogimoleaaa.wireSpoilt
open Go.ChangeShapes Go.WideShapes Go.ChangeAt Go.RowKit Go.Proofs.YtbogmogimoleaaaW.PrintWords Go.Proofs.YtbogmogimoleaaaW.PrintLast Go.Proofs.YtbogmogimoleaaaW.PrintMore Go.Proofs.YtbogmogimoleaaaW.Opens Go.Proofs.Ytbogmogimoleaaa.W
open Go.ChangeMaps (open_string shut_string)
set_option linter.unusedVariables false
set_option linter.unusedSimpArgs false
theorem u32_wf {a : Int} (h : (Lit.int .u32 a).wf = true) : Given.u32B a := by
  simp [Lit.wf, IntKind.min, IntKind.max, IntKind.signed, IntKind.bits] at h
  unfold Given.u32B
  omega
theorem u8_wf {a : Int} (h : (Lit.int .u8 a).wf = true) : 0 ≤ a ∧ a ≤ 255 := by
  simp [Lit.wf, IntKind.min, IntKind.max, IntKind.signed, IntKind.bits] at h
  omega
theorem own : ownKnob Try.prog.godebug = none := by kernel_rfl
theorem laidOut : laidOutB Try.prog = true := by kernel_rfl
set_option maxRecDepth 100000 in
theorem lifted (os : Os) (started : os.Started) (H : Type) (enc : TypeId × Value → H) :
    ReturnsInHanded {} Try.checked os 12 .any (Rows.wireSpoiltSpec.pre6 enc Try.prog Try.f12 Rows.wireSpoiltRow.domain false) (Rows.wireSpoiltSpec.post enc Try.prog Try.f12 false true false false) := by
  refine returnsInHanded_of_change_sized (C := Try.checked) own started (by kernel_rfl) Try.func12
    (ChangeSpec.witness6 (enc := enc) (C := Try.checked) false ⟨#[], #[.agg #[.int .i64 0, .int .i64 0, .bool false, .bool false, .int .u32 0, .int .u32 0, .int .u32 0, .int .u32 0, .int .i64 0, .int .i64 0, .int .u32 0, .int .u32 0, .int .u32 0, .slice none 0 0, .slice none 0 0], .int .i64 0, .int .u8 0], []⟩ 8 (by kernel_rfl) (by kernel_rfl) (by kernel_rfl) (by kernel_rfl)) ?_
  intro W base args ds gs before hval0 hW hcnd hsz0 _
  have hval : ∀ (j : Nat) t v, Try.f12.params[j]? = some t → args[j]? = some v → Value.okWide Try.prog W .any base t v := hval0
  have hW' := hW
  obtain ⟨p, q, hA0, hV, rfl, hfz, hnd⟩ := hW
  have hA : DataW.TrodAll enc Try.prog W 0 (fun _ => true) true Try.f12.params.toList args.toList ds p := hA0
  rw [Try.params12] at hA hval
  obtain ⟨v0, vs0, d0, ds0, p0, q0, hargs, rfl, rfl, h0, r0⟩ := trodAll_cons hA
  obtain ⟨v1, vs1, d1, ds1, p1, q1, rfl, rfl, rfl, h1, r1⟩ := trodAll_cons r0
  obtain ⟨v2, vs2, d2, ds2, p2, q2, rfl, rfl, rfl, h2, r2⟩ := trodAll_cons r1
  obtain ⟨rfl, rfl, rfl⟩ := trodAll_nil r2
  obtain rfl : args = #[v0, v1, v2] := by cases args; simp_all
  obtain ⟨rfl, rfl⟩ := trodVars_none hV
  have k0 := h0
  have lt0 : ∀ x ∈ p0, x.block < W.heap.size := by obtain ⟨m, hm⟩ := k0; exact DataW.trod_lt m _ _ _ hm
  obtain ⟨c0_0, c0_1, c0_2, c0_3, c0_4, c0_5, c0_6, c0_7, c0_8, c0_9, c0_10, c0_11, c0_12, c0_13, c0_14, rfl, g0_0, g0_1, g0_2, g0_3, g0_4, g0_5, g0_6, g0_7, g0_8, g0_9, g0_10, g0_11, g0_12, g0_13, g0_14⟩ := open_fields15 Try.underlying41 (by kernel_rfl) (by kernel_rfl) (hval 0 41 v0 rfl rfl) h0
  obtain ⟨a0_0, e0_0, wf0_0⟩ : ∃ y, (Kd.int .i64).K W y [c0_0] ∧ (Lit.int .i64 y).wf = true := by
    obtain ⟨m, _, hm⟩ := g0_0
    exact (opens_int Try.underlying3) enc W 0 _ _ m _ _ hm
  replace e0_0 := (List.cons.inj e0_0).1
  subst e0_0
  obtain ⟨a0_1, e0_1, wf0_1⟩ : ∃ y, (Kd.int .i64).K W y [c0_1] ∧ (Lit.int .i64 y).wf = true := by
    obtain ⟨m, _, hm⟩ := g0_1
    exact (opens_int Try.underlying3) enc W 0 _ _ m _ _ hm
  replace e0_1 := (List.cons.inj e0_1).1
  subst e0_1
  obtain ⟨a0_2, e0_2, wf0_2⟩ : ∃ y, Kd.bool.K W y [c0_2] ∧ True := by
    obtain ⟨m, _, hm⟩ := g0_2
    exact (opens_bool Try.underlying4) enc W 0 _ _ m _ _ hm
  replace e0_2 := (List.cons.inj e0_2).1
  subst e0_2
  obtain ⟨a0_3, e0_3, wf0_3⟩ : ∃ y, Kd.bool.K W y [c0_3] ∧ True := by
    obtain ⟨m, _, hm⟩ := g0_3
    exact (opens_bool Try.underlying4) enc W 0 _ _ m _ _ hm
  replace e0_3 := (List.cons.inj e0_3).1
  subst e0_3
  obtain ⟨a0_4, e0_4, wf0_4⟩ : ∃ y, (Kd.int .u32).K W y [c0_4] ∧ (Lit.int .u32 y).wf = true := by
    obtain ⟨m, _, hm⟩ := g0_4
    exact (opens_int Try.underlying31) enc W 0 _ _ m _ _ hm
  replace e0_4 := (List.cons.inj e0_4).1
  subst e0_4
  obtain ⟨a0_5, e0_5, wf0_5⟩ : ∃ y, (Kd.int .u32).K W y [c0_5] ∧ (Lit.int .u32 y).wf = true := by
    obtain ⟨m, _, hm⟩ := g0_5
    exact (opens_int Try.underlying31) enc W 0 _ _ m _ _ hm
  replace e0_5 := (List.cons.inj e0_5).1
  subst e0_5
  obtain ⟨a0_6, e0_6, wf0_6⟩ : ∃ y, (Kd.int .u32).K W y [c0_6] ∧ (Lit.int .u32 y).wf = true := by
    obtain ⟨m, _, hm⟩ := g0_6
    exact (opens_int Try.underlying31) enc W 0 _ _ m _ _ hm
  replace e0_6 := (List.cons.inj e0_6).1
  subst e0_6
  obtain ⟨a0_7, e0_7, wf0_7⟩ : ∃ y, (Kd.int .u32).K W y [c0_7] ∧ (Lit.int .u32 y).wf = true := by
    obtain ⟨m, _, hm⟩ := g0_7
    exact (opens_int Try.underlying31) enc W 0 _ _ m _ _ hm
  replace e0_7 := (List.cons.inj e0_7).1
  subst e0_7
  obtain ⟨a0_8, e0_8, wf0_8⟩ : ∃ y, (Kd.int .i64).K W y [c0_8] ∧ (Lit.int .i64 y).wf = true := by
    obtain ⟨m, _, hm⟩ := g0_8
    exact (opens_int Try.underlying3) enc W 0 _ _ m _ _ hm
  replace e0_8 := (List.cons.inj e0_8).1
  subst e0_8
  obtain ⟨a0_9, e0_9, wf0_9⟩ : ∃ y, (Kd.int .i64).K W y [c0_9] ∧ (Lit.int .i64 y).wf = true := by
    obtain ⟨m, _, hm⟩ := g0_9
    exact (opens_int Try.underlying3) enc W 0 _ _ m _ _ hm
  replace e0_9 := (List.cons.inj e0_9).1
  subst e0_9
  obtain ⟨a0_10, e0_10, wf0_10⟩ : ∃ y, (Kd.int .u32).K W y [c0_10] ∧ (Lit.int .u32 y).wf = true := by
    obtain ⟨m, _, hm⟩ := g0_10
    exact (opens_int Try.underlying31) enc W 0 _ _ m _ _ hm
  replace e0_10 := (List.cons.inj e0_10).1
  subst e0_10
  obtain ⟨a0_11, e0_11, wf0_11⟩ : ∃ y, (Kd.int .u32).K W y [c0_11] ∧ (Lit.int .u32 y).wf = true := by
    obtain ⟨m, _, hm⟩ := g0_11
    exact (opens_int Try.underlying31) enc W 0 _ _ m _ _ hm
  replace e0_11 := (List.cons.inj e0_11).1
  subst e0_11
  obtain ⟨a0_12, e0_12, wf0_12⟩ : ∃ y, (Kd.int .u32).K W y [c0_12] ∧ (Lit.int .u32 y).wf = true := by
    obtain ⟨m, _, hm⟩ := g0_12
    exact (opens_int Try.underlying31) enc W 0 _ _ m _ _ hm
  replace e0_12 := (List.cons.inj e0_12).1
  subst e0_12
  obtain ⟨l0_13, ⟨A0_13, c0_13, e0_13, hc0_13, hr0_13⟩, wf0_13⟩ : ∃ y, (Kd.slice 58 k58).K W y [c0_13] ∧ ∀ y' ∈ y, (fun x : S58 => (Lit.int .u32 x.f0).wf = true ∧ (Lit.int .u32 x.f1).wf = true) y' := by
    obtain ⟨m, _, hm⟩ := g0_13
    exact (opens_slice Try.underlying39 (by kernel_rfl) (opens_pair (fun x : S58 => (x.f0, x.f1)) (fun q => ⟨q.1, q.2⟩) (fun _ => rfl) Try.underlying58 (by kernel_rfl) (by kernel_rfl) (opens_int Try.underlying31) (opens_int Try.underlying31))) enc W 0 _ _ m _ _ hm
  replace e0_13 := (List.cons.inj e0_13).1
  subst e0_13
  obtain ⟨l0_14, ⟨A0_14, c0_14, e0_14, hc0_14, hr0_14⟩, wf0_14⟩ : ∃ y, (Kd.slice 5 (Kd.int .u8)).K W y [c0_14] ∧ ∀ y' ∈ y, (Lit.int .u8 y').wf = true := by
    obtain ⟨m, _, hm⟩ := g0_14
    exact (opens_slice Try.underlying23 (by kernel_rfl) (opens_int Try.underlying5)) enc W 0 _ _ m _ _ hm
  replace e0_14 := (List.cons.inj e0_14).1
  subst e0_14
  obtain ⟨a1, rfl, rfl, rfl, wf1⟩ := open_int Try.underlying3 (hval 1 3 v1 rfl rfl) h1
  obtain ⟨a2, rfl, rfl, rfl, wf2⟩ := open_int Try.underlying5 (hval 2 5 v2 rfl rfl) h2
  clear hA0 hval0 hsz0
  refine (Go.Proofs.Ytbogmogimoleaaa.Given.spoilt_all a0_0 a0_1 a0_2 a0_3 a0_4 a0_5 a0_6 a0_7 a0_8 a0_9 a0_10 a0_11 a0_12 l0_13 l0_14 A0_13 c0_13 A0_14 c0_14 a1 a2 W ⟨hr0_13, hc0_13⟩ ⟨hr0_14, hc0_14⟩ ⟨u32_wf wf0_4, u32_wf wf0_5, u32_wf wf0_6, u32_wf wf0_7, u32_wf wf0_10, u32_wf wf0_11, u32_wf wf0_12, fun p hp => ⟨u32_wf (wf0_13 p hp).1, u32_wf (wf0_13 p hp).2⟩, Go.Proofs.Ytbogmogimoleaaa.Plain7.byt_wf wf0_14⟩ (u8_wf wf2)).mono fun e W' hr => ?_
  obtain ⟨he, bel⟩ := hr
  subst he
  exact ⟨_, rfl, _, _, _, [], _, [], hW', trodAll_mk1 (shut_bool Try.underlying4 _), (trodAll_cons_mk (Below.trod laidOut (by kernel_rfl) (of_decide_eq_true (by kernel_rfl)) k0 bel lt0) (trodAll_cons_mk (shut_int Try.underlying3 wf1) (trodAll_cons_mk (shut_int Try.underlying5 wf2) trodAll_mk0))), rfl, bel.frame _, fun h => by cases h⟩
theorem over : Rows.wireSpoiltRow.holds Try.pinned (OpenSpec.ofChange Rows.wireSpoiltSpec) :=
  OpenClaim.holds_of_wide 12 Try.f12 rfl rfl rfl rfl rfl rfl rfl ⟨rfl, rfl, rfl, rfl, rfl⟩ rfl rfl rfl rfl rfl (by kernel_rfl) Try.func12 (by kernel_rfl)
    (of_decide_eq_true (by kernel_rfl)) (by unfold Func.isWrapper; first | (rw [if_pos (by decide +kernel)]; kernel_rfl) | (rw [if_neg (by decide +kernel)]; exact ⟨rfl, rfl⟩))
    (fun os started H enc _ => lifted os started H enc)
theorem proved : Rows.WireSpoiltSaid := over
#print axioms proved
end Go.Proofs.Ytbogmogimoleaaa.wireSpoilt
namespace Go.Proofs.Ytbogmogimoleaaa
/-- The row, under a short name, for the claim. -/
theorem wireSpoilt_holds : Rows.WireSpoiltSaid := wireSpoilt.proved
end Go.Proofs.Ytbogmogimoleaaa
