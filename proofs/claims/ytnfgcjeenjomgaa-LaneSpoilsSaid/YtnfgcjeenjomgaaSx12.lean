/- What the program's functions compute, as plain functions, and that they do: walks laid by a program of the session's. -/
import Derived.Test.YtnfgcjeenjomgaaSx0
import Derived.Test.YtnfgcjeenjomgaaSx6
import Derived.Test.YtnfgcjeenjomgaaGMark
import Derived.Test.YtnfgcjeenjomgaaGSpoil
import Derived.Test.YtnfgcjeenjomgaaGAwake
namespace Go.Proofs.Ytnfgcjeenjomgaa.S
open Go.RowKit Go.Proofs.YtnfgcjeenjomgaaW.PrintWords Go.Proofs.YtnfgcjeenjomgaaW.PrintLast Go.Proofs.YtnfgcjeenjomgaaW.PrintMore
open Go.Proofs.Ytnfgcjeenjomgaa.Given
attribute [local go_sem] max2_int min2_int max_two min_two max_three min_three max_four min_four   -- for this text's walks alone
set_option linter.unusedVariables false
set_option linter.unusedSimpArgs false

/-! ### fourinhandlaw22_LaneSpoils: function 7 -/
mutual
def fourinhandlaw22_LaneSpoils.j0 : Nat → List (S29) → Int → Int → Int → Bool → Bool → Option (Bool)
  | 0, _, _, _, _, _, _ => none
  | k + 1, x0, x1, x2, x3, x9, x27 => if x27 = true then (some x9) else ((lane_Spoil.f x0 x1 x2 x3).bind fun bt359 => ((lane_Spoil.f bt359.1 x1 x2 x3).bind fun bt363 => ((lane_Mark.f x0 x1).bind fun bt367 => (if (bt359.2 != bt363.2) = true then (fourinhandlaw22_LaneSpoils.j1 k x0 x1 bt367.1 bt367.2 true) else ((fourinhandref22_Same.f k bt363.1 x0).bind fun t371 => (if t371 = true then (if (bt367.1.length : Int) = (x0.length : Int) then (if bt359.2 = true then (fourinhandlaw22_LaneSpoils.j1 k x0 x1 bt367.1 bt367.2 (!bt367.2)) else (fourinhandlaw22_LaneSpoils.j1 k x0 x1 bt367.1 bt367.2 false)) else (fourinhandlaw22_LaneSpoils.j1 k x0 x1 bt367.1 bt367.2 true)) else (fourinhandlaw22_LaneSpoils.j1 k x0 x1 bt367.1 bt367.2 true)))))))
def fourinhandlaw22_LaneSpoils.j1 : Nat → List (S29) → Int → List (S29) → Bool → Bool → Option (Bool)
  | 0, _, _, _, _, _ => none
  | k + 1, x0, x1, x15, x16, x73 => if x73 = true then (some false) else (fourinhandlaw22_LaneSpoils.l0 k x0 x1 x15 x16 0)
def fourinhandlaw22_LaneSpoils.l0 : Nat → List (S29) → Int → List (S29) → Bool → Int → Option (Bool)
  | 0, _, _, _, _, _ => none
  | k + 1, x0, x1, x15, x16, x17 => if x17 < (x0.length : Int) then (if 0 ≤ x17 then (if x17 < (x15.length : Int) then ((fourinhandref03_Same.f k ((rd_T29 x15 x17).f0) ((rd_T29 x0 x17).f0)).bind fun t374 => (if t374 = true then (if (rd_T29 x0 x17).f1 = true then (if (((rd_T29 x15 x17).f1) != true) = true then (some false) else (fourinhandlaw22_LaneSpoils.l0 k x0 x1 x15 x16 (wrap64 (x17 + 1)))) else (if x16 = true then (if (((rd_T29 x15 x17).f1) != (x17 == x1)) = true then (some false) else (fourinhandlaw22_LaneSpoils.l0 k x0 x1 x15 x16 (wrap64 (x17 + 1)))) else (if (((rd_T29 x15 x17).f1) != false) = true then (some false) else (fourinhandlaw22_LaneSpoils.l0 k x0 x1 x15 x16 (wrap64 (x17 + 1)))))) else (some false))) else (none)) else (none)) else (some true)
end
def fourinhandlaw22_LaneSpoils.f (k : Nat) (l0 : List (S29)) (a1 : Int) (a2 : Int) (a3 : Int) : Option (Bool) := (fourinhandlaw22_awake.f).bind fun t357 => ((fourinhandlaw22_few.f k l0).bind fun t358 => (if t357 = true then (fourinhandlaw22_LaneSpoils.j0 k l0 a1 a2 a3 t357 (!t358)) else (fourinhandlaw22_LaneSpoils.j0 k l0 a1 a2 a3 t357 true)))
theorem fourinhandlaw22_LaneSpoils.mono_l : ∀ k, (∀ y0 y1 y2 y3 y4 y5, LeO (fourinhandlaw22_LaneSpoils.j0 k y0 y1 y2 y3 y4 y5) (fourinhandlaw22_LaneSpoils.j0 (k + 1) y0 y1 y2 y3 y4 y5)) ∧ (∀ y0 y1 y2 y3 y4, LeO (fourinhandlaw22_LaneSpoils.j1 k y0 y1 y2 y3 y4) (fourinhandlaw22_LaneSpoils.j1 (k + 1) y0 y1 y2 y3 y4)) ∧ (∀ y0 y1 y2 y3 y4, LeO (fourinhandlaw22_LaneSpoils.l0 k y0 y1 y2 y3 y4) (fourinhandlaw22_LaneSpoils.l0 (k + 1) y0 y1 y2 y3 y4))
  | 0 => ⟨fun _ _ _ _ _ _ r h => by simp [fourinhandlaw22_LaneSpoils.j0] at h, fun _ _ _ _ _ r h => by simp [fourinhandlaw22_LaneSpoils.j1] at h, fun _ _ _ _ _ r h => by simp [fourinhandlaw22_LaneSpoils.l0] at h⟩
  | k + 1 => by
    obtain ⟨ih0, ih1, ih2⟩ := fourinhandlaw22_LaneSpoils.mono_l k
    refine ⟨?_, ?_, ?_⟩
    · intro y0 y1 y2 y3 y4 y5
      unfold fourinhandlaw22_LaneSpoils.j0
      repeat' first
      | (with_reducible exact ih0 _ _ _ _ _ _)
      | (with_reducible exact ih1 _ _ _ _ _)
      | (with_reducible exact ih2 _ _ _ _ _)
      | (with_reducible exact fourinhandlaw22_few.mono _ _)
      | (with_reducible exact fourinhandref03_Same.mono _ _ _)
      | (with_reducible exact fourinhandref22_Same.mono _ _ _)
      | (with_reducible exact LeO.refl _)
      | (with_reducible exact LeO.none _)
      | (with_reducible refine LeO.ite ?_ ?_)
      | (with_reducible refine LeO.bind ?_ (fun _ => ?_))
      | exact ih0 _ _ _ _ _ _
      | exact ih1 _ _ _ _ _
      | exact ih2 _ _ _ _ _
      | exact fourinhandlaw22_few.mono _ _
      | exact fourinhandref03_Same.mono _ _ _
      | exact fourinhandref22_Same.mono _ _ _
      | exact LeO.none _
      | refine LeO.ite ?_ ?_
      | refine LeO.bind ?_ (fun _ => ?_)
    · intro y0 y1 y2 y3 y4
      unfold fourinhandlaw22_LaneSpoils.j1
      repeat' first
      | (with_reducible exact ih0 _ _ _ _ _ _)
      | (with_reducible exact ih1 _ _ _ _ _)
      | (with_reducible exact ih2 _ _ _ _ _)
      | (with_reducible exact fourinhandlaw22_few.mono _ _)
      | (with_reducible exact fourinhandref03_Same.mono _ _ _)
      | (with_reducible exact fourinhandref22_Same.mono _ _ _)
      | (with_reducible exact LeO.refl _)
      | (with_reducible exact LeO.none _)
      | (with_reducible refine LeO.ite ?_ ?_)
      | (with_reducible refine LeO.bind ?_ (fun _ => ?_))
      | exact ih0 _ _ _ _ _ _
      | exact ih1 _ _ _ _ _
      | exact ih2 _ _ _ _ _
      | exact fourinhandlaw22_few.mono _ _
      | exact fourinhandref03_Same.mono _ _ _
      | exact fourinhandref22_Same.mono _ _ _
      | exact LeO.none _
      | refine LeO.ite ?_ ?_
      | refine LeO.bind ?_ (fun _ => ?_)
    · intro y0 y1 y2 y3 y4
      unfold fourinhandlaw22_LaneSpoils.l0
      repeat' first
      | (with_reducible exact ih0 _ _ _ _ _ _)
      | (with_reducible exact ih1 _ _ _ _ _)
      | (with_reducible exact ih2 _ _ _ _ _)
      | (with_reducible exact fourinhandlaw22_few.mono _ _)
      | (with_reducible exact fourinhandref03_Same.mono _ _ _)
      | (with_reducible exact fourinhandref22_Same.mono _ _ _)
      | (with_reducible exact LeO.refl _)
      | (with_reducible exact LeO.none _)
      | (with_reducible refine LeO.ite ?_ ?_)
      | (with_reducible refine LeO.bind ?_ (fun _ => ?_))
      | exact ih0 _ _ _ _ _ _
      | exact ih1 _ _ _ _ _
      | exact ih2 _ _ _ _ _
      | exact fourinhandlaw22_few.mono _ _
      | exact fourinhandref03_Same.mono _ _ _
      | exact fourinhandref22_Same.mono _ _ _
      | exact LeO.none _
      | refine LeO.ite ?_ ?_
      | refine LeO.bind ?_ (fun _ => ?_)
theorem fourinhandlaw22_LaneSpoils.mono : ∀ a0 a1 a2 a3 k, LeO (fourinhandlaw22_LaneSpoils.f k a0 a1 a2 a3) (fourinhandlaw22_LaneSpoils.f (k + 1) a0 a1 a2 a3) := by
  intro a0 a1 a2 a3 k
  obtain ⟨ih0, ih1, ih2⟩ := fourinhandlaw22_LaneSpoils.mono_l k
  unfold fourinhandlaw22_LaneSpoils.f
  repeat' first
      | (with_reducible exact ih0 _ _ _ _ _ _)
      | (with_reducible exact ih1 _ _ _ _ _)
      | (with_reducible exact ih2 _ _ _ _ _)
      | (with_reducible exact fourinhandlaw22_few.mono _ _)
      | (with_reducible exact fourinhandref03_Same.mono _ _ _)
      | (with_reducible exact fourinhandref22_Same.mono _ _ _)
      | (with_reducible exact LeO.refl _)
      | (with_reducible exact LeO.none _)
      | (with_reducible refine LeO.ite ?_ ?_)
      | (with_reducible refine LeO.bind ?_ (fun _ => ?_))
      | exact ih0 _ _ _ _ _ _
      | exact ih1 _ _ _ _ _
      | exact ih2 _ _ _ _ _
      | exact fourinhandlaw22_few.mono _ _
      | exact fourinhandref03_Same.mono _ _ _
      | exact fourinhandref22_Same.mono _ _ _
      | exact LeO.none _
      | refine LeO.ite ?_ ?_
      | refine LeO.bind ?_ (fun _ => ?_)
set_option maxHeartbeats 8000000 in
set_option maxRecDepth 100000 in
theorem fourinhandlaw22_LaneSpoils.calls (k : Nat) (A0 : Option Addr) (c0 : Nat) (l0 : List (S29)) (a1 : Int) (a2 : Int) (a3 : Int) (r : Bool) (w : World) (hr0 : Kd.C k29 w A0 l0.length l0) (hc0 : l0.length ≤ c0) (h : fourinhandlaw22_LaneSpoils.f k l0 a1 a2 a3 = some r) (htr1 : r = true) :
    Calls Try.prog 7 #[.slice A0 l0.length c0, .int .i64 a1, .int .i64 a2, .int .u8 a3] w fun e w' => e = .returned (.bool r) ∧ Below w.heap.size w w' := by
  have HR0 := Aside0.mk hr0
  have HC0 := Aside0.mk hc0
  clear hr0 hc0
  have HB := Aside0.mk (Below.refl w.heap.size w)
  have H : ((fourinhandlaw22_awake.f).bind fun t357 => ((fourinhandlaw22_few.f k l0).bind fun t358 => (if t357 = true then (fourinhandlaw22_LaneSpoils.j0 k l0 a1 a2 a3 t357 (!t358)) else (fourinhandlaw22_LaneSpoils.j0 k l0 a1 a2 a3 t357 true)))) = some r := h
  clear h
  replace H := Option.bind_eq_some_iff.mp H
  obtain ⟨t357, A50, H⟩ := H
  replace H : ((fourinhandlaw22_few.f k l0).bind fun t358 => (if t357 = true then (fourinhandlaw22_LaneSpoils.j0 k l0 a1 a2 a3 t357 (!t358)) else (fourinhandlaw22_LaneSpoils.j0 k l0 a1 a2 a3 t357 true))) = some r := H
  have A5 := Aside0.mk A50
  clear A50
  replace H := Option.bind_eq_some_iff.mp H
  obtain ⟨t358, A60, H⟩ := H
  replace H : (if t357 = true then (fourinhandlaw22_LaneSpoils.j0 k l0 a1 a2 a3 t357 (!t358)) else (fourinhandlaw22_LaneSpoils.j0 k l0 a1 a2 a3 t357 true)) = some r := H
  have A6 := Aside0.mk A60
  clear A60
  have HC7 := Aside0.mk H
  clear H
  go_enter Try.func7, Try.ntmps7
  go_upto_region 3 with (first | (go_at_call 9; (with_reducible refine (fourinhandlaw22_awake.calls  t357 _ A5.out).mono ?_); rintro e w8 ⟨rfl, hb⟩; have n0_ := Aside0.mk (below_step (by repeat (first | (with_reducible first | exact HB.out | apply below_alloc | apply pw_below_drewN | apply below_drew1) | exact HB.out)) hb); clear HB; have HB := n0_; clear n0_; (try clear hb); (try clear hb2); (try clear hk); (try clear hi)) | (go_at_call 10; (with_reducible refine (fourinhandlaw22_few.calls k _ _ l0 t358 _ ?side1 ?side2 A6.out).mono ?_); (case side1 => repeat (first | exact (Kd.C_below HR0.out HB.out) | (with_reducible refine Kd.C_alloc ?_ _) | (with_reducible refine Kd.C_drewN ?_ _) | (with_reducible refine Kd.C_drew ?_))); (case side2 => exact HC0.out); rintro e w' ⟨rfl, ⟨nd, rfl⟩⟩; (try first | exact ⟨rfl, _, World.drewN_drewN _ _ _⟩ | exact ⟨rfl, _, Eq.trans (World.drewN_drewN _ _ _) (congrArg (World.drewN _) (Nat.add_assoc _ _ _))⟩)))
  repeat (go_quiet (first | (go_at_call 9; (with_reducible refine (fourinhandlaw22_awake.calls  t357 _ A5.out).mono ?_); rintro e w8 ⟨rfl, hb⟩; have n0_ := Aside0.mk (below_step (by repeat (first | (with_reducible first | exact HB.out | apply below_alloc | apply pw_below_drewN | apply below_drew1) | exact HB.out)) hb); clear HB; have HB := n0_; clear n0_; (try clear hb); (try clear hb2); (try clear hk); (try clear hi)) | (go_at_call 10; (with_reducible refine (fourinhandlaw22_few.calls k _ _ l0 t358 _ ?side1 ?side2 A6.out).mono ?_); (case side1 => repeat (first | exact (Kd.C_below HR0.out HB.out) | (with_reducible refine Kd.C_alloc ?_ _) | (with_reducible refine Kd.C_drewN ?_ _) | (with_reducible refine Kd.C_drew ?_))); (case side2 => exact HC0.out); rintro e w' ⟨rfl, ⟨nd, rfl⟩⟩; (try first | exact ⟨rfl, _, World.drewN_drewN _ _ _⟩ | exact ⟨rfl, _, Eq.trans (World.drewN_drewN _ _ _) (congrArg (World.drewN _) (Nat.add_assoc _ _ _))⟩))); go_upto_region 3 with (first | (go_at_call 9; (with_reducible refine (fourinhandlaw22_awake.calls  t357 _ A5.out).mono ?_); rintro e w8 ⟨rfl, hb⟩; have n0_ := Aside0.mk (below_step (by repeat (first | (with_reducible first | exact HB.out | apply below_alloc | apply pw_below_drewN | apply below_drew1) | exact HB.out)) hb); clear HB; have HB := n0_; clear n0_; (try clear hb); (try clear hb2); (try clear hk); (try clear hi)) | (go_at_call 10; (with_reducible refine (fourinhandlaw22_few.calls k _ _ l0 t358 _ ?side1 ?side2 A6.out).mono ?_); (case side1 => repeat (first | exact (Kd.C_below HR0.out HB.out) | (with_reducible refine Kd.C_alloc ?_ _) | (with_reducible refine Kd.C_drewN ?_ _) | (with_reducible refine Kd.C_drew ?_))); (case side2 => exact HC0.out); rintro e w' ⟨rfl, ⟨nd, rfl⟩⟩; (try first | exact ⟨rfl, _, World.drewN_drewN _ _ _⟩ | exact ⟨rfl, _, Eq.trans (World.drewN_drewN _ _ _) (congrArg (World.drewN _) (Nat.add_assoc _ _ _))⟩))))
  (try simp only [Act.put, List.setIfInBounds_toArray, List.set_cons_zero, List.set_cons_succ])
  go_cut [27] (fun v27 wc => ∃ (kq : Nat) (x27_6 : Bool), v27 = .bool x27_6 ∧ Aside0 (fourinhandlaw22_LaneSpoils.j0 kq l0 a1 a2 a3 t357 x27_6 = some r) ∧ Aside0 (kq ≤ k) ∧ Aside0 (Below w.heap.size w wc))
  case first =>
    have H := HC7.out
    clear HC7
    by_cases c9 : t357 = true
    · subst c9
      have H1 : (fourinhandlaw22_LaneSpoils.j0 k l0 a1 a2 a3 true (!t358)) = some r := by rw [if_pos rfl] at H; exact H
      clear H
      have H := H1
      clear H1
      have H' := Aside0.mk H
      clear H
      go_wp2
      repeat (go_quiet (fail); try go_wp2)
      go_meet
      case rel => exact ⟨_, (!t358), (by first | rfl | (simp; done) | (simp [*]; done)), H', ⟨by first | omega | exact Nat.le_refl _⟩, ⟨by repeat (first | (with_reducible first | exact HB.out | apply below_alloc | apply pw_below_drewN | apply below_drew1) | exact HB.out)⟩⟩
    · replace c9 := Bool.eq_false_iff.mpr c9
      subst c9
      have H1 : (fourinhandlaw22_LaneSpoils.j0 k l0 a1 a2 a3 false true) = some r := by rw [if_neg (show ¬ (false = true) by decide)] at H; exact H
      clear H
      have H := H1
      clear H1
      have H' := Aside0.mk H
      clear H
      go_wp2
      repeat (go_quiet (fail); try go_wp2)
      go_meet
      case rel => exact ⟨_, (true), (by first | rfl | (simp; done) | (simp [*]; done)), H', ⟨by first | omega | exact Nat.le_refl _⟩, ⟨by repeat (first | (with_reducible first | exact HB.out | apply below_alloc | apply pw_below_drewN | apply below_drew1) | exact HB.out)⟩⟩
  case rest =>
    clear HC7
    try clear p2
    try clear c7
    try clear c9
    obtain ⟨kq, x27_6, rfl, HA, HJ6, HB⟩ := hcut
    cases kq with
    | zero => exact absurd HA.out (by simp [fourinhandlaw22_LaneSpoils.j0])
    | succ kj6 =>
      have H := HA.out
      clear HA
      simp only [fourinhandlaw22_LaneSpoils.j0] at H
      by_cases c10 : x27_6 = true
      · subst c10
        have H1 : (some t357) = some r := by rw [if_pos rfl] at H; exact H
        clear H
        have H := H1
        clear H1
        obtain rfl := Option.some.inj H
        go_wp2
        repeat (go_quiet (fail); try go_wp2)
        go_ret
        exact ⟨by first | rfl | (simp [errW_none, errW_some] <;> rfl) | (simp [*, errW_none, errW_some] <;> rfl), by repeat (first | (with_reducible first | exact HB.out | apply below_alloc | apply pw_below_drewN | apply below_drew1) | exact HB.out)⟩
      · replace c10 := Bool.eq_false_iff.mpr c10
        subst c10
        have H1 : ((lane_Spoil.f l0 a1 a2 a3).bind fun bt359 => ((lane_Spoil.f bt359.1 a1 a2 a3).bind fun bt363 => ((lane_Mark.f l0 a1).bind fun bt367 => (if (bt359.2 != bt363.2) = true then (fourinhandlaw22_LaneSpoils.j1 kj6 l0 a1 bt367.1 bt367.2 true) else ((fourinhandref22_Same.f kj6 bt363.1 l0).bind fun t371 => (if t371 = true then (if (bt367.1.length : Int) = (l0.length : Int) then (if bt359.2 = true then (fourinhandlaw22_LaneSpoils.j1 kj6 l0 a1 bt367.1 bt367.2 (!bt367.2)) else (fourinhandlaw22_LaneSpoils.j1 kj6 l0 a1 bt367.1 bt367.2 false)) else (fourinhandlaw22_LaneSpoils.j1 kj6 l0 a1 bt367.1 bt367.2 true)) else (fourinhandlaw22_LaneSpoils.j1 kj6 l0 a1 bt367.1 bt367.2 true))))))) = some r := by rw [if_neg (show ¬ (false = true) by decide)] at H; exact H
        clear H
        have H := H1
        clear H1
        replace H := Option.bind_eq_some_iff.mp H
        obtain ⟨⟨t359, t360⟩, A110, H⟩ := H
        replace H : ((lane_Spoil.f t359 a1 a2 a3).bind fun bt363 => ((lane_Mark.f l0 a1).bind fun bt367 => (if (t360 != bt363.2) = true then (fourinhandlaw22_LaneSpoils.j1 kj6 l0 a1 bt367.1 bt367.2 true) else ((fourinhandref22_Same.f kj6 bt363.1 l0).bind fun t371 => (if t371 = true then (if (bt367.1.length : Int) = (l0.length : Int) then (if t360 = true then (fourinhandlaw22_LaneSpoils.j1 kj6 l0 a1 bt367.1 bt367.2 (!bt367.2)) else (fourinhandlaw22_LaneSpoils.j1 kj6 l0 a1 bt367.1 bt367.2 false)) else (fourinhandlaw22_LaneSpoils.j1 kj6 l0 a1 bt367.1 bt367.2 true)) else (fourinhandlaw22_LaneSpoils.j1 kj6 l0 a1 bt367.1 bt367.2 true)))))) = some r := H
        have A11 := Aside0.mk A110
        clear A110
        replace H := Option.bind_eq_some_iff.mp H
        obtain ⟨⟨t363, t364⟩, A120, H⟩ := H
        replace H : ((lane_Mark.f l0 a1).bind fun bt367 => (if (t360 != t364) = true then (fourinhandlaw22_LaneSpoils.j1 kj6 l0 a1 bt367.1 bt367.2 true) else ((fourinhandref22_Same.f kj6 t363 l0).bind fun t371 => (if t371 = true then (if (bt367.1.length : Int) = (l0.length : Int) then (if t360 = true then (fourinhandlaw22_LaneSpoils.j1 kj6 l0 a1 bt367.1 bt367.2 (!bt367.2)) else (fourinhandlaw22_LaneSpoils.j1 kj6 l0 a1 bt367.1 bt367.2 false)) else (fourinhandlaw22_LaneSpoils.j1 kj6 l0 a1 bt367.1 bt367.2 true)) else (fourinhandlaw22_LaneSpoils.j1 kj6 l0 a1 bt367.1 bt367.2 true))))) = some r := H
        have A12 := Aside0.mk A120
        clear A120
        replace H := Option.bind_eq_some_iff.mp H
        obtain ⟨⟨t367, t368⟩, A130, H⟩ := H
        replace H : (if (t360 != t364) = true then (fourinhandlaw22_LaneSpoils.j1 kj6 l0 a1 t367 t368 true) else ((fourinhandref22_Same.f kj6 t363 l0).bind fun t371 => (if t371 = true then (if (t367.length : Int) = (l0.length : Int) then (if t360 = true then (fourinhandlaw22_LaneSpoils.j1 kj6 l0 a1 t367 t368 (!t368)) else (fourinhandlaw22_LaneSpoils.j1 kj6 l0 a1 t367 t368 false)) else (fourinhandlaw22_LaneSpoils.j1 kj6 l0 a1 t367 t368 true)) else (fourinhandlaw22_LaneSpoils.j1 kj6 l0 a1 t367 t368 true)))) = some r := H
        have A13 := Aside0.mk A130
        clear A130
        have HC14 := Aside0.mk H
        clear H
        go_upto_region 8 with (first | (go_at_call 23; (with_reducible refine (lane_Spoil.calls _ _ l0 a1 a2 a3 t359 t360 _ ?side1 ?side2 A11.out).mono ?_); (case side1 => repeat (first | exact (Kd.C_below HR0.out HB.out) | (with_reducible refine Kd.C_alloc ?_ _) | (with_reducible refine Kd.C_drewN ?_ _) | (with_reducible refine Kd.C_drew ?_))); (case side2 => exact HC0.out); rintro e w15 ⟨v361, rfl, ho0, hb⟩; have n0_ := Aside0.mk (Kd.S_lower ho0 (below_size (by repeat (first | (with_reducible first | exact HB.out | apply below_alloc | apply pw_below_drewN | apply below_drew1) | exact HB.out)))); have n1_ := Aside0.mk (below_step (by repeat (first | (with_reducible first | exact HB.out | apply below_alloc | apply pw_below_drewN | apply below_drew1) | exact HB.out)) hb); clear HB; have HO362 := n0_; have HB := n1_; clear n0_ n1_; (try clear hb); (try clear hb2); (try clear hk); (try clear hi); (try clear ho0); obtain ⟨Ao16, co16, eo16⟩ := Kd.S_slice HO362.out; subst eo16) | (go_at_call 23; (with_reducible refine (lane_Spoil.calls _ _ t359 a1 a2 a3 t363 t364 _ ?side1 ?side2 A12.out).mono ?_); (case side1 => repeat (first | exact (Kd.S_reads' HO362.out).2.2 | (with_reducible refine Kd.C_alloc ?_ _) | (with_reducible refine Kd.C_drewN ?_ _) | (with_reducible refine Kd.C_drew ?_))); (case side2 => exact (Kd.S_reads' HO362.out).2.1); rintro e w17 ⟨v365, rfl, ho0, hb⟩; have n0_ := Aside0.mk (Kd.S_elder' (by (with_reducible repeat (first | apply Kd.S_alloc | apply Kd.S_drewN | apply Kd.S_drew)); exact HO362.out) (Kd.S_base ho0) hb); have n1_ := Aside0.mk (Kd.S_lower (Kd.S_new' ho0 (Kd.S_lt (by (with_reducible repeat (first | apply Kd.S_alloc | apply Kd.S_drewN | apply Kd.S_drew)); exact HO362.out))) (below_size (by repeat (first | (with_reducible first | exact HB.out | apply below_alloc | apply pw_below_drewN | apply below_drew1) | exact HB.out)))); have n2_ := Aside0.mk (below_step (by repeat (first | (with_reducible first | exact HB.out | apply below_alloc | apply pw_below_drewN | apply below_drew1) | exact HB.out)) hb); clear HO362; clear HB; have HO362 := n0_; have HO366 := n1_; have HB := n2_; clear n0_ n1_ n2_; (try clear hb); (try clear hb2); (try clear hk); (try clear hi); (try clear ho0)) | (go_at_call 21; (with_reducible refine (lane_Mark.calls _ _ l0 a1 t367 t368 _ ?side1 ?side2 A13.out).mono ?_); (case side1 => repeat (first | exact (Kd.C_below HR0.out HB.out) | (with_reducible refine Kd.C_alloc ?_ _) | (with_reducible refine Kd.C_drewN ?_ _) | (with_reducible refine Kd.C_drew ?_))); (case side2 => exact HC0.out); rintro e w18 ⟨v369, rfl, ho0, hb⟩; have n0_ := Aside0.mk (Kd.S_elder' (by (with_reducible repeat (first | apply Kd.S_alloc | apply Kd.S_drewN | apply Kd.S_drew)); exact HO362.out) (Kd.S_base ho0) hb); have n1_ := Aside0.mk (Kd.S_elder' (by (with_reducible repeat (first | apply Kd.S_alloc | apply Kd.S_drewN | apply Kd.S_drew)); exact HO366.out) (Kd.S_base ho0) hb); have n2_ := Aside0.mk (Kd.S_lower (Kd.S_new' (Kd.S_new' ho0 (Kd.S_lt (by (with_reducible repeat (first | apply Kd.S_alloc | apply Kd.S_drewN | apply Kd.S_drew)); exact HO362.out))) (Kd.S_lt (by (with_reducible repeat (first | apply Kd.S_alloc | apply Kd.S_drewN | apply Kd.S_drew)); exact HO366.out))) (below_size (by repeat (first | (with_reducible first | exact HB.out | apply below_alloc | apply pw_below_drewN | apply below_drew1) | exact HB.out)))); have n3_ := Aside0.mk (below_step (by repeat (first | (with_reducible first | exact HB.out | apply below_alloc | apply pw_below_drewN | apply below_drew1) | exact HB.out)) hb); clear HO362; clear HO366; clear HB; have HO362 := n0_; have HO366 := n1_; have HO370 := n2_; have HB := n3_; clear n0_ n1_ n2_ n3_; (try clear hb); (try clear hb2); (try clear hk); (try clear hi); (try clear ho0)))
        repeat (go_quiet (first | (go_at_call 23; (with_reducible refine (lane_Spoil.calls _ _ l0 a1 a2 a3 t359 t360 _ ?side1 ?side2 A11.out).mono ?_); (case side1 => repeat (first | exact (Kd.C_below HR0.out HB.out) | (with_reducible refine Kd.C_alloc ?_ _) | (with_reducible refine Kd.C_drewN ?_ _) | (with_reducible refine Kd.C_drew ?_))); (case side2 => exact HC0.out); rintro e w15 ⟨v361, rfl, ho0, hb⟩; have n0_ := Aside0.mk (Kd.S_lower ho0 (below_size (by repeat (first | (with_reducible first | exact HB.out | apply below_alloc | apply pw_below_drewN | apply below_drew1) | exact HB.out)))); have n1_ := Aside0.mk (below_step (by repeat (first | (with_reducible first | exact HB.out | apply below_alloc | apply pw_below_drewN | apply below_drew1) | exact HB.out)) hb); clear HB; have HO362 := n0_; have HB := n1_; clear n0_ n1_; (try clear hb); (try clear hb2); (try clear hk); (try clear hi); (try clear ho0); obtain ⟨Ao16, co16, eo16⟩ := Kd.S_slice HO362.out; subst eo16) | (go_at_call 23; (with_reducible refine (lane_Spoil.calls _ _ t359 a1 a2 a3 t363 t364 _ ?side1 ?side2 A12.out).mono ?_); (case side1 => repeat (first | exact (Kd.S_reads' HO362.out).2.2 | (with_reducible refine Kd.C_alloc ?_ _) | (with_reducible refine Kd.C_drewN ?_ _) | (with_reducible refine Kd.C_drew ?_))); (case side2 => exact (Kd.S_reads' HO362.out).2.1); rintro e w17 ⟨v365, rfl, ho0, hb⟩; have n0_ := Aside0.mk (Kd.S_elder' (by (with_reducible repeat (first | apply Kd.S_alloc | apply Kd.S_drewN | apply Kd.S_drew)); exact HO362.out) (Kd.S_base ho0) hb); have n1_ := Aside0.mk (Kd.S_lower (Kd.S_new' ho0 (Kd.S_lt (by (with_reducible repeat (first | apply Kd.S_alloc | apply Kd.S_drewN | apply Kd.S_drew)); exact HO362.out))) (below_size (by repeat (first | (with_reducible first | exact HB.out | apply below_alloc | apply pw_below_drewN | apply below_drew1) | exact HB.out)))); have n2_ := Aside0.mk (below_step (by repeat (first | (with_reducible first | exact HB.out | apply below_alloc | apply pw_below_drewN | apply below_drew1) | exact HB.out)) hb); clear HO362; clear HB; have HO362 := n0_; have HO366 := n1_; have HB := n2_; clear n0_ n1_ n2_; (try clear hb); (try clear hb2); (try clear hk); (try clear hi); (try clear ho0)) | (go_at_call 21; (with_reducible refine (lane_Mark.calls _ _ l0 a1 t367 t368 _ ?side1 ?side2 A13.out).mono ?_); (case side1 => repeat (first | exact (Kd.C_below HR0.out HB.out) | (with_reducible refine Kd.C_alloc ?_ _) | (with_reducible refine Kd.C_drewN ?_ _) | (with_reducible refine Kd.C_drew ?_))); (case side2 => exact HC0.out); rintro e w18 ⟨v369, rfl, ho0, hb⟩; have n0_ := Aside0.mk (Kd.S_elder' (by (with_reducible repeat (first | apply Kd.S_alloc | apply Kd.S_drewN | apply Kd.S_drew)); exact HO362.out) (Kd.S_base ho0) hb); have n1_ := Aside0.mk (Kd.S_elder' (by (with_reducible repeat (first | apply Kd.S_alloc | apply Kd.S_drewN | apply Kd.S_drew)); exact HO366.out) (Kd.S_base ho0) hb); have n2_ := Aside0.mk (Kd.S_lower (Kd.S_new' (Kd.S_new' ho0 (Kd.S_lt (by (with_reducible repeat (first | apply Kd.S_alloc | apply Kd.S_drewN | apply Kd.S_drew)); exact HO362.out))) (Kd.S_lt (by (with_reducible repeat (first | apply Kd.S_alloc | apply Kd.S_drewN | apply Kd.S_drew)); exact HO366.out))) (below_size (by repeat (first | (with_reducible first | exact HB.out | apply below_alloc | apply pw_below_drewN | apply below_drew1) | exact HB.out)))); have n3_ := Aside0.mk (below_step (by repeat (first | (with_reducible first | exact HB.out | apply below_alloc | apply pw_below_drewN | apply below_drew1) | exact HB.out)) hb); clear HO362; clear HO366; clear HB; have HO362 := n0_; have HO366 := n1_; have HO370 := n2_; have HB := n3_; clear n0_ n1_ n2_ n3_; (try clear hb); (try clear hb2); (try clear hk); (try clear hi); (try clear ho0))); go_upto_region 8 with (first | (go_at_call 23; (with_reducible refine (lane_Spoil.calls _ _ l0 a1 a2 a3 t359 t360 _ ?side1 ?side2 A11.out).mono ?_); (case side1 => repeat (first | exact (Kd.C_below HR0.out HB.out) | (with_reducible refine Kd.C_alloc ?_ _) | (with_reducible refine Kd.C_drewN ?_ _) | (with_reducible refine Kd.C_drew ?_))); (case side2 => exact HC0.out); rintro e w15 ⟨v361, rfl, ho0, hb⟩; have n0_ := Aside0.mk (Kd.S_lower ho0 (below_size (by repeat (first | (with_reducible first | exact HB.out | apply below_alloc | apply pw_below_drewN | apply below_drew1) | exact HB.out)))); have n1_ := Aside0.mk (below_step (by repeat (first | (with_reducible first | exact HB.out | apply below_alloc | apply pw_below_drewN | apply below_drew1) | exact HB.out)) hb); clear HB; have HO362 := n0_; have HB := n1_; clear n0_ n1_; (try clear hb); (try clear hb2); (try clear hk); (try clear hi); (try clear ho0); obtain ⟨Ao16, co16, eo16⟩ := Kd.S_slice HO362.out; subst eo16) | (go_at_call 23; (with_reducible refine (lane_Spoil.calls _ _ t359 a1 a2 a3 t363 t364 _ ?side1 ?side2 A12.out).mono ?_); (case side1 => repeat (first | exact (Kd.S_reads' HO362.out).2.2 | (with_reducible refine Kd.C_alloc ?_ _) | (with_reducible refine Kd.C_drewN ?_ _) | (with_reducible refine Kd.C_drew ?_))); (case side2 => exact (Kd.S_reads' HO362.out).2.1); rintro e w17 ⟨v365, rfl, ho0, hb⟩; have n0_ := Aside0.mk (Kd.S_elder' (by (with_reducible repeat (first | apply Kd.S_alloc | apply Kd.S_drewN | apply Kd.S_drew)); exact HO362.out) (Kd.S_base ho0) hb); have n1_ := Aside0.mk (Kd.S_lower (Kd.S_new' ho0 (Kd.S_lt (by (with_reducible repeat (first | apply Kd.S_alloc | apply Kd.S_drewN | apply Kd.S_drew)); exact HO362.out))) (below_size (by repeat (first | (with_reducible first | exact HB.out | apply below_alloc | apply pw_below_drewN | apply below_drew1) | exact HB.out)))); have n2_ := Aside0.mk (below_step (by repeat (first | (with_reducible first | exact HB.out | apply below_alloc | apply pw_below_drewN | apply below_drew1) | exact HB.out)) hb); clear HO362; clear HB; have HO362 := n0_; have HO366 := n1_; have HB := n2_; clear n0_ n1_ n2_; (try clear hb); (try clear hb2); (try clear hk); (try clear hi); (try clear ho0)) | (go_at_call 21; (with_reducible refine (lane_Mark.calls _ _ l0 a1 t367 t368 _ ?side1 ?side2 A13.out).mono ?_); (case side1 => repeat (first | exact (Kd.C_below HR0.out HB.out) | (with_reducible refine Kd.C_alloc ?_ _) | (with_reducible refine Kd.C_drewN ?_ _) | (with_reducible refine Kd.C_drew ?_))); (case side2 => exact HC0.out); rintro e w18 ⟨v369, rfl, ho0, hb⟩; have n0_ := Aside0.mk (Kd.S_elder' (by (with_reducible repeat (first | apply Kd.S_alloc | apply Kd.S_drewN | apply Kd.S_drew)); exact HO362.out) (Kd.S_base ho0) hb); have n1_ := Aside0.mk (Kd.S_elder' (by (with_reducible repeat (first | apply Kd.S_alloc | apply Kd.S_drewN | apply Kd.S_drew)); exact HO366.out) (Kd.S_base ho0) hb); have n2_ := Aside0.mk (Kd.S_lower (Kd.S_new' (Kd.S_new' ho0 (Kd.S_lt (by (with_reducible repeat (first | apply Kd.S_alloc | apply Kd.S_drewN | apply Kd.S_drew)); exact HO362.out))) (Kd.S_lt (by (with_reducible repeat (first | apply Kd.S_alloc | apply Kd.S_drewN | apply Kd.S_drew)); exact HO366.out))) (below_size (by repeat (first | (with_reducible first | exact HB.out | apply below_alloc | apply pw_below_drewN | apply below_drew1) | exact HB.out)))); have n3_ := Aside0.mk (below_step (by repeat (first | (with_reducible first | exact HB.out | apply below_alloc | apply pw_below_drewN | apply below_drew1) | exact HB.out)) hb); clear HO362; clear HO366; clear HB; have HO362 := n0_; have HO366 := n1_; have HO370 := n2_; have HB := n3_; clear n0_ n1_ n2_ n3_; (try clear hb); (try clear hb2); (try clear hk); (try clear hi); (try clear ho0))))
        (try simp only [Act.put, List.setIfInBounds_toArray, List.set_cons_zero, List.set_cons_succ])
        go_cut [73] (fun v73 wc => ∃ (kq : Nat) (x73_13 : Bool), v73 = .bool x73_13 ∧ Aside0 (fourinhandlaw22_LaneSpoils.j1 kq l0 a1 t367 t368 x73_13 = some r) ∧ Aside0 (kq ≤ kj6) ∧ Aside0 (Kd.S k29 29 wc w.heap.size (fun _ => True) v369 t367) ∧ Aside0 (Below w.heap.size w wc))
        case first =>
          have H := HC14.out
          clear HC14
          by_cases c19 : (t360 != t364) = true
          · rw [if_pos c19] at H
            have c19b0 : (t360 != t364) = true := c19
            (try (have c19b1 : decide (t360 = t364) = false := by simpa using c19))
            (try (have c19b2 : (t360 == t364) = false := by simpa using c19))
            (try (have c19b3 : ¬ (t360 = t364) := by simpa using c19))
            clear c19
            (first | rw [c19b0] | (simp only [i64_w, i32_w]; rw [c19b0]) | skip)
            have H' := Aside0.mk H
            clear H
            go_wp2
            repeat (go_quiet (fail); try go_wp2)
            go_meet
            case rel => exact ⟨_, (true), (by first | rfl | (simp; done) | (simp [*]; done)), H', ⟨by have := HJ6.out; first | omega | exact Nat.le_refl _⟩, ⟨by (with_reducible repeat (first | apply Kd.S_alloc | apply Kd.S_drewN | apply Kd.S_drew)); exact Kd.S_mono HO370.out (fun _ hk => trivial)⟩, ⟨by repeat (first | (with_reducible first | exact HB.out | apply below_alloc | apply pw_below_drewN | apply below_drew1) | exact HB.out)⟩⟩
          · rw [if_neg c19] at H
            have c19b0 : (t360 != t364) = false := by simpa using c19
            (try (have c19b1 : decide (t360 = t364) = true := by simpa using c19))
            (try (have c19b2 : (t360 == t364) = true := by simpa using c19))
            clear c19
            (first | rw [c19b0] | (simp only [i64_w, i32_w]; rw [c19b0]) | skip)
            replace H := Option.bind_eq_some_iff.mp H
            obtain ⟨t371, A200, H⟩ := H
            replace H : (if t371 = true then (if (t367.length : Int) = (l0.length : Int) then (if t360 = true then (fourinhandlaw22_LaneSpoils.j1 kj6 l0 a1 t367 t368 (!t368)) else (fourinhandlaw22_LaneSpoils.j1 kj6 l0 a1 t367 t368 false)) else (fourinhandlaw22_LaneSpoils.j1 kj6 l0 a1 t367 t368 true)) else (fourinhandlaw22_LaneSpoils.j1 kj6 l0 a1 t367 t368 true)) = some r := H
            have A20 := Aside0.mk A200
            clear A200
            by_cases c21 : t371 = true
            · subst c21
              have H1 : (if (t367.length : Int) = (l0.length : Int) then (if t360 = true then (fourinhandlaw22_LaneSpoils.j1 kj6 l0 a1 t367 t368 (!t368)) else (fourinhandlaw22_LaneSpoils.j1 kj6 l0 a1 t367 t368 false)) else (fourinhandlaw22_LaneSpoils.j1 kj6 l0 a1 t367 t368 true)) = some r := by rw [if_pos rfl] at H; exact H
              clear H
              have H := H1
              clear H1
              by_cases c22 : (t367.length : Int) = (l0.length : Int)
              · rw [if_pos c22] at H
                have c22b0 : ((t367.length : Int) == (l0.length : Int)) = true := beq_iff_eq.mpr c22
                have c22b1 : ((t367.length : Int) != (l0.length : Int)) = false := bne_eq_false_iff_eq.mpr c22
                have c22b2 : (t367.length == l0.length) = true := by first | simpa using c22 | (simp at c22 ⊢; omega)
                clear c22
                by_cases c23 : t360 = true
                · subst c23
                  have H1 : (fourinhandlaw22_LaneSpoils.j1 kj6 l0 a1 t367 t368 (!t368)) = some r := by rw [if_pos rfl] at H; exact H
                  clear H
                  have H := H1
                  clear H1
                  have H' := Aside0.mk H
                  clear H
                  obtain ⟨Ao24, co24, eo24⟩ := Kd.S_slice HO366.out
                  subst eo24
                  go_wp2_with (first | (go_at_call 14; (with_reducible refine (fourinhandref22_Same.calls kj6 _ _ t363 _ _ l0 true _ ?side1 ?side2 ?side3 ?side4 A20.out).mono ?_); (case side1 => repeat (first | exact (Kd.S_reads' HO366.out).2.2 | (with_reducible refine Kd.C_alloc ?_ _) | (with_reducible refine Kd.C_drewN ?_ _) | (with_reducible refine Kd.C_drew ?_))); (case side2 => exact (Kd.S_reads' HO366.out).2.1); (case side3 => repeat (first | exact (Kd.C_below HR0.out HB.out) | (with_reducible refine Kd.C_alloc ?_ _) | (with_reducible refine Kd.C_drewN ?_ _) | (with_reducible refine Kd.C_drew ?_))); (case side4 => exact HC0.out); rintro e w' ⟨rfl, ⟨nd, rfl⟩⟩; (try first | exact ⟨rfl, _, World.drewN_drewN _ _ _⟩ | exact ⟨rfl, _, Eq.trans (World.drewN_drewN _ _ _) (congrArg (World.drewN _) (Nat.add_assoc _ _ _))⟩); obtain ⟨Ao25, co25, eo25⟩ := Kd.S_slice HO370.out; subst eo25))
                  repeat (go_quiet (first | (go_at_call 14; (with_reducible refine (fourinhandref22_Same.calls kj6 _ _ t363 _ _ l0 true _ ?side1 ?side2 ?side3 ?side4 A20.out).mono ?_); (case side1 => repeat (first | exact (Kd.S_reads' HO366.out).2.2 | (with_reducible refine Kd.C_alloc ?_ _) | (with_reducible refine Kd.C_drewN ?_ _) | (with_reducible refine Kd.C_drew ?_))); (case side2 => exact (Kd.S_reads' HO366.out).2.1); (case side3 => repeat (first | exact (Kd.C_below HR0.out HB.out) | (with_reducible refine Kd.C_alloc ?_ _) | (with_reducible refine Kd.C_drewN ?_ _) | (with_reducible refine Kd.C_drew ?_))); (case side4 => exact HC0.out); rintro e w' ⟨rfl, ⟨nd, rfl⟩⟩; (try first | exact ⟨rfl, _, World.drewN_drewN _ _ _⟩ | exact ⟨rfl, _, Eq.trans (World.drewN_drewN _ _ _) (congrArg (World.drewN _) (Nat.add_assoc _ _ _))⟩); obtain ⟨Ao25, co25, eo25⟩ := Kd.S_slice HO370.out; subst eo25)); try go_wp2_with (first | (go_at_call 14; (with_reducible refine (fourinhandref22_Same.calls kj6 _ _ t363 _ _ l0 true _ ?side1 ?side2 ?side3 ?side4 A20.out).mono ?_); (case side1 => repeat (first | exact (Kd.S_reads' HO366.out).2.2 | (with_reducible refine Kd.C_alloc ?_ _) | (with_reducible refine Kd.C_drewN ?_ _) | (with_reducible refine Kd.C_drew ?_))); (case side2 => exact (Kd.S_reads' HO366.out).2.1); (case side3 => repeat (first | exact (Kd.C_below HR0.out HB.out) | (with_reducible refine Kd.C_alloc ?_ _) | (with_reducible refine Kd.C_drewN ?_ _) | (with_reducible refine Kd.C_drew ?_))); (case side4 => exact HC0.out); rintro e w' ⟨rfl, ⟨nd, rfl⟩⟩; (try first | exact ⟨rfl, _, World.drewN_drewN _ _ _⟩ | exact ⟨rfl, _, Eq.trans (World.drewN_drewN _ _ _) (congrArg (World.drewN _) (Nat.add_assoc _ _ _))⟩); obtain ⟨Ao25, co25, eo25⟩ := Kd.S_slice HO370.out; subst eo25)))
                  go_meet
                  case rel => exact ⟨_, (!t368), (by first | rfl | (simp; done) | (simp [*]; done)), H', ⟨by have := HJ6.out; first | omega | exact Nat.le_refl _⟩, ⟨by (with_reducible repeat (first | apply Kd.S_alloc | apply Kd.S_drewN | apply Kd.S_drew)); exact Kd.S_mono HO370.out (fun _ hk => trivial)⟩, ⟨by repeat (first | (with_reducible first | exact HB.out | apply below_alloc | apply pw_below_drewN | apply below_drew1) | exact HB.out)⟩⟩
                · replace c23 := Bool.eq_false_iff.mpr c23
                  subst c23
                  have H1 : (fourinhandlaw22_LaneSpoils.j1 kj6 l0 a1 t367 t368 false) = some r := by rw [if_neg (show ¬ (false = true) by decide)] at H; exact H
                  clear H
                  have H := H1
                  clear H1
                  have H' := Aside0.mk H
                  clear H
                  obtain ⟨Ao26, co26, eo26⟩ := Kd.S_slice HO366.out
                  subst eo26
                  go_wp2_with (first | (go_at_call 14; (with_reducible refine (fourinhandref22_Same.calls kj6 _ _ t363 _ _ l0 true _ ?side1 ?side2 ?side3 ?side4 A20.out).mono ?_); (case side1 => repeat (first | exact (Kd.S_reads' HO366.out).2.2 | (with_reducible refine Kd.C_alloc ?_ _) | (with_reducible refine Kd.C_drewN ?_ _) | (with_reducible refine Kd.C_drew ?_))); (case side2 => exact (Kd.S_reads' HO366.out).2.1); (case side3 => repeat (first | exact (Kd.C_below HR0.out HB.out) | (with_reducible refine Kd.C_alloc ?_ _) | (with_reducible refine Kd.C_drewN ?_ _) | (with_reducible refine Kd.C_drew ?_))); (case side4 => exact HC0.out); rintro e w' ⟨rfl, ⟨nd, rfl⟩⟩; (try first | exact ⟨rfl, _, World.drewN_drewN _ _ _⟩ | exact ⟨rfl, _, Eq.trans (World.drewN_drewN _ _ _) (congrArg (World.drewN _) (Nat.add_assoc _ _ _))⟩); obtain ⟨Ao27, co27, eo27⟩ := Kd.S_slice HO370.out; subst eo27))
                  repeat (go_quiet (first | (go_at_call 14; (with_reducible refine (fourinhandref22_Same.calls kj6 _ _ t363 _ _ l0 true _ ?side1 ?side2 ?side3 ?side4 A20.out).mono ?_); (case side1 => repeat (first | exact (Kd.S_reads' HO366.out).2.2 | (with_reducible refine Kd.C_alloc ?_ _) | (with_reducible refine Kd.C_drewN ?_ _) | (with_reducible refine Kd.C_drew ?_))); (case side2 => exact (Kd.S_reads' HO366.out).2.1); (case side3 => repeat (first | exact (Kd.C_below HR0.out HB.out) | (with_reducible refine Kd.C_alloc ?_ _) | (with_reducible refine Kd.C_drewN ?_ _) | (with_reducible refine Kd.C_drew ?_))); (case side4 => exact HC0.out); rintro e w' ⟨rfl, ⟨nd, rfl⟩⟩; (try first | exact ⟨rfl, _, World.drewN_drewN _ _ _⟩ | exact ⟨rfl, _, Eq.trans (World.drewN_drewN _ _ _) (congrArg (World.drewN _) (Nat.add_assoc _ _ _))⟩); obtain ⟨Ao27, co27, eo27⟩ := Kd.S_slice HO370.out; subst eo27)); try go_wp2_with (first | (go_at_call 14; (with_reducible refine (fourinhandref22_Same.calls kj6 _ _ t363 _ _ l0 true _ ?side1 ?side2 ?side3 ?side4 A20.out).mono ?_); (case side1 => repeat (first | exact (Kd.S_reads' HO366.out).2.2 | (with_reducible refine Kd.C_alloc ?_ _) | (with_reducible refine Kd.C_drewN ?_ _) | (with_reducible refine Kd.C_drew ?_))); (case side2 => exact (Kd.S_reads' HO366.out).2.1); (case side3 => repeat (first | exact (Kd.C_below HR0.out HB.out) | (with_reducible refine Kd.C_alloc ?_ _) | (with_reducible refine Kd.C_drewN ?_ _) | (with_reducible refine Kd.C_drew ?_))); (case side4 => exact HC0.out); rintro e w' ⟨rfl, ⟨nd, rfl⟩⟩; (try first | exact ⟨rfl, _, World.drewN_drewN _ _ _⟩ | exact ⟨rfl, _, Eq.trans (World.drewN_drewN _ _ _) (congrArg (World.drewN _) (Nat.add_assoc _ _ _))⟩); obtain ⟨Ao27, co27, eo27⟩ := Kd.S_slice HO370.out; subst eo27)))
                  go_meet
                  case rel => exact ⟨_, (false), (by first | rfl | (simp; done) | (simp [*]; done)), H', ⟨by have := HJ6.out; first | omega | exact Nat.le_refl _⟩, ⟨by (with_reducible repeat (first | apply Kd.S_alloc | apply Kd.S_drewN | apply Kd.S_drew)); exact Kd.S_mono HO370.out (fun _ hk => trivial)⟩, ⟨by repeat (first | (with_reducible first | exact HB.out | apply below_alloc | apply pw_below_drewN | apply below_drew1) | exact HB.out)⟩⟩
              · rw [if_neg c22] at H
                have c22b0 : ((t367.length : Int) == (l0.length : Int)) = false := beq_eq_false_iff_ne.mpr c22
                have c22b1 : ((t367.length : Int) != (l0.length : Int)) = true := bne_iff_ne.mpr c22
                have c22b2 : (t367.length == l0.length) = false := by first | simpa using c22 | (simp at c22 ⊢; omega)
                have H' := Aside0.mk H
                clear H
                obtain ⟨Ao28, co28, eo28⟩ := Kd.S_slice HO366.out
                subst eo28
                go_wp2_with (first | (go_at_call 14; (with_reducible refine (fourinhandref22_Same.calls kj6 _ _ t363 _ _ l0 true _ ?side1 ?side2 ?side3 ?side4 A20.out).mono ?_); (case side1 => repeat (first | exact (Kd.S_reads' HO366.out).2.2 | (with_reducible refine Kd.C_alloc ?_ _) | (with_reducible refine Kd.C_drewN ?_ _) | (with_reducible refine Kd.C_drew ?_))); (case side2 => exact (Kd.S_reads' HO366.out).2.1); (case side3 => repeat (first | exact (Kd.C_below HR0.out HB.out) | (with_reducible refine Kd.C_alloc ?_ _) | (with_reducible refine Kd.C_drewN ?_ _) | (with_reducible refine Kd.C_drew ?_))); (case side4 => exact HC0.out); rintro e w' ⟨rfl, ⟨nd, rfl⟩⟩; (try first | exact ⟨rfl, _, World.drewN_drewN _ _ _⟩ | exact ⟨rfl, _, Eq.trans (World.drewN_drewN _ _ _) (congrArg (World.drewN _) (Nat.add_assoc _ _ _))⟩); obtain ⟨Ao29, co29, eo29⟩ := Kd.S_slice HO370.out; subst eo29))
                repeat (go_quiet (first | (go_at_call 14; (with_reducible refine (fourinhandref22_Same.calls kj6 _ _ t363 _ _ l0 true _ ?side1 ?side2 ?side3 ?side4 A20.out).mono ?_); (case side1 => repeat (first | exact (Kd.S_reads' HO366.out).2.2 | (with_reducible refine Kd.C_alloc ?_ _) | (with_reducible refine Kd.C_drewN ?_ _) | (with_reducible refine Kd.C_drew ?_))); (case side2 => exact (Kd.S_reads' HO366.out).2.1); (case side3 => repeat (first | exact (Kd.C_below HR0.out HB.out) | (with_reducible refine Kd.C_alloc ?_ _) | (with_reducible refine Kd.C_drewN ?_ _) | (with_reducible refine Kd.C_drew ?_))); (case side4 => exact HC0.out); rintro e w' ⟨rfl, ⟨nd, rfl⟩⟩; (try first | exact ⟨rfl, _, World.drewN_drewN _ _ _⟩ | exact ⟨rfl, _, Eq.trans (World.drewN_drewN _ _ _) (congrArg (World.drewN _) (Nat.add_assoc _ _ _))⟩); obtain ⟨Ao29, co29, eo29⟩ := Kd.S_slice HO370.out; subst eo29)); try go_wp2_with (first | (go_at_call 14; (with_reducible refine (fourinhandref22_Same.calls kj6 _ _ t363 _ _ l0 true _ ?side1 ?side2 ?side3 ?side4 A20.out).mono ?_); (case side1 => repeat (first | exact (Kd.S_reads' HO366.out).2.2 | (with_reducible refine Kd.C_alloc ?_ _) | (with_reducible refine Kd.C_drewN ?_ _) | (with_reducible refine Kd.C_drew ?_))); (case side2 => exact (Kd.S_reads' HO366.out).2.1); (case side3 => repeat (first | exact (Kd.C_below HR0.out HB.out) | (with_reducible refine Kd.C_alloc ?_ _) | (with_reducible refine Kd.C_drewN ?_ _) | (with_reducible refine Kd.C_drew ?_))); (case side4 => exact HC0.out); rintro e w' ⟨rfl, ⟨nd, rfl⟩⟩; (try first | exact ⟨rfl, _, World.drewN_drewN _ _ _⟩ | exact ⟨rfl, _, Eq.trans (World.drewN_drewN _ _ _) (congrArg (World.drewN _) (Nat.add_assoc _ _ _))⟩); obtain ⟨Ao29, co29, eo29⟩ := Kd.S_slice HO370.out; subst eo29)))
                go_meet
                case rel => exact ⟨_, (true), (by first | rfl | (simp; done) | (simp [*]; done)), H', ⟨by have := HJ6.out; first | omega | exact Nat.le_refl _⟩, ⟨by (with_reducible repeat (first | apply Kd.S_alloc | apply Kd.S_drewN | apply Kd.S_drew)); exact Kd.S_mono HO370.out (fun _ hk => trivial)⟩, ⟨by repeat (first | (with_reducible first | exact HB.out | apply below_alloc | apply pw_below_drewN | apply below_drew1) | exact HB.out)⟩⟩
            · replace c21 := Bool.eq_false_iff.mpr c21
              subst c21
              have H1 : (fourinhandlaw22_LaneSpoils.j1 kj6 l0 a1 t367 t368 true) = some r := by rw [if_neg (show ¬ (false = true) by decide)] at H; exact H
              clear H
              have H := H1
              clear H1
              have H' := Aside0.mk H
              clear H
              obtain ⟨Ao30, co30, eo30⟩ := Kd.S_slice HO366.out
              subst eo30
              go_wp2_with (first | (go_at_call 14; (with_reducible refine (fourinhandref22_Same.calls kj6 _ _ t363 _ _ l0 false _ ?side1 ?side2 ?side3 ?side4 A20.out).mono ?_); (case side1 => repeat (first | exact (Kd.S_reads' HO366.out).2.2 | (with_reducible refine Kd.C_alloc ?_ _) | (with_reducible refine Kd.C_drewN ?_ _) | (with_reducible refine Kd.C_drew ?_))); (case side2 => exact (Kd.S_reads' HO366.out).2.1); (case side3 => repeat (first | exact (Kd.C_below HR0.out HB.out) | (with_reducible refine Kd.C_alloc ?_ _) | (with_reducible refine Kd.C_drewN ?_ _) | (with_reducible refine Kd.C_drew ?_))); (case side4 => exact HC0.out); rintro e w' ⟨rfl, ⟨nd, rfl⟩⟩; (try first | exact ⟨rfl, _, World.drewN_drewN _ _ _⟩ | exact ⟨rfl, _, Eq.trans (World.drewN_drewN _ _ _) (congrArg (World.drewN _) (Nat.add_assoc _ _ _))⟩)))
              repeat (go_quiet (first | (go_at_call 14; (with_reducible refine (fourinhandref22_Same.calls kj6 _ _ t363 _ _ l0 false _ ?side1 ?side2 ?side3 ?side4 A20.out).mono ?_); (case side1 => repeat (first | exact (Kd.S_reads' HO366.out).2.2 | (with_reducible refine Kd.C_alloc ?_ _) | (with_reducible refine Kd.C_drewN ?_ _) | (with_reducible refine Kd.C_drew ?_))); (case side2 => exact (Kd.S_reads' HO366.out).2.1); (case side3 => repeat (first | exact (Kd.C_below HR0.out HB.out) | (with_reducible refine Kd.C_alloc ?_ _) | (with_reducible refine Kd.C_drewN ?_ _) | (with_reducible refine Kd.C_drew ?_))); (case side4 => exact HC0.out); rintro e w' ⟨rfl, ⟨nd, rfl⟩⟩; (try first | exact ⟨rfl, _, World.drewN_drewN _ _ _⟩ | exact ⟨rfl, _, Eq.trans (World.drewN_drewN _ _ _) (congrArg (World.drewN _) (Nat.add_assoc _ _ _))⟩))); try go_wp2_with (first | (go_at_call 14; (with_reducible refine (fourinhandref22_Same.calls kj6 _ _ t363 _ _ l0 false _ ?side1 ?side2 ?side3 ?side4 A20.out).mono ?_); (case side1 => repeat (first | exact (Kd.S_reads' HO366.out).2.2 | (with_reducible refine Kd.C_alloc ?_ _) | (with_reducible refine Kd.C_drewN ?_ _) | (with_reducible refine Kd.C_drew ?_))); (case side2 => exact (Kd.S_reads' HO366.out).2.1); (case side3 => repeat (first | exact (Kd.C_below HR0.out HB.out) | (with_reducible refine Kd.C_alloc ?_ _) | (with_reducible refine Kd.C_drewN ?_ _) | (with_reducible refine Kd.C_drew ?_))); (case side4 => exact HC0.out); rintro e w' ⟨rfl, ⟨nd, rfl⟩⟩; (try first | exact ⟨rfl, _, World.drewN_drewN _ _ _⟩ | exact ⟨rfl, _, Eq.trans (World.drewN_drewN _ _ _) (congrArg (World.drewN _) (Nat.add_assoc _ _ _))⟩))))
              go_meet
              case rel => exact ⟨_, (true), (by first | rfl | (simp; done) | (simp [*]; done)), H', ⟨by have := HJ6.out; first | omega | exact Nat.le_refl _⟩, ⟨by (with_reducible repeat (first | apply Kd.S_alloc | apply Kd.S_drewN | apply Kd.S_drew)); exact Kd.S_mono HO370.out (fun _ hk => trivial)⟩, ⟨by repeat (first | (with_reducible first | exact HB.out | apply below_alloc | apply pw_below_drewN | apply below_drew1) | exact HB.out)⟩⟩
        case rest =>
          clear HC14
          try clear c1
          try clear c2
          try clear p2
          try clear c7
          try clear c9
          try clear c10
          try clear c19
          try clear c19b0
          try clear c19b1
          try clear c19b2
          try clear c21
          try clear c22
          try clear c22b0
          try clear c22b1
          try clear c22b2
          try clear c23
          try clear p2
          obtain ⟨kq, x73_13, rfl, HA, HJ13, HO_15, HB⟩ := hcut
          cases kq with
          | zero => exact absurd HA.out (by simp [fourinhandlaw22_LaneSpoils.j1])
          | succ kj13 =>
            have H := HA.out
            clear HA
            simp only [fourinhandlaw22_LaneSpoils.j1] at H
            by_cases c31 : x73_13 = true
            · subst c31
              have H1 : (some false) = some r := by rw [if_pos rfl] at H; exact H
              clear H
              have H := H1
              clear H1
              rw [htr1] at H
              cases H
            · replace c31 := Bool.eq_false_iff.mpr c31
              subst c31
              have H1 : (fourinhandlaw22_LaneSpoils.l0 kj13 l0 a1 t367 t368 0) = some r := by rw [if_neg (show ¬ (false = true) by decide)] at H; exact H
              clear H
              have H := H1
              clear H1
              have H' := Aside0.mk H
              clear H
              go_wp2
              repeat (go_quiet (fail); try go_wp2)
              go_loopg [17] kj13 (fun kq v17 w' => ∃ (x17_3 : Int), v17 = .int .i64 x17_3 ∧ Aside0 (fourinhandlaw22_LaneSpoils.l0 kq l0 a1 t367 t368 x17_3 = some r) ∧ Aside0 (kq ≤ kj13) ∧ Aside0 (Kd.S k29 29 w' w.heap.size (fun _ => True) v369 t367) ∧ Aside0 (Below w.heap.size w w'))
              case atStart => exact ⟨(0), (by first | rfl | (simp; done) | (simp [*]; done)), H', ⟨Nat.le_refl _⟩, ⟨by (with_reducible repeat (first | apply Kd.S_alloc | apply Kd.S_drewN | apply Kd.S_drew)); exact HO_15.out⟩, ⟨by repeat (first | (with_reducible first | exact HB.out | apply below_alloc | apply pw_below_drewN | apply below_drew1) | exact HB.out)⟩⟩
              case round =>
                clear H'
                try clear c1
                try clear c2
                try clear p2
                try clear c3
                try clear c7
                try clear c9
                try clear c10
                try clear c19
                try clear c19b0
                try clear c19b1
                try clear c19b2
                try clear c21
                try clear c22
                try clear c22b0
                try clear c22b1
                try clear c22b2
                try clear c23
                try clear c31
                try clear p2
                obtain ⟨x17_3, rfl, HA, HK3, HO_15, HB⟩ := hrel
                cases gk with
                | zero => exact absurd HA.out (by simp [fourinhandlaw22_LaneSpoils.l0])
                | succ k3 =>
                  have H := HA.out
                  clear HA
                  simp only [fourinhandlaw22_LaneSpoils.l0] at H
                  by_cases c32 : x17_3 < (l0.length : Int)
                  · rw [if_pos c32] at H
                    have c32b0 : decide (x17_3 < (l0.length : Int)) = true := decide_eq_true c32
                    clear c32
                    by_cases c33 : 0 ≤ x17_3
                    · rw [if_pos c33] at H
                      have c33b0 : decide (0 ≤ x17_3) = true := decide_eq_true c33
                      clear c33
                      by_cases c34 : x17_3 < (t367.length : Int)
                      · rw [if_pos c34] at H
                        have c34b0 : decide (x17_3 < (t367.length : Int)) = true := decide_eq_true c34
                        clear c34
                        replace H := Option.bind_eq_some_iff.mp H
                        obtain ⟨t374, A350, H⟩ := H
                        replace H : (if t374 = true then (if (rd_T29 l0 x17_3).f1 = true then (if (((rd_T29 t367 x17_3).f1) != true) = true then (some false) else (fourinhandlaw22_LaneSpoils.l0 k3 l0 a1 t367 t368 (wrap64 (x17_3 + 1)))) else (if t368 = true then (if (((rd_T29 t367 x17_3).f1) != (x17_3 == a1)) = true then (some false) else (fourinhandlaw22_LaneSpoils.l0 k3 l0 a1 t367 t368 (wrap64 (x17_3 + 1)))) else (if (((rd_T29 t367 x17_3).f1) != false) = true then (some false) else (fourinhandlaw22_LaneSpoils.l0 k3 l0 a1 t367 t368 (wrap64 (x17_3 + 1)))))) else (some false)) = some r := H
                        have A35 := Aside0.mk A350
                        clear A350
                        by_cases c36 : t374 = true
                        · subst c36
                          have H1 : (if (rd_T29 l0 x17_3).f1 = true then (if (((rd_T29 t367 x17_3).f1) != true) = true then (some false) else (fourinhandlaw22_LaneSpoils.l0 k3 l0 a1 t367 t368 (wrap64 (x17_3 + 1)))) else (if t368 = true then (if (((rd_T29 t367 x17_3).f1) != (x17_3 == a1)) = true then (some false) else (fourinhandlaw22_LaneSpoils.l0 k3 l0 a1 t367 t368 (wrap64 (x17_3 + 1)))) else (if (((rd_T29 t367 x17_3).f1) != false) = true then (some false) else (fourinhandlaw22_LaneSpoils.l0 k3 l0 a1 t367 t368 (wrap64 (x17_3 + 1)))))) = some r := by rw [if_pos rfl] at H; exact H
                          clear H
                          have H := H1
                          clear H1
                          obtain ⟨bq37, hbq37⟩ : ∃ b_ : Bool, b_ = ((rd_T29 l0 x17_3).f1) := ⟨_, rfl⟩
                          replace H : (if bq37 = true then (if (((rd_T29 t367 x17_3).f1) != true) = true then (some false) else (fourinhandlaw22_LaneSpoils.l0 k3 l0 a1 t367 t368 (wrap64 (x17_3 + 1)))) else (if t368 = true then (if (((rd_T29 t367 x17_3).f1) != (x17_3 == a1)) = true then (some false) else (fourinhandlaw22_LaneSpoils.l0 k3 l0 a1 t367 t368 (wrap64 (x17_3 + 1)))) else (if (((rd_T29 t367 x17_3).f1) != false) = true then (some false) else (fourinhandlaw22_LaneSpoils.l0 k3 l0 a1 t367 t368 (wrap64 (x17_3 + 1)))))) = some r := by rw [← hbq37] at H; exact H
                          have Nbq37 := Aside0.mk hbq37
                          clear hbq37
                          by_cases c38 : bq37 = true
                          · subst c38
                            have H1 : (if (((rd_T29 t367 x17_3).f1) != true) = true then (some false) else (fourinhandlaw22_LaneSpoils.l0 k3 l0 a1 t367 t368 (wrap64 (x17_3 + 1)))) = some r := by rw [if_pos rfl] at H; exact H
                            clear H
                            have H := H1
                            clear H1
                            by_cases c39 : (((rd_T29 t367 x17_3).f1) != true) = true
                            · rw [if_pos c39] at H
                              have c39b0 : (((rd_T29 t367 x17_3).f1) != true) = true := c39
                              (try (have c39b1 : decide (((rd_T29 t367 x17_3).f1) = true) = false := by simpa using c39))
                              (try (have c39b2 : (((rd_T29 t367 x17_3).f1) == true) = false := by simpa using c39))
                              (try (have c39b3 : ¬ (((rd_T29 t367 x17_3).f1) = true) := by simpa using c39))
                              clear c39
                              rw [htr1] at H
                              cases H
                            · rw [if_neg c39] at H
                              have c39b0 : (((rd_T29 t367 x17_3).f1) != true) = false := by simpa using c39
                              (try (have c39b1 : decide (((rd_T29 t367 x17_3).f1) = true) = true := by simpa using c39))
                              (try (have c39b2 : (((rd_T29 t367 x17_3).f1) == true) = true := by simpa using c39))
                              clear c39
                              have H' := Aside0.mk H
                              clear H
                              obtain ⟨Ao41, co41, eo41⟩ := Kd.S_slice HO_15.out
                              subst eo41
                              have p372 : 0 ≤ (x17_3 : Int) := of_decide_eq_true (by first | (with_reducible assumption) | assumption)
                              have q372 : x17_3 < (t367.length : Int) := of_decide_eq_true (by first | (with_reducible assumption) | assumption)
                              obtain ⟨ad372, A372_0, c372_0, e372, hx372_0, hx372_1, hl372_0, hi372_0⟩ := at_T29 (Kd.S_reads' HO_15.out).2.2 x17_3 p372 q372
                              (try rw [← Nbq37.out] at hx372_1)
                              cases e372
                              obtain ⟨ce372, hce372, hMe372, hcc372⟩ := Kd.S_get HO_15.out z29 x17_3 p372 (by first | exact q372 | exact of_decide_eq_true (by first | (with_reducible assumption) | assumption) | (have e_ := (Kd.S_reads' HO_15.out).1; omega))
                              obtain ⟨ve372_0, rfl, ge372_0⟩ := k29_openM hMe372
                              have hv372_0 := hcc372 0 _ rfl
                              rw [Nat.add_zero] at hv372_0
                              replace hv372_0 := Option.some.inj (hv372_0.symm.trans hx372_0)
                              rw [hv372_0] at ge372_0
                              have HL372_0 := Aside0.mk (show Kd.R (Kd.int .u8) 5 _ _ _ _ ((rd_T29 t367 x17_3).f0) from ge372_0)
                              clear hv372_0 ge372_0
                              clear hcc372 hce372
                              have HR372_0 := Aside0.mk hi372_0
                              have HC372_0 := Aside0.mk hl372_0
                              clear hi372_0 hl372_0
                              replace p372 := eq_true p372
                              replace q372 := eq_true q372
                              have p373 : 0 ≤ (x17_3 : Int) := of_decide_eq_true (by first | (with_reducible assumption) | assumption)
                              have q373 : x17_3 < (l0.length : Int) := of_decide_eq_true (by first | (with_reducible assumption) | assumption)
                              obtain ⟨ad373, A373_0, c373_0, e373, hx373_0, hx373_1, hl373_0, hi373_0⟩ := at_T29 HR0.out x17_3 p373 q373
                              (try rw [← Nbq37.out] at hx373_1)
                              cases e373
                              replace hx373_0 := (HB.out.cell (World.block_lt_of_cell? w _ hx373_0)).trans hx373_0
                              replace hx373_1 := (HB.out.cell (World.block_lt_of_cell? w _ hx373_1)).trans hx373_1
                              have HR373_0 := Aside0.mk hi373_0
                              have HC373_0 := Aside0.mk hl373_0
                              clear hi373_0 hl373_0
                              replace p373 := eq_true p373
                              replace q373 := eq_true q373
                              go_wp2_with (first | (go_at_call 15; (with_reducible refine (fourinhandref03_Same.calls k3 _ _ ((rd_T29 t367 x17_3).f0) _ _ ((rd_T29 l0 x17_3).f0) true _ ?side1 ?side2 ?side3 ?side4 A35.out).mono ?_); (case side1 => repeat (first | exact (by repeat (first | (with_reducible exact HR372_0.out) | (with_reducible refine Kd.C_alloc ?_ _) | (with_reducible refine Kd.C_drewN ?_ _) | (with_reducible refine Kd.C_drew ?_) | exact HR372_0.out)) | (with_reducible refine Kd.C_alloc ?_ _) | (with_reducible refine Kd.C_drewN ?_ _) | (with_reducible refine Kd.C_drew ?_))); (case side2 => exact HC372_0.out); (case side3 => repeat (first | exact (Kd.C_below HR373_0.out HB.out) | (with_reducible refine Kd.C_alloc ?_ _) | (with_reducible refine Kd.C_drewN ?_ _) | (with_reducible refine Kd.C_drew ?_))); (case side4 => exact HC373_0.out); rintro e w' ⟨rfl, ⟨nd, rfl⟩⟩; (try first | exact ⟨rfl, _, World.drewN_drewN _ _ _⟩ | exact ⟨rfl, _, Eq.trans (World.drewN_drewN _ _ _) (congrArg (World.drewN _) (Nat.add_assoc _ _ _))⟩); have p375 : 0 ≤ (x17_3 : Int) := of_decide_eq_true (by first | (with_reducible assumption) | assumption); have q375 : x17_3 < (t367.length : Int) := of_decide_eq_true (by first | (with_reducible assumption) | assumption); obtain ⟨ad375, A375_0, c375_0, e375, hx375_0, hx375_1, hl375_0, hi375_0⟩ := at_T29 (Kd.S_reads' HO_15.out).2.2 x17_3 p375 q375; (try rw [← Nbq37.out] at hx375_1); obtain rfl : ad372 = ad375 := (by injection e375); obtain ⟨ce375, hce375, hMe375, hcc375⟩ := Kd.S_get HO_15.out z29 x17_3 p375 (by first | exact q375 | exact of_decide_eq_true (by first | (with_reducible assumption) | assumption) | (have e_ := (Kd.S_reads' HO_15.out).1; omega)); obtain ⟨ve375_0, rfl, ge375_0⟩ := k29_openM hMe375; have hv375_0 := hcc375 0 _ rfl; rw [Nat.add_zero] at hv375_0; replace hv375_0 := Option.some.inj (hv375_0.symm.trans hx375_0); rw [hv375_0] at ge375_0; have HL375_0 := Aside0.mk (show Kd.R (Kd.int .u8) 5 _ _ _ _ ((rd_T29 t367 x17_3).f0) from ge375_0); clear hv375_0 ge375_0; clear hcc375 hce375; have HR375_0 := Aside0.mk hi375_0; have HC375_0 := Aside0.mk hl375_0; clear hi375_0 hl375_0; replace p375 := eq_true p375; replace q375 := eq_true q375; have ea_ := Option.some.inj (hx372_0.symm.trans hx375_0); injection ea_ with ea_ en_ ec_; subst ea_; subst ec_; clear en_; have p376 : 0 ≤ (x17_3 : Int) := of_decide_eq_true (by first | (with_reducible assumption) | assumption); have q376 : x17_3 < (l0.length : Int) := of_decide_eq_true (by first | (with_reducible assumption) | assumption); obtain ⟨ad376, A376_0, c376_0, e376, hx376_0, hx376_1, hl376_0, hi376_0⟩ := at_T29 HR0.out x17_3 p376 q376; (try rw [← Nbq37.out] at hx376_1); obtain rfl : ad373 = ad376 := (by injection e376); replace hx376_0 := (HB.out.cell (World.block_lt_of_cell? w _ hx376_0)).trans hx376_0; replace hx376_1 := (HB.out.cell (World.block_lt_of_cell? w _ hx376_1)).trans hx376_1; have HR376_0 := Aside0.mk hi376_0; have HC376_0 := Aside0.mk hl376_0; clear hi376_0 hl376_0; replace p376 := eq_true p376; replace q376 := eq_true q376; have ea_ := Option.some.inj (hx373_0.symm.trans hx376_0); injection ea_ with ea_ en_ ec_; subst ea_; subst ec_; clear en_))
                              repeat (go_quiet (first | (go_at_call 15; (with_reducible refine (fourinhandref03_Same.calls k3 _ _ ((rd_T29 t367 x17_3).f0) _ _ ((rd_T29 l0 x17_3).f0) true _ ?side1 ?side2 ?side3 ?side4 A35.out).mono ?_); (case side1 => repeat (first | exact (by repeat (first | (with_reducible exact HR372_0.out) | (with_reducible refine Kd.C_alloc ?_ _) | (with_reducible refine Kd.C_drewN ?_ _) | (with_reducible refine Kd.C_drew ?_) | exact HR372_0.out)) | (with_reducible refine Kd.C_alloc ?_ _) | (with_reducible refine Kd.C_drewN ?_ _) | (with_reducible refine Kd.C_drew ?_))); (case side2 => exact HC372_0.out); (case side3 => repeat (first | exact (Kd.C_below HR373_0.out HB.out) | (with_reducible refine Kd.C_alloc ?_ _) | (with_reducible refine Kd.C_drewN ?_ _) | (with_reducible refine Kd.C_drew ?_))); (case side4 => exact HC373_0.out); rintro e w' ⟨rfl, ⟨nd, rfl⟩⟩; (try first | exact ⟨rfl, _, World.drewN_drewN _ _ _⟩ | exact ⟨rfl, _, Eq.trans (World.drewN_drewN _ _ _) (congrArg (World.drewN _) (Nat.add_assoc _ _ _))⟩); have p375 : 0 ≤ (x17_3 : Int) := of_decide_eq_true (by first | (with_reducible assumption) | assumption); have q375 : x17_3 < (t367.length : Int) := of_decide_eq_true (by first | (with_reducible assumption) | assumption); obtain ⟨ad375, A375_0, c375_0, e375, hx375_0, hx375_1, hl375_0, hi375_0⟩ := at_T29 (Kd.S_reads' HO_15.out).2.2 x17_3 p375 q375; (try rw [← Nbq37.out] at hx375_1); obtain rfl : ad372 = ad375 := (by injection e375); obtain ⟨ce375, hce375, hMe375, hcc375⟩ := Kd.S_get HO_15.out z29 x17_3 p375 (by first | exact q375 | exact of_decide_eq_true (by first | (with_reducible assumption) | assumption) | (have e_ := (Kd.S_reads' HO_15.out).1; omega)); obtain ⟨ve375_0, rfl, ge375_0⟩ := k29_openM hMe375; have hv375_0 := hcc375 0 _ rfl; rw [Nat.add_zero] at hv375_0; replace hv375_0 := Option.some.inj (hv375_0.symm.trans hx375_0); rw [hv375_0] at ge375_0; have HL375_0 := Aside0.mk (show Kd.R (Kd.int .u8) 5 _ _ _ _ ((rd_T29 t367 x17_3).f0) from ge375_0); clear hv375_0 ge375_0; clear hcc375 hce375; have HR375_0 := Aside0.mk hi375_0; have HC375_0 := Aside0.mk hl375_0; clear hi375_0 hl375_0; replace p375 := eq_true p375; replace q375 := eq_true q375; have ea_ := Option.some.inj (hx372_0.symm.trans hx375_0); injection ea_ with ea_ en_ ec_; subst ea_; subst ec_; clear en_; have p376 : 0 ≤ (x17_3 : Int) := of_decide_eq_true (by first | (with_reducible assumption) | assumption); have q376 : x17_3 < (l0.length : Int) := of_decide_eq_true (by first | (with_reducible assumption) | assumption); obtain ⟨ad376, A376_0, c376_0, e376, hx376_0, hx376_1, hl376_0, hi376_0⟩ := at_T29 HR0.out x17_3 p376 q376; (try rw [← Nbq37.out] at hx376_1); obtain rfl : ad373 = ad376 := (by injection e376); replace hx376_0 := (HB.out.cell (World.block_lt_of_cell? w _ hx376_0)).trans hx376_0; replace hx376_1 := (HB.out.cell (World.block_lt_of_cell? w _ hx376_1)).trans hx376_1; have HR376_0 := Aside0.mk hi376_0; have HC376_0 := Aside0.mk hl376_0; clear hi376_0 hl376_0; replace p376 := eq_true p376; replace q376 := eq_true q376; have ea_ := Option.some.inj (hx373_0.symm.trans hx376_0); injection ea_ with ea_ en_ ec_; subst ea_; subst ec_; clear en_)); try go_wp2_with (first | (go_at_call 15; (with_reducible refine (fourinhandref03_Same.calls k3 _ _ ((rd_T29 t367 x17_3).f0) _ _ ((rd_T29 l0 x17_3).f0) true _ ?side1 ?side2 ?side3 ?side4 A35.out).mono ?_); (case side1 => repeat (first | exact (by repeat (first | (with_reducible exact HR372_0.out) | (with_reducible refine Kd.C_alloc ?_ _) | (with_reducible refine Kd.C_drewN ?_ _) | (with_reducible refine Kd.C_drew ?_) | exact HR372_0.out)) | (with_reducible refine Kd.C_alloc ?_ _) | (with_reducible refine Kd.C_drewN ?_ _) | (with_reducible refine Kd.C_drew ?_))); (case side2 => exact HC372_0.out); (case side3 => repeat (first | exact (Kd.C_below HR373_0.out HB.out) | (with_reducible refine Kd.C_alloc ?_ _) | (with_reducible refine Kd.C_drewN ?_ _) | (with_reducible refine Kd.C_drew ?_))); (case side4 => exact HC373_0.out); rintro e w' ⟨rfl, ⟨nd, rfl⟩⟩; (try first | exact ⟨rfl, _, World.drewN_drewN _ _ _⟩ | exact ⟨rfl, _, Eq.trans (World.drewN_drewN _ _ _) (congrArg (World.drewN _) (Nat.add_assoc _ _ _))⟩); have p375 : 0 ≤ (x17_3 : Int) := of_decide_eq_true (by first | (with_reducible assumption) | assumption); have q375 : x17_3 < (t367.length : Int) := of_decide_eq_true (by first | (with_reducible assumption) | assumption); obtain ⟨ad375, A375_0, c375_0, e375, hx375_0, hx375_1, hl375_0, hi375_0⟩ := at_T29 (Kd.S_reads' HO_15.out).2.2 x17_3 p375 q375; (try rw [← Nbq37.out] at hx375_1); obtain rfl : ad372 = ad375 := (by injection e375); obtain ⟨ce375, hce375, hMe375, hcc375⟩ := Kd.S_get HO_15.out z29 x17_3 p375 (by first | exact q375 | exact of_decide_eq_true (by first | (with_reducible assumption) | assumption) | (have e_ := (Kd.S_reads' HO_15.out).1; omega)); obtain ⟨ve375_0, rfl, ge375_0⟩ := k29_openM hMe375; have hv375_0 := hcc375 0 _ rfl; rw [Nat.add_zero] at hv375_0; replace hv375_0 := Option.some.inj (hv375_0.symm.trans hx375_0); rw [hv375_0] at ge375_0; have HL375_0 := Aside0.mk (show Kd.R (Kd.int .u8) 5 _ _ _ _ ((rd_T29 t367 x17_3).f0) from ge375_0); clear hv375_0 ge375_0; clear hcc375 hce375; have HR375_0 := Aside0.mk hi375_0; have HC375_0 := Aside0.mk hl375_0; clear hi375_0 hl375_0; replace p375 := eq_true p375; replace q375 := eq_true q375; have ea_ := Option.some.inj (hx372_0.symm.trans hx375_0); injection ea_ with ea_ en_ ec_; subst ea_; subst ec_; clear en_; have p376 : 0 ≤ (x17_3 : Int) := of_decide_eq_true (by first | (with_reducible assumption) | assumption); have q376 : x17_3 < (l0.length : Int) := of_decide_eq_true (by first | (with_reducible assumption) | assumption); obtain ⟨ad376, A376_0, c376_0, e376, hx376_0, hx376_1, hl376_0, hi376_0⟩ := at_T29 HR0.out x17_3 p376 q376; (try rw [← Nbq37.out] at hx376_1); obtain rfl : ad373 = ad376 := (by injection e376); replace hx376_0 := (HB.out.cell (World.block_lt_of_cell? w _ hx376_0)).trans hx376_0; replace hx376_1 := (HB.out.cell (World.block_lt_of_cell? w _ hx376_1)).trans hx376_1; have HR376_0 := Aside0.mk hi376_0; have HC376_0 := Aside0.mk hl376_0; clear hi376_0 hl376_0; replace p376 := eq_true p376; replace q376 := eq_true q376; have ea_ := Option.some.inj (hx373_0.symm.trans hx376_0); injection ea_ with ea_ en_ ec_; subst ea_; subst ec_; clear en_)))
                              go_roundg k3
                              case measure => have := HJ6.out; have := HJ13.out; have := HK3.out; omega
                              case rel => exact ⟨(wrap64 (x17_3 + 1)), (by first | rfl | (simp; done) | (simp [*]; done)), H', ⟨by have := HJ6.out; have := HJ13.out; have := HK3.out; omega⟩, ⟨by (with_reducible repeat (first | apply Kd.S_alloc | apply Kd.S_drewN | apply Kd.S_drew)); exact HO_15.out⟩, ⟨by repeat (first | (with_reducible first | exact HB.out | apply below_alloc | apply pw_below_drewN | apply below_drew1) | exact HB.out)⟩⟩
                          · replace c38 := Bool.eq_false_iff.mpr c38
                            subst c38
                            have H1 : (if t368 = true then (if (((rd_T29 t367 x17_3).f1) != (x17_3 == a1)) = true then (some false) else (fourinhandlaw22_LaneSpoils.l0 k3 l0 a1 t367 t368 (wrap64 (x17_3 + 1)))) else (if (((rd_T29 t367 x17_3).f1) != false) = true then (some false) else (fourinhandlaw22_LaneSpoils.l0 k3 l0 a1 t367 t368 (wrap64 (x17_3 + 1))))) = some r := by rw [if_neg (show ¬ (false = true) by decide)] at H; exact H
                            clear H
                            have H := H1
                            clear H1
                            by_cases c42 : t368 = true
                            · subst c42
                              have H1 : (if (((rd_T29 t367 x17_3).f1) != (x17_3 == a1)) = true then (some false) else (fourinhandlaw22_LaneSpoils.l0 k3 l0 a1 t367 true (wrap64 (x17_3 + 1)))) = some r := by rw [if_pos rfl] at H; exact H
                              clear H
                              have H := H1
                              clear H1
                              by_cases c43 : (((rd_T29 t367 x17_3).f1) != (x17_3 == a1)) = true
                              · rw [if_pos c43] at H
                                have c43b0 : (((rd_T29 t367 x17_3).f1) != (x17_3 == a1)) = true := c43
                                (try (have c43b1 : decide (((rd_T29 t367 x17_3).f1) = (x17_3 == a1)) = false := by simpa using c43))
                                (try (have c43b2 : (((rd_T29 t367 x17_3).f1) == (x17_3 == a1)) = false := by simpa using c43))
                                (try (have c43b3 : ¬ (((rd_T29 t367 x17_3).f1) = (x17_3 == a1)) := by simpa using c43))
                                clear c43
                                rw [htr1] at H
                                cases H
                              · rw [if_neg c43] at H
                                have c43b0 : (((rd_T29 t367 x17_3).f1) != (x17_3 == a1)) = false := by simpa using c43
                                (try (have c43b1 : decide (((rd_T29 t367 x17_3).f1) = (x17_3 == a1)) = true := by simpa using c43))
                                (try (have c43b2 : (((rd_T29 t367 x17_3).f1) == (x17_3 == a1)) = true := by simpa using c43))
                                clear c43
                                have H' := Aside0.mk H
                                clear H
                                obtain ⟨Ao45, co45, eo45⟩ := Kd.S_slice HO_15.out
                                subst eo45
                                have p372 : 0 ≤ (x17_3 : Int) := of_decide_eq_true (by first | (with_reducible assumption) | assumption)
                                have q372 : x17_3 < (t367.length : Int) := of_decide_eq_true (by first | (with_reducible assumption) | assumption)
                                obtain ⟨ad372, A372_0, c372_0, e372, hx372_0, hx372_1, hl372_0, hi372_0⟩ := at_T29 (Kd.S_reads' HO_15.out).2.2 x17_3 p372 q372
                                (try rw [← Nbq37.out] at hx372_1)
                                cases e372
                                obtain ⟨ce372, hce372, hMe372, hcc372⟩ := Kd.S_get HO_15.out z29 x17_3 p372 (by first | exact q372 | exact of_decide_eq_true (by first | (with_reducible assumption) | assumption) | (have e_ := (Kd.S_reads' HO_15.out).1; omega))
                                obtain ⟨ve372_0, rfl, ge372_0⟩ := k29_openM hMe372
                                have hv372_0 := hcc372 0 _ rfl
                                rw [Nat.add_zero] at hv372_0
                                replace hv372_0 := Option.some.inj (hv372_0.symm.trans hx372_0)
                                rw [hv372_0] at ge372_0
                                have HL372_0 := Aside0.mk (show Kd.R (Kd.int .u8) 5 _ _ _ _ ((rd_T29 t367 x17_3).f0) from ge372_0)
                                clear hv372_0 ge372_0
                                clear hcc372 hce372
                                have HR372_0 := Aside0.mk hi372_0
                                have HC372_0 := Aside0.mk hl372_0
                                clear hi372_0 hl372_0
                                replace p372 := eq_true p372
                                replace q372 := eq_true q372
                                have p373 : 0 ≤ (x17_3 : Int) := of_decide_eq_true (by first | (with_reducible assumption) | assumption)
                                have q373 : x17_3 < (l0.length : Int) := of_decide_eq_true (by first | (with_reducible assumption) | assumption)
                                obtain ⟨ad373, A373_0, c373_0, e373, hx373_0, hx373_1, hl373_0, hi373_0⟩ := at_T29 HR0.out x17_3 p373 q373
                                (try rw [← Nbq37.out] at hx373_1)
                                cases e373
                                replace hx373_0 := (HB.out.cell (World.block_lt_of_cell? w _ hx373_0)).trans hx373_0
                                replace hx373_1 := (HB.out.cell (World.block_lt_of_cell? w _ hx373_1)).trans hx373_1
                                have HR373_0 := Aside0.mk hi373_0
                                have HC373_0 := Aside0.mk hl373_0
                                clear hi373_0 hl373_0
                                replace p373 := eq_true p373
                                replace q373 := eq_true q373
                                go_wp2_with (first | (go_at_call 15; (with_reducible refine (fourinhandref03_Same.calls k3 _ _ ((rd_T29 t367 x17_3).f0) _ _ ((rd_T29 l0 x17_3).f0) true _ ?side1 ?side2 ?side3 ?side4 A35.out).mono ?_); (case side1 => repeat (first | exact (by repeat (first | (with_reducible exact HR372_0.out) | (with_reducible refine Kd.C_alloc ?_ _) | (with_reducible refine Kd.C_drewN ?_ _) | (with_reducible refine Kd.C_drew ?_) | exact HR372_0.out)) | (with_reducible refine Kd.C_alloc ?_ _) | (with_reducible refine Kd.C_drewN ?_ _) | (with_reducible refine Kd.C_drew ?_))); (case side2 => exact HC372_0.out); (case side3 => repeat (first | exact (Kd.C_below HR373_0.out HB.out) | (with_reducible refine Kd.C_alloc ?_ _) | (with_reducible refine Kd.C_drewN ?_ _) | (with_reducible refine Kd.C_drew ?_))); (case side4 => exact HC373_0.out); rintro e w' ⟨rfl, ⟨nd, rfl⟩⟩; (try first | exact ⟨rfl, _, World.drewN_drewN _ _ _⟩ | exact ⟨rfl, _, Eq.trans (World.drewN_drewN _ _ _) (congrArg (World.drewN _) (Nat.add_assoc _ _ _))⟩); have p375 : 0 ≤ (x17_3 : Int) := of_decide_eq_true (by first | (with_reducible assumption) | assumption); have q375 : x17_3 < (t367.length : Int) := of_decide_eq_true (by first | (with_reducible assumption) | assumption); obtain ⟨ad375, A375_0, c375_0, e375, hx375_0, hx375_1, hl375_0, hi375_0⟩ := at_T29 (Kd.S_reads' HO_15.out).2.2 x17_3 p375 q375; (try rw [← Nbq37.out] at hx375_1); obtain rfl : ad372 = ad375 := (by injection e375); obtain ⟨ce375, hce375, hMe375, hcc375⟩ := Kd.S_get HO_15.out z29 x17_3 p375 (by first | exact q375 | exact of_decide_eq_true (by first | (with_reducible assumption) | assumption) | (have e_ := (Kd.S_reads' HO_15.out).1; omega)); obtain ⟨ve375_0, rfl, ge375_0⟩ := k29_openM hMe375; have hv375_0 := hcc375 0 _ rfl; rw [Nat.add_zero] at hv375_0; replace hv375_0 := Option.some.inj (hv375_0.symm.trans hx375_0); rw [hv375_0] at ge375_0; have HL375_0 := Aside0.mk (show Kd.R (Kd.int .u8) 5 _ _ _ _ ((rd_T29 t367 x17_3).f0) from ge375_0); clear hv375_0 ge375_0; clear hcc375 hce375; have HR375_0 := Aside0.mk hi375_0; have HC375_0 := Aside0.mk hl375_0; clear hi375_0 hl375_0; replace p375 := eq_true p375; replace q375 := eq_true q375; have ea_ := Option.some.inj (hx372_0.symm.trans hx375_0); injection ea_ with ea_ en_ ec_; subst ea_; subst ec_; clear en_; have p376 : 0 ≤ (x17_3 : Int) := of_decide_eq_true (by first | (with_reducible assumption) | assumption); have q376 : x17_3 < (l0.length : Int) := of_decide_eq_true (by first | (with_reducible assumption) | assumption); obtain ⟨ad376, A376_0, c376_0, e376, hx376_0, hx376_1, hl376_0, hi376_0⟩ := at_T29 HR0.out x17_3 p376 q376; (try rw [← Nbq37.out] at hx376_1); obtain rfl : ad373 = ad376 := (by injection e376); replace hx376_0 := (HB.out.cell (World.block_lt_of_cell? w _ hx376_0)).trans hx376_0; replace hx376_1 := (HB.out.cell (World.block_lt_of_cell? w _ hx376_1)).trans hx376_1; have HR376_0 := Aside0.mk hi376_0; have HC376_0 := Aside0.mk hl376_0; clear hi376_0 hl376_0; replace p376 := eq_true p376; replace q376 := eq_true q376; have ea_ := Option.some.inj (hx373_0.symm.trans hx376_0); injection ea_ with ea_ en_ ec_; subst ea_; subst ec_; clear en_))
                                repeat (go_quiet (first | (go_at_call 15; (with_reducible refine (fourinhandref03_Same.calls k3 _ _ ((rd_T29 t367 x17_3).f0) _ _ ((rd_T29 l0 x17_3).f0) true _ ?side1 ?side2 ?side3 ?side4 A35.out).mono ?_); (case side1 => repeat (first | exact (by repeat (first | (with_reducible exact HR372_0.out) | (with_reducible refine Kd.C_alloc ?_ _) | (with_reducible refine Kd.C_drewN ?_ _) | (with_reducible refine Kd.C_drew ?_) | exact HR372_0.out)) | (with_reducible refine Kd.C_alloc ?_ _) | (with_reducible refine Kd.C_drewN ?_ _) | (with_reducible refine Kd.C_drew ?_))); (case side2 => exact HC372_0.out); (case side3 => repeat (first | exact (Kd.C_below HR373_0.out HB.out) | (with_reducible refine Kd.C_alloc ?_ _) | (with_reducible refine Kd.C_drewN ?_ _) | (with_reducible refine Kd.C_drew ?_))); (case side4 => exact HC373_0.out); rintro e w' ⟨rfl, ⟨nd, rfl⟩⟩; (try first | exact ⟨rfl, _, World.drewN_drewN _ _ _⟩ | exact ⟨rfl, _, Eq.trans (World.drewN_drewN _ _ _) (congrArg (World.drewN _) (Nat.add_assoc _ _ _))⟩); have p375 : 0 ≤ (x17_3 : Int) := of_decide_eq_true (by first | (with_reducible assumption) | assumption); have q375 : x17_3 < (t367.length : Int) := of_decide_eq_true (by first | (with_reducible assumption) | assumption); obtain ⟨ad375, A375_0, c375_0, e375, hx375_0, hx375_1, hl375_0, hi375_0⟩ := at_T29 (Kd.S_reads' HO_15.out).2.2 x17_3 p375 q375; (try rw [← Nbq37.out] at hx375_1); obtain rfl : ad372 = ad375 := (by injection e375); obtain ⟨ce375, hce375, hMe375, hcc375⟩ := Kd.S_get HO_15.out z29 x17_3 p375 (by first | exact q375 | exact of_decide_eq_true (by first | (with_reducible assumption) | assumption) | (have e_ := (Kd.S_reads' HO_15.out).1; omega)); obtain ⟨ve375_0, rfl, ge375_0⟩ := k29_openM hMe375; have hv375_0 := hcc375 0 _ rfl; rw [Nat.add_zero] at hv375_0; replace hv375_0 := Option.some.inj (hv375_0.symm.trans hx375_0); rw [hv375_0] at ge375_0; have HL375_0 := Aside0.mk (show Kd.R (Kd.int .u8) 5 _ _ _ _ ((rd_T29 t367 x17_3).f0) from ge375_0); clear hv375_0 ge375_0; clear hcc375 hce375; have HR375_0 := Aside0.mk hi375_0; have HC375_0 := Aside0.mk hl375_0; clear hi375_0 hl375_0; replace p375 := eq_true p375; replace q375 := eq_true q375; have ea_ := Option.some.inj (hx372_0.symm.trans hx375_0); injection ea_ with ea_ en_ ec_; subst ea_; subst ec_; clear en_; have p376 : 0 ≤ (x17_3 : Int) := of_decide_eq_true (by first | (with_reducible assumption) | assumption); have q376 : x17_3 < (l0.length : Int) := of_decide_eq_true (by first | (with_reducible assumption) | assumption); obtain ⟨ad376, A376_0, c376_0, e376, hx376_0, hx376_1, hl376_0, hi376_0⟩ := at_T29 HR0.out x17_3 p376 q376; (try rw [← Nbq37.out] at hx376_1); obtain rfl : ad373 = ad376 := (by injection e376); replace hx376_0 := (HB.out.cell (World.block_lt_of_cell? w _ hx376_0)).trans hx376_0; replace hx376_1 := (HB.out.cell (World.block_lt_of_cell? w _ hx376_1)).trans hx376_1; have HR376_0 := Aside0.mk hi376_0; have HC376_0 := Aside0.mk hl376_0; clear hi376_0 hl376_0; replace p376 := eq_true p376; replace q376 := eq_true q376; have ea_ := Option.some.inj (hx373_0.symm.trans hx376_0); injection ea_ with ea_ en_ ec_; subst ea_; subst ec_; clear en_)); try go_wp2_with (first | (go_at_call 15; (with_reducible refine (fourinhandref03_Same.calls k3 _ _ ((rd_T29 t367 x17_3).f0) _ _ ((rd_T29 l0 x17_3).f0) true _ ?side1 ?side2 ?side3 ?side4 A35.out).mono ?_); (case side1 => repeat (first | exact (by repeat (first | (with_reducible exact HR372_0.out) | (with_reducible refine Kd.C_alloc ?_ _) | (with_reducible refine Kd.C_drewN ?_ _) | (with_reducible refine Kd.C_drew ?_) | exact HR372_0.out)) | (with_reducible refine Kd.C_alloc ?_ _) | (with_reducible refine Kd.C_drewN ?_ _) | (with_reducible refine Kd.C_drew ?_))); (case side2 => exact HC372_0.out); (case side3 => repeat (first | exact (Kd.C_below HR373_0.out HB.out) | (with_reducible refine Kd.C_alloc ?_ _) | (with_reducible refine Kd.C_drewN ?_ _) | (with_reducible refine Kd.C_drew ?_))); (case side4 => exact HC373_0.out); rintro e w' ⟨rfl, ⟨nd, rfl⟩⟩; (try first | exact ⟨rfl, _, World.drewN_drewN _ _ _⟩ | exact ⟨rfl, _, Eq.trans (World.drewN_drewN _ _ _) (congrArg (World.drewN _) (Nat.add_assoc _ _ _))⟩); have p375 : 0 ≤ (x17_3 : Int) := of_decide_eq_true (by first | (with_reducible assumption) | assumption); have q375 : x17_3 < (t367.length : Int) := of_decide_eq_true (by first | (with_reducible assumption) | assumption); obtain ⟨ad375, A375_0, c375_0, e375, hx375_0, hx375_1, hl375_0, hi375_0⟩ := at_T29 (Kd.S_reads' HO_15.out).2.2 x17_3 p375 q375; (try rw [← Nbq37.out] at hx375_1); obtain rfl : ad372 = ad375 := (by injection e375); obtain ⟨ce375, hce375, hMe375, hcc375⟩ := Kd.S_get HO_15.out z29 x17_3 p375 (by first | exact q375 | exact of_decide_eq_true (by first | (with_reducible assumption) | assumption) | (have e_ := (Kd.S_reads' HO_15.out).1; omega)); obtain ⟨ve375_0, rfl, ge375_0⟩ := k29_openM hMe375; have hv375_0 := hcc375 0 _ rfl; rw [Nat.add_zero] at hv375_0; replace hv375_0 := Option.some.inj (hv375_0.symm.trans hx375_0); rw [hv375_0] at ge375_0; have HL375_0 := Aside0.mk (show Kd.R (Kd.int .u8) 5 _ _ _ _ ((rd_T29 t367 x17_3).f0) from ge375_0); clear hv375_0 ge375_0; clear hcc375 hce375; have HR375_0 := Aside0.mk hi375_0; have HC375_0 := Aside0.mk hl375_0; clear hi375_0 hl375_0; replace p375 := eq_true p375; replace q375 := eq_true q375; have ea_ := Option.some.inj (hx372_0.symm.trans hx375_0); injection ea_ with ea_ en_ ec_; subst ea_; subst ec_; clear en_; have p376 : 0 ≤ (x17_3 : Int) := of_decide_eq_true (by first | (with_reducible assumption) | assumption); have q376 : x17_3 < (l0.length : Int) := of_decide_eq_true (by first | (with_reducible assumption) | assumption); obtain ⟨ad376, A376_0, c376_0, e376, hx376_0, hx376_1, hl376_0, hi376_0⟩ := at_T29 HR0.out x17_3 p376 q376; (try rw [← Nbq37.out] at hx376_1); obtain rfl : ad373 = ad376 := (by injection e376); replace hx376_0 := (HB.out.cell (World.block_lt_of_cell? w _ hx376_0)).trans hx376_0; replace hx376_1 := (HB.out.cell (World.block_lt_of_cell? w _ hx376_1)).trans hx376_1; have HR376_0 := Aside0.mk hi376_0; have HC376_0 := Aside0.mk hl376_0; clear hi376_0 hl376_0; replace p376 := eq_true p376; replace q376 := eq_true q376; have ea_ := Option.some.inj (hx373_0.symm.trans hx376_0); injection ea_ with ea_ en_ ec_; subst ea_; subst ec_; clear en_)))
                                go_roundg k3
                                case measure => have := HJ6.out; have := HJ13.out; have := HK3.out; omega
                                case rel => exact ⟨(wrap64 (x17_3 + 1)), (by first | rfl | (simp; done) | (simp [*]; done)), H', ⟨by have := HJ6.out; have := HJ13.out; have := HK3.out; omega⟩, ⟨by (with_reducible repeat (first | apply Kd.S_alloc | apply Kd.S_drewN | apply Kd.S_drew)); exact HO_15.out⟩, ⟨by repeat (first | (with_reducible first | exact HB.out | apply below_alloc | apply pw_below_drewN | apply below_drew1) | exact HB.out)⟩⟩
                            · replace c42 := Bool.eq_false_iff.mpr c42
                              subst c42
                              have H1 : (if (((rd_T29 t367 x17_3).f1) != false) = true then (some false) else (fourinhandlaw22_LaneSpoils.l0 k3 l0 a1 t367 false (wrap64 (x17_3 + 1)))) = some r := by rw [if_neg (show ¬ (false = true) by decide)] at H; exact H
                              clear H
                              have H := H1
                              clear H1
                              by_cases c46 : (((rd_T29 t367 x17_3).f1) != false) = true
                              · rw [if_pos c46] at H
                                have c46b0 : (((rd_T29 t367 x17_3).f1) != false) = true := c46
                                (try (have c46b1 : decide (((rd_T29 t367 x17_3).f1) = false) = false := by simpa using c46))
                                (try (have c46b2 : (((rd_T29 t367 x17_3).f1) == false) = false := by simpa using c46))
                                (try (have c46b3 : ¬ (((rd_T29 t367 x17_3).f1) = false) := by simpa using c46))
                                clear c46
                                rw [htr1] at H
                                cases H
                              · rw [if_neg c46] at H
                                have c46b0 : (((rd_T29 t367 x17_3).f1) != false) = false := by simpa using c46
                                (try (have c46b1 : decide (((rd_T29 t367 x17_3).f1) = false) = true := by simpa using c46))
                                (try (have c46b2 : (((rd_T29 t367 x17_3).f1) == false) = true := by simpa using c46))
                                clear c46
                                have H' := Aside0.mk H
                                clear H
                                obtain ⟨Ao48, co48, eo48⟩ := Kd.S_slice HO_15.out
                                subst eo48
                                have p372 : 0 ≤ (x17_3 : Int) := of_decide_eq_true (by first | (with_reducible assumption) | assumption)
                                have q372 : x17_3 < (t367.length : Int) := of_decide_eq_true (by first | (with_reducible assumption) | assumption)
                                obtain ⟨ad372, A372_0, c372_0, e372, hx372_0, hx372_1, hl372_0, hi372_0⟩ := at_T29 (Kd.S_reads' HO_15.out).2.2 x17_3 p372 q372
                                (try rw [← Nbq37.out] at hx372_1)
                                cases e372
                                obtain ⟨ce372, hce372, hMe372, hcc372⟩ := Kd.S_get HO_15.out z29 x17_3 p372 (by first | exact q372 | exact of_decide_eq_true (by first | (with_reducible assumption) | assumption) | (have e_ := (Kd.S_reads' HO_15.out).1; omega))
                                obtain ⟨ve372_0, rfl, ge372_0⟩ := k29_openM hMe372
                                have hv372_0 := hcc372 0 _ rfl
                                rw [Nat.add_zero] at hv372_0
                                replace hv372_0 := Option.some.inj (hv372_0.symm.trans hx372_0)
                                rw [hv372_0] at ge372_0
                                have HL372_0 := Aside0.mk (show Kd.R (Kd.int .u8) 5 _ _ _ _ ((rd_T29 t367 x17_3).f0) from ge372_0)
                                clear hv372_0 ge372_0
                                clear hcc372 hce372
                                have HR372_0 := Aside0.mk hi372_0
                                have HC372_0 := Aside0.mk hl372_0
                                clear hi372_0 hl372_0
                                replace p372 := eq_true p372
                                replace q372 := eq_true q372
                                have p373 : 0 ≤ (x17_3 : Int) := of_decide_eq_true (by first | (with_reducible assumption) | assumption)
                                have q373 : x17_3 < (l0.length : Int) := of_decide_eq_true (by first | (with_reducible assumption) | assumption)
                                obtain ⟨ad373, A373_0, c373_0, e373, hx373_0, hx373_1, hl373_0, hi373_0⟩ := at_T29 HR0.out x17_3 p373 q373
                                (try rw [← Nbq37.out] at hx373_1)
                                cases e373
                                replace hx373_0 := (HB.out.cell (World.block_lt_of_cell? w _ hx373_0)).trans hx373_0
                                replace hx373_1 := (HB.out.cell (World.block_lt_of_cell? w _ hx373_1)).trans hx373_1
                                have HR373_0 := Aside0.mk hi373_0
                                have HC373_0 := Aside0.mk hl373_0
                                clear hi373_0 hl373_0
                                replace p373 := eq_true p373
                                replace q373 := eq_true q373
                                go_wp2_with (first | (go_at_call 15; (with_reducible refine (fourinhandref03_Same.calls k3 _ _ ((rd_T29 t367 x17_3).f0) _ _ ((rd_T29 l0 x17_3).f0) true _ ?side1 ?side2 ?side3 ?side4 A35.out).mono ?_); (case side1 => repeat (first | exact (by repeat (first | (with_reducible exact HR372_0.out) | (with_reducible refine Kd.C_alloc ?_ _) | (with_reducible refine Kd.C_drewN ?_ _) | (with_reducible refine Kd.C_drew ?_) | exact HR372_0.out)) | (with_reducible refine Kd.C_alloc ?_ _) | (with_reducible refine Kd.C_drewN ?_ _) | (with_reducible refine Kd.C_drew ?_))); (case side2 => exact HC372_0.out); (case side3 => repeat (first | exact (Kd.C_below HR373_0.out HB.out) | (with_reducible refine Kd.C_alloc ?_ _) | (with_reducible refine Kd.C_drewN ?_ _) | (with_reducible refine Kd.C_drew ?_))); (case side4 => exact HC373_0.out); rintro e w' ⟨rfl, ⟨nd, rfl⟩⟩; (try first | exact ⟨rfl, _, World.drewN_drewN _ _ _⟩ | exact ⟨rfl, _, Eq.trans (World.drewN_drewN _ _ _) (congrArg (World.drewN _) (Nat.add_assoc _ _ _))⟩); have p375 : 0 ≤ (x17_3 : Int) := of_decide_eq_true (by first | (with_reducible assumption) | assumption); have q375 : x17_3 < (t367.length : Int) := of_decide_eq_true (by first | (with_reducible assumption) | assumption); obtain ⟨ad375, A375_0, c375_0, e375, hx375_0, hx375_1, hl375_0, hi375_0⟩ := at_T29 (Kd.S_reads' HO_15.out).2.2 x17_3 p375 q375; (try rw [← Nbq37.out] at hx375_1); obtain rfl : ad372 = ad375 := (by injection e375); obtain ⟨ce375, hce375, hMe375, hcc375⟩ := Kd.S_get HO_15.out z29 x17_3 p375 (by first | exact q375 | exact of_decide_eq_true (by first | (with_reducible assumption) | assumption) | (have e_ := (Kd.S_reads' HO_15.out).1; omega)); obtain ⟨ve375_0, rfl, ge375_0⟩ := k29_openM hMe375; have hv375_0 := hcc375 0 _ rfl; rw [Nat.add_zero] at hv375_0; replace hv375_0 := Option.some.inj (hv375_0.symm.trans hx375_0); rw [hv375_0] at ge375_0; have HL375_0 := Aside0.mk (show Kd.R (Kd.int .u8) 5 _ _ _ _ ((rd_T29 t367 x17_3).f0) from ge375_0); clear hv375_0 ge375_0; clear hcc375 hce375; have HR375_0 := Aside0.mk hi375_0; have HC375_0 := Aside0.mk hl375_0; clear hi375_0 hl375_0; replace p375 := eq_true p375; replace q375 := eq_true q375; have ea_ := Option.some.inj (hx372_0.symm.trans hx375_0); injection ea_ with ea_ en_ ec_; subst ea_; subst ec_; clear en_; have p376 : 0 ≤ (x17_3 : Int) := of_decide_eq_true (by first | (with_reducible assumption) | assumption); have q376 : x17_3 < (l0.length : Int) := of_decide_eq_true (by first | (with_reducible assumption) | assumption); obtain ⟨ad376, A376_0, c376_0, e376, hx376_0, hx376_1, hl376_0, hi376_0⟩ := at_T29 HR0.out x17_3 p376 q376; (try rw [← Nbq37.out] at hx376_1); obtain rfl : ad373 = ad376 := (by injection e376); replace hx376_0 := (HB.out.cell (World.block_lt_of_cell? w _ hx376_0)).trans hx376_0; replace hx376_1 := (HB.out.cell (World.block_lt_of_cell? w _ hx376_1)).trans hx376_1; have HR376_0 := Aside0.mk hi376_0; have HC376_0 := Aside0.mk hl376_0; clear hi376_0 hl376_0; replace p376 := eq_true p376; replace q376 := eq_true q376; have ea_ := Option.some.inj (hx373_0.symm.trans hx376_0); injection ea_ with ea_ en_ ec_; subst ea_; subst ec_; clear en_))
                                repeat (go_quiet (first | (go_at_call 15; (with_reducible refine (fourinhandref03_Same.calls k3 _ _ ((rd_T29 t367 x17_3).f0) _ _ ((rd_T29 l0 x17_3).f0) true _ ?side1 ?side2 ?side3 ?side4 A35.out).mono ?_); (case side1 => repeat (first | exact (by repeat (first | (with_reducible exact HR372_0.out) | (with_reducible refine Kd.C_alloc ?_ _) | (with_reducible refine Kd.C_drewN ?_ _) | (with_reducible refine Kd.C_drew ?_) | exact HR372_0.out)) | (with_reducible refine Kd.C_alloc ?_ _) | (with_reducible refine Kd.C_drewN ?_ _) | (with_reducible refine Kd.C_drew ?_))); (case side2 => exact HC372_0.out); (case side3 => repeat (first | exact (Kd.C_below HR373_0.out HB.out) | (with_reducible refine Kd.C_alloc ?_ _) | (with_reducible refine Kd.C_drewN ?_ _) | (with_reducible refine Kd.C_drew ?_))); (case side4 => exact HC373_0.out); rintro e w' ⟨rfl, ⟨nd, rfl⟩⟩; (try first | exact ⟨rfl, _, World.drewN_drewN _ _ _⟩ | exact ⟨rfl, _, Eq.trans (World.drewN_drewN _ _ _) (congrArg (World.drewN _) (Nat.add_assoc _ _ _))⟩); have p375 : 0 ≤ (x17_3 : Int) := of_decide_eq_true (by first | (with_reducible assumption) | assumption); have q375 : x17_3 < (t367.length : Int) := of_decide_eq_true (by first | (with_reducible assumption) | assumption); obtain ⟨ad375, A375_0, c375_0, e375, hx375_0, hx375_1, hl375_0, hi375_0⟩ := at_T29 (Kd.S_reads' HO_15.out).2.2 x17_3 p375 q375; (try rw [← Nbq37.out] at hx375_1); obtain rfl : ad372 = ad375 := (by injection e375); obtain ⟨ce375, hce375, hMe375, hcc375⟩ := Kd.S_get HO_15.out z29 x17_3 p375 (by first | exact q375 | exact of_decide_eq_true (by first | (with_reducible assumption) | assumption) | (have e_ := (Kd.S_reads' HO_15.out).1; omega)); obtain ⟨ve375_0, rfl, ge375_0⟩ := k29_openM hMe375; have hv375_0 := hcc375 0 _ rfl; rw [Nat.add_zero] at hv375_0; replace hv375_0 := Option.some.inj (hv375_0.symm.trans hx375_0); rw [hv375_0] at ge375_0; have HL375_0 := Aside0.mk (show Kd.R (Kd.int .u8) 5 _ _ _ _ ((rd_T29 t367 x17_3).f0) from ge375_0); clear hv375_0 ge375_0; clear hcc375 hce375; have HR375_0 := Aside0.mk hi375_0; have HC375_0 := Aside0.mk hl375_0; clear hi375_0 hl375_0; replace p375 := eq_true p375; replace q375 := eq_true q375; have ea_ := Option.some.inj (hx372_0.symm.trans hx375_0); injection ea_ with ea_ en_ ec_; subst ea_; subst ec_; clear en_; have p376 : 0 ≤ (x17_3 : Int) := of_decide_eq_true (by first | (with_reducible assumption) | assumption); have q376 : x17_3 < (l0.length : Int) := of_decide_eq_true (by first | (with_reducible assumption) | assumption); obtain ⟨ad376, A376_0, c376_0, e376, hx376_0, hx376_1, hl376_0, hi376_0⟩ := at_T29 HR0.out x17_3 p376 q376; (try rw [← Nbq37.out] at hx376_1); obtain rfl : ad373 = ad376 := (by injection e376); replace hx376_0 := (HB.out.cell (World.block_lt_of_cell? w _ hx376_0)).trans hx376_0; replace hx376_1 := (HB.out.cell (World.block_lt_of_cell? w _ hx376_1)).trans hx376_1; have HR376_0 := Aside0.mk hi376_0; have HC376_0 := Aside0.mk hl376_0; clear hi376_0 hl376_0; replace p376 := eq_true p376; replace q376 := eq_true q376; have ea_ := Option.some.inj (hx373_0.symm.trans hx376_0); injection ea_ with ea_ en_ ec_; subst ea_; subst ec_; clear en_)); try go_wp2_with (first | (go_at_call 15; (with_reducible refine (fourinhandref03_Same.calls k3 _ _ ((rd_T29 t367 x17_3).f0) _ _ ((rd_T29 l0 x17_3).f0) true _ ?side1 ?side2 ?side3 ?side4 A35.out).mono ?_); (case side1 => repeat (first | exact (by repeat (first | (with_reducible exact HR372_0.out) | (with_reducible refine Kd.C_alloc ?_ _) | (with_reducible refine Kd.C_drewN ?_ _) | (with_reducible refine Kd.C_drew ?_) | exact HR372_0.out)) | (with_reducible refine Kd.C_alloc ?_ _) | (with_reducible refine Kd.C_drewN ?_ _) | (with_reducible refine Kd.C_drew ?_))); (case side2 => exact HC372_0.out); (case side3 => repeat (first | exact (Kd.C_below HR373_0.out HB.out) | (with_reducible refine Kd.C_alloc ?_ _) | (with_reducible refine Kd.C_drewN ?_ _) | (with_reducible refine Kd.C_drew ?_))); (case side4 => exact HC373_0.out); rintro e w' ⟨rfl, ⟨nd, rfl⟩⟩; (try first | exact ⟨rfl, _, World.drewN_drewN _ _ _⟩ | exact ⟨rfl, _, Eq.trans (World.drewN_drewN _ _ _) (congrArg (World.drewN _) (Nat.add_assoc _ _ _))⟩); have p375 : 0 ≤ (x17_3 : Int) := of_decide_eq_true (by first | (with_reducible assumption) | assumption); have q375 : x17_3 < (t367.length : Int) := of_decide_eq_true (by first | (with_reducible assumption) | assumption); obtain ⟨ad375, A375_0, c375_0, e375, hx375_0, hx375_1, hl375_0, hi375_0⟩ := at_T29 (Kd.S_reads' HO_15.out).2.2 x17_3 p375 q375; (try rw [← Nbq37.out] at hx375_1); obtain rfl : ad372 = ad375 := (by injection e375); obtain ⟨ce375, hce375, hMe375, hcc375⟩ := Kd.S_get HO_15.out z29 x17_3 p375 (by first | exact q375 | exact of_decide_eq_true (by first | (with_reducible assumption) | assumption) | (have e_ := (Kd.S_reads' HO_15.out).1; omega)); obtain ⟨ve375_0, rfl, ge375_0⟩ := k29_openM hMe375; have hv375_0 := hcc375 0 _ rfl; rw [Nat.add_zero] at hv375_0; replace hv375_0 := Option.some.inj (hv375_0.symm.trans hx375_0); rw [hv375_0] at ge375_0; have HL375_0 := Aside0.mk (show Kd.R (Kd.int .u8) 5 _ _ _ _ ((rd_T29 t367 x17_3).f0) from ge375_0); clear hv375_0 ge375_0; clear hcc375 hce375; have HR375_0 := Aside0.mk hi375_0; have HC375_0 := Aside0.mk hl375_0; clear hi375_0 hl375_0; replace p375 := eq_true p375; replace q375 := eq_true q375; have ea_ := Option.some.inj (hx372_0.symm.trans hx375_0); injection ea_ with ea_ en_ ec_; subst ea_; subst ec_; clear en_; have p376 : 0 ≤ (x17_3 : Int) := of_decide_eq_true (by first | (with_reducible assumption) | assumption); have q376 : x17_3 < (l0.length : Int) := of_decide_eq_true (by first | (with_reducible assumption) | assumption); obtain ⟨ad376, A376_0, c376_0, e376, hx376_0, hx376_1, hl376_0, hi376_0⟩ := at_T29 HR0.out x17_3 p376 q376; (try rw [← Nbq37.out] at hx376_1); obtain rfl : ad373 = ad376 := (by injection e376); replace hx376_0 := (HB.out.cell (World.block_lt_of_cell? w _ hx376_0)).trans hx376_0; replace hx376_1 := (HB.out.cell (World.block_lt_of_cell? w _ hx376_1)).trans hx376_1; have HR376_0 := Aside0.mk hi376_0; have HC376_0 := Aside0.mk hl376_0; clear hi376_0 hl376_0; replace p376 := eq_true p376; replace q376 := eq_true q376; have ea_ := Option.some.inj (hx373_0.symm.trans hx376_0); injection ea_ with ea_ en_ ec_; subst ea_; subst ec_; clear en_)))
                                go_roundg k3
                                case measure => have := HJ6.out; have := HJ13.out; have := HK3.out; omega
                                case rel => exact ⟨(wrap64 (x17_3 + 1)), (by first | rfl | (simp; done) | (simp [*]; done)), H', ⟨by have := HJ6.out; have := HJ13.out; have := HK3.out; omega⟩, ⟨by (with_reducible repeat (first | apply Kd.S_alloc | apply Kd.S_drewN | apply Kd.S_drew)); exact HO_15.out⟩, ⟨by repeat (first | (with_reducible first | exact HB.out | apply below_alloc | apply pw_below_drewN | apply below_drew1) | exact HB.out)⟩⟩
                        · replace c36 := Bool.eq_false_iff.mpr c36
                          subst c36
                          have H1 : (some false) = some r := by rw [if_neg (show ¬ (false = true) by decide)] at H; exact H
                          clear H
                          have H := H1
                          clear H1
                          rw [htr1] at H
                          cases H
                      · rw [if_neg c34] at H
                        exact absurd H (by simp)
                    · rw [if_neg c33] at H
                      exact absurd H (by simp)
                  · rw [if_neg c32] at H
                    have c32b0 : decide (x17_3 < (l0.length : Int)) = false := decide_eq_false c32
                    clear c32
                    obtain rfl := Option.some.inj H
                    go_wp2
                    repeat (go_quiet (fail); try go_wp2)
                    go_ret
                    exact ⟨by first | rfl | (simp [errW_none, errW_some] <;> rfl) | (simp [*, errW_none, errW_some] <;> rfl), by repeat (first | (with_reducible first | exact HB.out | apply below_alloc | apply pw_below_drewN | apply below_drew1) | exact HB.out)⟩

end Go.Proofs.Ytnfgcjeenjomgaa.S
