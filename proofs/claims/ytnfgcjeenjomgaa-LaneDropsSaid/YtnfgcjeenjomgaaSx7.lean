/- What the program's functions compute, as plain functions, and that they do: walks laid by a program of the session's. -/
import Derived.Test.YtnfgcjeenjomgaaSx0
import Derived.Test.YtnfgcjeenjomgaaSx6
import Derived.Test.YtnfgcjeenjomgaaGMay
import Derived.Test.YtnfgcjeenjomgaaGTakeB
import Derived.Test.YtnfgcjeenjomgaaGAwake
namespace Go.Proofs.Ytnfgcjeenjomgaa.S
open Go.RowKit Go.Proofs.YtnfgcjeenjomgaaW.PrintWords Go.Proofs.YtnfgcjeenjomgaaW.PrintLast Go.Proofs.YtnfgcjeenjomgaaW.PrintMore
open Go.Proofs.Ytnfgcjeenjomgaa.Given
attribute [local go_sem] max2_int min2_int max_two min_two max_three min_three max_four min_four   -- for this text's walks alone
set_option linter.unusedVariables false
set_option linter.unusedSimpArgs false

/-! ### fourinhandlaw22_LaneDrops: function 4 -/
mutual
def fourinhandlaw22_LaneDrops.j0 : Nat → List (S29) → Int → Bool → Bool → Option (Bool)
  | 0, _, _, _, _ => none
  | k + 1, x0, x1, x5, x33 => if x33 = true then (some x5) else ((lane_Take.f x0 x1).bind fun bt168 => (if x1 ≥ 0 then (fourinhandlaw22_LaneDrops.j1 k x0 x1 bt168.1 bt168.2.2.2 (bt168.2.2.2 != (decide (x1 < (x0.length : Int)))) bt168.2.1 bt168.2.2.1) else (fourinhandlaw22_LaneDrops.j1 k x0 x1 bt168.1 bt168.2.2.2 (bt168.2.2.2 != false) bt168.2.1 bt168.2.2.1)))
def fourinhandlaw22_LaneDrops.j1 : Nat → List (S29) → Int → List (S29) → Bool → Bool → List Int → Bool → Option (Bool)
  | 0, _, _, _, _, _, _, _ => none
  | k + 1, x0, x1, x7, x9, x51, x177000, x177001 => if x51 = true then (some false) else (if x9 = true then (if 0 ≤ x1 then (if x1 ≤ (x0.length : Int) then ((fourinhandref22_Own.f k (x0.take (x1 : Int).toNat)).bind fun t182 => ((some (([(⟨x177000, x177001⟩ : S29)] : List (S29)) : List (S29))).bind fun y185 => (if t182.length + y185.length < 4398046511104 then ((some (t182 ++ y185 : List (S29))).bind fun y188 => (if 0 ≤ (wrap64 (x1 + 1)) then (if (wrap64 (x1 + 1)) ≤ (x0.length : Int) then ((fourinhandref22_Own.f k (x0.drop ((wrap64 (x1 + 1)) : Int).toNat)).bind fun t195 => (if y188.length + t195.length < 4398046511104 then (fourinhandlaw22_LaneDrops.l0 k x0 x7 (y188 ++ t195) 0) else (none))) else (none)) else (none))) else (none)))) else (none)) else (none)) else ((fourinhandref22_Same.f k x7 x0).bind fun t177 => (if t177 = true then (some ((x177000.length : Int) == 0)) else (some false))))
def fourinhandlaw22_LaneDrops.l0 : Nat → List (S29) → List (S29) → List (S29) → Int → Option (Bool)
  | 0, _, _, _, _ => none
  | k + 1, x0, x7, x10, x11 => if x11 < (x0.length : Int) then ((lane_Take.f x0 (wrap64 ((wrap64 ((x0.length : Int) - 1)) - x11))).bind fun bt201 => (if bt201.2.2.2 = true then (if (bt201.1.length : Int) = (wrap64 ((x0.length : Int) - 1)) then (fourinhandlaw22_LaneDrops.l0 k x0 x7 x10 (wrap64 (x11 + 1))) else (some false)) else (some false))) else (fourinhandlaw22_LaneDrops.l1 k x0 x7 x10 x7 0)
def fourinhandlaw22_LaneDrops.l1 : Nat → List (S29) → List (S29) → List (S29) → List (S29) → Int → Option (Bool)
  | 0, _, _, _, _, _ => none
  | k + 1, x0, x7, x10, x15, x16 => if x16 < (wrap64 ((x0.length : Int) - 1)) then ((lane_Take.f x15 0).bind fun bt210 => (if bt210.2.2.2 = true then (fourinhandlaw22_LaneDrops.l1 k x0 x7 x10 bt210.1 (wrap64 (x16 + 1))) else (some false))) else ((fourinhandref22_Same.f k x10 x0).bind fun t219 => (if t219 = true then (if (x15.length : Int) = 0 then (some ((x7.length : Int) == (wrap64 ((x0.length : Int) - 1)))) else (some false)) else (some false)))
end
def fourinhandlaw22_LaneDrops.f (k : Nat) (l0 : List (S29)) (a1 : Int) : Option (Bool) := (fourinhandlaw22_awake.f).bind fun t165 => ((fourinhandlaw22_few.f k l0).bind fun t166 => (if t165 = true then (if t166 = true then ((lane_May.f l0).bind fun t167 => (fourinhandlaw22_LaneDrops.j0 k l0 a1 t165 (!t167))) else (fourinhandlaw22_LaneDrops.j0 k l0 a1 t165 true)) else (fourinhandlaw22_LaneDrops.j0 k l0 a1 t165 true)))
theorem fourinhandlaw22_LaneDrops.mono_l : ∀ k, (∀ y0 y1 y2 y3, LeO (fourinhandlaw22_LaneDrops.j0 k y0 y1 y2 y3) (fourinhandlaw22_LaneDrops.j0 (k + 1) y0 y1 y2 y3)) ∧ (∀ y0 y1 y2 y3 y4 y5 y6, LeO (fourinhandlaw22_LaneDrops.j1 k y0 y1 y2 y3 y4 y5 y6) (fourinhandlaw22_LaneDrops.j1 (k + 1) y0 y1 y2 y3 y4 y5 y6)) ∧ (∀ y0 y1 y2 y3, LeO (fourinhandlaw22_LaneDrops.l0 k y0 y1 y2 y3) (fourinhandlaw22_LaneDrops.l0 (k + 1) y0 y1 y2 y3)) ∧ (∀ y0 y1 y2 y3 y4, LeO (fourinhandlaw22_LaneDrops.l1 k y0 y1 y2 y3 y4) (fourinhandlaw22_LaneDrops.l1 (k + 1) y0 y1 y2 y3 y4))
  | 0 => ⟨fun _ _ _ _ r h => by simp [fourinhandlaw22_LaneDrops.j0] at h, fun _ _ _ _ _ _ _ r h => by simp [fourinhandlaw22_LaneDrops.j1] at h, fun _ _ _ _ r h => by simp [fourinhandlaw22_LaneDrops.l0] at h, fun _ _ _ _ _ r h => by simp [fourinhandlaw22_LaneDrops.l1] at h⟩
  | k + 1 => by
    obtain ⟨ih0, ih1, ih2, ih3⟩ := fourinhandlaw22_LaneDrops.mono_l k
    refine ⟨?_, ?_, ?_, ?_⟩
    · intro y0 y1 y2 y3
      unfold fourinhandlaw22_LaneDrops.j0
      repeat' first
      | (with_reducible exact ih0 _ _ _ _)
      | (with_reducible exact ih1 _ _ _ _ _ _ _)
      | (with_reducible exact ih2 _ _ _ _)
      | (with_reducible exact ih3 _ _ _ _ _)
      | (with_reducible exact fourinhandlaw22_few.mono _ _)
      | (with_reducible exact fourinhandref22_Own.mono _ _)
      | (with_reducible exact fourinhandref22_Same.mono _ _ _)
      | (with_reducible exact LeO.refl _)
      | (with_reducible exact LeO.none _)
      | (with_reducible refine LeO.ite ?_ ?_)
      | (with_reducible refine LeO.bind ?_ (fun _ => ?_))
      | exact ih0 _ _ _ _
      | exact ih1 _ _ _ _ _ _ _
      | exact ih2 _ _ _ _
      | exact ih3 _ _ _ _ _
      | exact fourinhandlaw22_few.mono _ _
      | exact fourinhandref22_Own.mono _ _
      | exact fourinhandref22_Same.mono _ _ _
      | exact LeO.none _
      | refine LeO.ite ?_ ?_
      | refine LeO.bind ?_ (fun _ => ?_)
    · intro y0 y1 y2 y3 y4 y5 y6
      unfold fourinhandlaw22_LaneDrops.j1
      repeat' first
      | (with_reducible exact ih0 _ _ _ _)
      | (with_reducible exact ih1 _ _ _ _ _ _ _)
      | (with_reducible exact ih2 _ _ _ _)
      | (with_reducible exact ih3 _ _ _ _ _)
      | (with_reducible exact fourinhandlaw22_few.mono _ _)
      | (with_reducible exact fourinhandref22_Own.mono _ _)
      | (with_reducible exact fourinhandref22_Same.mono _ _ _)
      | (with_reducible exact LeO.refl _)
      | (with_reducible exact LeO.none _)
      | (with_reducible refine LeO.ite ?_ ?_)
      | (with_reducible refine LeO.bind ?_ (fun _ => ?_))
      | exact ih0 _ _ _ _
      | exact ih1 _ _ _ _ _ _ _
      | exact ih2 _ _ _ _
      | exact ih3 _ _ _ _ _
      | exact fourinhandlaw22_few.mono _ _
      | exact fourinhandref22_Own.mono _ _
      | exact fourinhandref22_Same.mono _ _ _
      | exact LeO.none _
      | refine LeO.ite ?_ ?_
      | refine LeO.bind ?_ (fun _ => ?_)
    · intro y0 y1 y2 y3
      unfold fourinhandlaw22_LaneDrops.l0
      repeat' first
      | (with_reducible exact ih0 _ _ _ _)
      | (with_reducible exact ih1 _ _ _ _ _ _ _)
      | (with_reducible exact ih2 _ _ _ _)
      | (with_reducible exact ih3 _ _ _ _ _)
      | (with_reducible exact fourinhandlaw22_few.mono _ _)
      | (with_reducible exact fourinhandref22_Own.mono _ _)
      | (with_reducible exact fourinhandref22_Same.mono _ _ _)
      | (with_reducible exact LeO.refl _)
      | (with_reducible exact LeO.none _)
      | (with_reducible refine LeO.ite ?_ ?_)
      | (with_reducible refine LeO.bind ?_ (fun _ => ?_))
      | exact ih0 _ _ _ _
      | exact ih1 _ _ _ _ _ _ _
      | exact ih2 _ _ _ _
      | exact ih3 _ _ _ _ _
      | exact fourinhandlaw22_few.mono _ _
      | exact fourinhandref22_Own.mono _ _
      | exact fourinhandref22_Same.mono _ _ _
      | exact LeO.none _
      | refine LeO.ite ?_ ?_
      | refine LeO.bind ?_ (fun _ => ?_)
    · intro y0 y1 y2 y3 y4
      unfold fourinhandlaw22_LaneDrops.l1
      repeat' first
      | (with_reducible exact ih0 _ _ _ _)
      | (with_reducible exact ih1 _ _ _ _ _ _ _)
      | (with_reducible exact ih2 _ _ _ _)
      | (with_reducible exact ih3 _ _ _ _ _)
      | (with_reducible exact fourinhandlaw22_few.mono _ _)
      | (with_reducible exact fourinhandref22_Own.mono _ _)
      | (with_reducible exact fourinhandref22_Same.mono _ _ _)
      | (with_reducible exact LeO.refl _)
      | (with_reducible exact LeO.none _)
      | (with_reducible refine LeO.ite ?_ ?_)
      | (with_reducible refine LeO.bind ?_ (fun _ => ?_))
      | exact ih0 _ _ _ _
      | exact ih1 _ _ _ _ _ _ _
      | exact ih2 _ _ _ _
      | exact ih3 _ _ _ _ _
      | exact fourinhandlaw22_few.mono _ _
      | exact fourinhandref22_Own.mono _ _
      | exact fourinhandref22_Same.mono _ _ _
      | exact LeO.none _
      | refine LeO.ite ?_ ?_
      | refine LeO.bind ?_ (fun _ => ?_)
theorem fourinhandlaw22_LaneDrops.mono : ∀ a0 a1 k, LeO (fourinhandlaw22_LaneDrops.f k a0 a1) (fourinhandlaw22_LaneDrops.f (k + 1) a0 a1) := by
  intro a0 a1 k
  obtain ⟨ih0, ih1, ih2, ih3⟩ := fourinhandlaw22_LaneDrops.mono_l k
  unfold fourinhandlaw22_LaneDrops.f
  repeat' first
      | (with_reducible exact ih0 _ _ _ _)
      | (with_reducible exact ih1 _ _ _ _ _ _ _)
      | (with_reducible exact ih2 _ _ _ _)
      | (with_reducible exact ih3 _ _ _ _ _)
      | (with_reducible exact fourinhandlaw22_few.mono _ _)
      | (with_reducible exact fourinhandref22_Own.mono _ _)
      | (with_reducible exact fourinhandref22_Same.mono _ _ _)
      | (with_reducible exact LeO.refl _)
      | (with_reducible exact LeO.none _)
      | (with_reducible refine LeO.ite ?_ ?_)
      | (with_reducible refine LeO.bind ?_ (fun _ => ?_))
      | exact ih0 _ _ _ _
      | exact ih1 _ _ _ _ _ _ _
      | exact ih2 _ _ _ _
      | exact ih3 _ _ _ _ _
      | exact fourinhandlaw22_few.mono _ _
      | exact fourinhandref22_Own.mono _ _
      | exact fourinhandref22_Same.mono _ _ _
      | exact LeO.none _
      | refine LeO.ite ?_ ?_
      | refine LeO.bind ?_ (fun _ => ?_)
def fourinhandlaw22_LaneDrops.T10 : Bool × List (List Nat × List Nat) := (true, [([], []), ([], []), ([0, 1], [0, 1]), ([2], [2]), ([], []), ([4], [4]), ([3, 5, 3], [3, 5]), ([6, 6, 0, 1, 2, 3, 4, 5, 6], [6])])
def fourinhandlaw22_LaneDrops.B10 : List Nat := [0, 0, 3, 7, 0, 16, 63, 127]
theorem fourinhandlaw22_LaneDrops.tab10 : rtab .any (opsOf Try.f4 10) = fourinhandlaw22_LaneDrops.T10 := by kernel_rfl
theorem fourinhandlaw22_LaneDrops.bits10 : waitsOk fourinhandlaw22_LaneDrops.T10.2 fourinhandlaw22_LaneDrops.B10 = true := by kernel_rfl
set_option maxHeartbeats 8000000 in
set_option maxRecDepth 100000 in
theorem fourinhandlaw22_LaneDrops.calls (k : Nat) (A0 : Option Addr) (c0 : Nat) (l0 : List (S29)) (a1 : Int) (r : Bool) (w : World) (hr0 : Kd.C k29 w A0 l0.length l0) (hc0 : l0.length ≤ c0) (h : fourinhandlaw22_LaneDrops.f k l0 a1 = some r) (htr1 : r = true) :
    Calls Try.prog 4 #[.slice A0 l0.length c0, .int .i64 a1] w fun e w' => e = .returned (.bool r) ∧ Below w.heap.size w w' := by
  have hu29 := Try.underlying29
  have HR0 := Aside0.mk hr0
  have HC0 := Aside0.mk hc0
  clear hr0 hc0
  have HB := Aside0.mk (Below.refl w.heap.size w)
  have H : ((fourinhandlaw22_awake.f).bind fun t165 => ((fourinhandlaw22_few.f k l0).bind fun t166 => (if t165 = true then (if t166 = true then ((lane_May.f l0).bind fun t167 => (fourinhandlaw22_LaneDrops.j0 k l0 a1 t165 (!t167))) else (fourinhandlaw22_LaneDrops.j0 k l0 a1 t165 true)) else (fourinhandlaw22_LaneDrops.j0 k l0 a1 t165 true)))) = some r := h
  clear h
  replace H := Option.bind_eq_some_iff.mp H
  obtain ⟨t165, A30, H⟩ := H
  replace H : ((fourinhandlaw22_few.f k l0).bind fun t166 => (if t165 = true then (if t166 = true then ((lane_May.f l0).bind fun t167 => (fourinhandlaw22_LaneDrops.j0 k l0 a1 t165 (!t167))) else (fourinhandlaw22_LaneDrops.j0 k l0 a1 t165 true)) else (fourinhandlaw22_LaneDrops.j0 k l0 a1 t165 true))) = some r := H
  have A3 := Aside0.mk A30
  clear A30
  replace H := Option.bind_eq_some_iff.mp H
  obtain ⟨t166, A40, H⟩ := H
  replace H : (if t165 = true then (if t166 = true then ((lane_May.f l0).bind fun t167 => (fourinhandlaw22_LaneDrops.j0 k l0 a1 t165 (!t167))) else (fourinhandlaw22_LaneDrops.j0 k l0 a1 t165 true)) else (fourinhandlaw22_LaneDrops.j0 k l0 a1 t165 true)) = some r := H
  have A4 := Aside0.mk A40
  clear A40
  have HC5 := Aside0.mk H
  clear H
  go_enter Try.func4, Try.ntmps4
  go_upto_region 3 with (first | ((with_reducible refine gate_callee (f := 9) rfl ?_); refine goesL_ (some 20) rfl rfl Try.func9 (by kernel_rfl) rfl #[] rfl (by (try simp only [List.map_toArray, List.map_cons, List.map_nil]); first | done | rfl | (simp only [List.length_drop, List.length_take]; rfl)) ?_; (with_reducible refine (fourinhandlaw22_awake.calls  t165 _ A3.out).mono ?_); rintro e w6 ⟨rfl, hb⟩; refine ⟨_, rfl, ?_⟩; have n0_ := Aside0.mk (below_step (by repeat (first | (with_reducible first | exact HB.out | apply below_alloc | apply pw_below_drewN | apply below_drew1) | exact HB.out)) hb); clear HB; have HB := n0_; clear n0_; (try clear hb); (try clear hb2); (try clear hk); (try clear hi)) | ((with_reducible refine gate_callee (f := 10) rfl ?_); refine goesL_ (some 22) rfl rfl Try.func10 (by kernel_rfl) rfl #[.slice A0 l0.length c0] rfl (by (try simp only [List.map_toArray, List.map_cons, List.map_nil]); first | done | rfl | (simp only [List.length_drop, List.length_take]; rfl)) ?_; (with_reducible refine (fourinhandlaw22_few.calls k _ _ l0 t166 _ ?side1 ?side2 A4.out).mono ?_); (case side1 => repeat (first | exact (Kd.C_below HR0.out HB.out) | (with_reducible refine Kd.C_alloc ?_ _) | (with_reducible refine Kd.C_drewN ?_ _) | (with_reducible refine Kd.C_drew ?_))); (case side2 => exact HC0.out); rintro e w' ⟨rfl, ⟨nd, rfl⟩⟩; refine ⟨_, rfl, ?_⟩))
  (try simp only [Act.put, List.setIfInBounds_toArray, List.set_cons_zero, List.set_cons_succ])
  go_cut [33] (fun v33 wc => ∃ (kq : Nat) (x33_4 : Bool), v33 = .bool x33_4 ∧ Aside0 (fourinhandlaw22_LaneDrops.j0 kq l0 a1 t165 x33_4 = some r) ∧ Aside0 (kq ≤ k) ∧ Aside0 (Below w.heap.size w wc))
  case first =>
    have H := HC5.out
    clear HC5
    by_cases c7 : t165 = true
    · subst c7
      have H1 : (if t166 = true then ((lane_May.f l0).bind fun t167 => (fourinhandlaw22_LaneDrops.j0 k l0 a1 true (!t167))) else (fourinhandlaw22_LaneDrops.j0 k l0 a1 true true)) = some r := by rw [if_pos rfl] at H; exact H
      clear H
      have H := H1
      clear H1
      by_cases c8 : t166 = true
      · subst c8
        have H1 : ((lane_May.f l0).bind fun t167 => (fourinhandlaw22_LaneDrops.j0 k l0 a1 true (!t167))) = some r := by rw [if_pos rfl] at H; exact H
        clear H
        have H := H1
        clear H1
        replace H := Option.bind_eq_some_iff.mp H
        obtain ⟨t167, A90, H⟩ := H
        replace H : (fourinhandlaw22_LaneDrops.j0 k l0 a1 true (!t167)) = some r := H
        have A9 := Aside0.mk A90
        clear A90
        have H' := Aside0.mk H
        clear H
        go_wp2_with (first | (go_at_call 11; (with_reducible refine (lane_May.calls _ _ l0 t167 _ ?side1 ?side2 A9.out).mono ?_); (case side1 => repeat (first | exact (Kd.C_below HR0.out HB.out) | (with_reducible refine Kd.C_alloc ?_ _) | (with_reducible refine Kd.C_drewN ?_ _) | (with_reducible refine Kd.C_drew ?_))); (case side2 => exact HC0.out); rintro e w10 ⟨rfl, hb⟩; have n0_ := Aside0.mk (below_step (by repeat (first | (with_reducible first | exact HB.out | apply below_alloc | apply pw_below_drewN | apply below_drew1) | exact HB.out)) hb); clear HB; have HB := n0_; clear n0_; (try clear hb); (try clear hb2); (try clear hk); (try clear hi)))
        go_meet
        case rel => exact ⟨_, (!t167), (by first | rfl | (simp; done) | (simp [*]; done)), H', ⟨by first | omega | exact Nat.le_refl _⟩, ⟨by repeat (first | (with_reducible first | exact HB.out | apply below_alloc | apply pw_below_drewN | apply below_drew1) | exact HB.out)⟩⟩
      · replace c8 := Bool.eq_false_iff.mpr c8
        subst c8
        have H1 : (fourinhandlaw22_LaneDrops.j0 k l0 a1 true true) = some r := by rw [if_neg (show ¬ (false = true) by decide)] at H; exact H
        clear H
        have H := H1
        clear H1
        have H' := Aside0.mk H
        clear H
        go_wp2
        go_meet
        case rel => exact ⟨_, (true), (by first | rfl | (simp; done) | (simp [*]; done)), H', ⟨by first | omega | exact Nat.le_refl _⟩, ⟨by repeat (first | (with_reducible first | exact HB.out | apply below_alloc | apply pw_below_drewN | apply below_drew1) | exact HB.out)⟩⟩
    · replace c7 := Bool.eq_false_iff.mpr c7
      subst c7
      have H1 : (fourinhandlaw22_LaneDrops.j0 k l0 a1 false true) = some r := by rw [if_neg (show ¬ (false = true) by decide)] at H; exact H
      clear H
      have H := H1
      clear H1
      have H' := Aside0.mk H
      clear H
      go_wp2
      go_meet
      case rel => exact ⟨_, (true), (by first | rfl | (simp; done) | (simp [*]; done)), H', ⟨by first | omega | exact Nat.le_refl _⟩, ⟨by repeat (first | (with_reducible first | exact HB.out | apply below_alloc | apply pw_below_drewN | apply below_drew1) | exact HB.out)⟩⟩
  case rest =>
    clear HC5
    try clear c1
    try clear p2
    try clear c4
    try clear c7
    try clear c8
    try clear c9
    try clear c10
    obtain ⟨kq, x33_4, rfl, HA, HJ4, HB⟩ := hcut
    cases kq with
    | zero => exact absurd HA.out (by simp [fourinhandlaw22_LaneDrops.j0])
    | succ kj4 =>
      have H := HA.out
      clear HA
      simp only [fourinhandlaw22_LaneDrops.j0] at H
      by_cases c11 : x33_4 = true
      · subst c11
        have H1 : (some t165) = some r := by rw [if_pos rfl] at H; exact H
        clear H
        have H := H1
        clear H1
        obtain rfl := Option.some.inj H
        go_wp2
        go_ret
        exact ⟨by first | rfl | (simp [errW_none, errW_some] <;> rfl) | (simp [*, errW_none, errW_some] <;> rfl), by repeat (first | (with_reducible first | exact HB.out | apply below_alloc | apply pw_below_drewN | apply below_drew1) | exact HB.out)⟩
      · replace c11 := Bool.eq_false_iff.mpr c11
        subst c11
        have H1 : ((lane_Take.f l0 a1).bind fun bt168 => (if a1 ≥ 0 then (fourinhandlaw22_LaneDrops.j1 kj4 l0 a1 bt168.1 bt168.2.2.2 (bt168.2.2.2 != (decide (a1 < (l0.length : Int)))) bt168.2.1 bt168.2.2.1) else (fourinhandlaw22_LaneDrops.j1 kj4 l0 a1 bt168.1 bt168.2.2.2 (bt168.2.2.2 != false) bt168.2.1 bt168.2.2.1))) = some r := by rw [if_neg (show ¬ (false = true) by decide)] at H; exact H
        clear H
        have H := H1
        clear H1
        replace H := Option.bind_eq_some_iff.mp H
        obtain ⟨⟨t168, t171, t174, t175⟩, A120, H⟩ := H
        replace H : (if a1 ≥ 0 then (fourinhandlaw22_LaneDrops.j1 kj4 l0 a1 t168 t175 (t175 != (decide (a1 < (l0.length : Int)))) t171 t174) else (fourinhandlaw22_LaneDrops.j1 kj4 l0 a1 t168 t175 (t175 != false) t171 t174)) = some r := H
        have A12 := Aside0.mk A120
        clear A120
        have HC13 := Aside0.mk H
        clear H
        go_upto_region 6 with (first | ((with_reducible refine gate_callee (f := 13) rfl ?_); refine goesL_ (some 38) rfl rfl Try.func13 (by kernel_rfl) rfl #[.slice A0 l0.length c0, .int .i64 a1] rfl (by (try simp only [List.map_toArray, List.map_cons, List.map_nil]); first | done | rfl | (simp only [List.length_drop, List.length_take]; rfl)) ?_; (with_reducible refine (lane_Take.calls _ _ l0 a1 t168 t171 t174 t175 _ ?side1 ?side2 A12.out).mono ?_); (case side1 => repeat (first | exact (Kd.C_below HR0.out HB.out) | (with_reducible refine Kd.C_alloc ?_ _) | (with_reducible refine Kd.C_drewN ?_ _) | (with_reducible refine Kd.C_drew ?_))); (case side2 => exact HC0.out); rintro e w14 ⟨v169, v172, rfl, ho0, ho1, hb⟩; refine ⟨_, rfl, ?_⟩; have n0_ := Aside0.mk (Kd.N_lower (Kd.N_mono (ok' := fun k_ => some k_ ≠ (v172 : Value).ownBlock) (Kd.S_N (Kd.S_bound ho0)) (fun k_ hk_ => hk_.1)) (below_size (by repeat (first | (with_reducible first | exact HB.out | apply below_alloc | apply pw_below_drewN | apply below_drew1) | exact HB.out)))); have n1_ := Aside0.mk (Kd.R_lower ho1 (below_size (by repeat (first | (with_reducible first | exact HB.out | apply below_alloc | apply pw_below_drewN | apply below_drew1) | exact HB.out)))); have n2_ := Aside0.mk (below_step (by repeat (first | (with_reducible first | exact HB.out | apply below_alloc | apply pw_below_drewN | apply below_drew1) | exact HB.out)) hb); clear HB; have HO170 := n0_; have HO173 := n1_; have HB := n2_; clear n0_ n1_ n2_; (try clear hb); (try clear hb2); (try clear hk); (try clear hi); (try clear ho0); (try clear ho1)) | ((with_reducible refine gate_dst (N := 8) rfl ?_); (try (refine gate_guard (by rfl) ?_; dsimp only)); refine box_event ?hg (N := 8) ?hd (cs := #[.slice none 0 0, .bool false]) (t := 29) ?hr ?_; (case hd => rfl); (case hg => rfl); (case hr => first | (go_simp; done) | (go_simp; rfl)); intro gb176 hg w15 hbox hb; have n0_ := Aside0.mk (Kd.N_below (Kd.N_elderB (by (with_reducible repeat (first | apply Kd.N_alloc | apply Kd.N_drewN | apply Kd.N_drew)); exact HO170.out) gb176 (Nat.le_of_eq hg.symm)) hb); have n1_ := Aside0.mk (Kd.R_below (by (with_reducible repeat (first | apply Kd.R_alloc | apply Kd.R_drewN | apply Kd.R_drew)); exact HO173.out) hb); have n2_ := Aside0.mk (below_step (by repeat (first | (with_reducible first | exact HB.out | apply below_alloc | apply pw_below_drewN | apply below_drew1) | exact HB.out)) hb); have n3_ := Aside0.mk (hbox); have n4_ := Aside0.mk ((by rw [hg]; exact (below_size (by repeat (first | (with_reducible first | exact HB.out | apply below_alloc | apply pw_below_drewN | apply below_drew1) | exact HB.out))) : w.heap.size ≤ gb176)); have n5_ := Aside0.mk ((by rw [hg]; exact (below_size (by repeat (first | (with_reducible first | exact HB.out | apply below_alloc | apply pw_below_drewN | apply below_drew1) | exact HB.out))) : w.heap.size ≤ gb176)); clear HO170; clear HO173; clear HB; have HO170 := n0_; have HO173 := n1_; have HB := n2_; have BK176 := n3_; have GW176 := n4_; have GE176 := n5_; clear n0_ n1_ n2_ n3_ n4_ n5_; clear hb hbox hg; obtain ⟨Ao16, co16, eo16⟩ := Kd.R_slice HO173.out; subst eo16; have hcz17_0 : w15.cell? ⟨gb176, 0, none⟩ = some (.slice none 0 0) := (blk_cell BK176.out 0).trans rfl; have hcz17_1 : w15.cell? ⟨gb176, 1, none⟩ = some (.bool false) := (blk_cell BK176.out 1).trans rfl; have hfz17_0 := blk_frozen BK176.out 0; have hfz17_1 := blk_frozen BK176.out 1))
        (try simp only [Act.put, List.setIfInBounds_toArray, List.set_cons_zero, List.set_cons_succ])
        go_cut [51] (fun v51 wc => ∃ (kq : Nat) (x51_12 : Bool), v51 = .bool x51_12 ∧ Aside0 (fourinhandlaw22_LaneDrops.j1 kq l0 a1 t168 t175 x51_12 t171 t174 = some r) ∧ Aside0 (kq ≤ kj4) ∧ Aside0 (Kd.N k29 29 wc w.heap.size (fun k_ => k_ ≠ gb176) v169 t168) ∧ Aside0 (Kd.R (Kd.int .u8) 5 wc w.heap.size (fun _ => True) (.slice Ao16 t171.length co16) t171) ∧ Aside0 (wc.heap[gb176]? = some (.cells #[(.slice Ao16 t171.length co16), .bool t174] 29 (0, 0))) ∧ Aside0 (Below w.heap.size w wc))
        case first =>
          have H := HC13.out
          clear HC13
          by_cases c18 : a1 ≥ 0
          · rw [if_pos c18] at H
            have c18b0 : decide (0 ≤ a1) = true := decide_eq_true c18
            clear c18
            (first | rw [c18b0] | (simp only [i64_w, i32_w]; rw [c18b0]) | skip)
            have H' := Aside0.mk H
            clear H
            go_wp2
            go_meet
            case rel => exact ⟨_, ((t175 != (decide (a1 < (l0.length : Int))))), (by first | rfl | (simp; done) | (simp [*]; done)), H', ⟨by have := HJ4.out; first | omega | exact Nat.le_refl _⟩, ⟨by (with_reducible repeat (first | apply Kd.N_alloc | apply Kd.N_drewN | apply Kd.N_drew)); exact Kd.N_mono (Kd.N_far (p := ⟨gb176, 1, none⟩) (Kd.N_far (p := ⟨gb176, 0, none⟩) (Kd.N_mono HO170.out (fun k_ hk => (⟨hk, hk.2⟩ : _ ∧ k_ ≠ gb176))) (fun _ hk => hk.2) (.slice Ao16 t171.length co16)) (fun _ hk => hk.2) (.bool t174)) (fun _ hk => hk.1.2)⟩, ⟨by (with_reducible repeat (first | apply Kd.R_alloc | apply Kd.R_drewN | apply Kd.R_drew)); exact Kd.R_mono (Kd.R_far (p := ⟨gb176, 1, none⟩) (Kd.R_far (p := ⟨gb176, 0, none⟩) (Kd.R_types HO173.out BK176.out (by decide)) (fun _ hk => hk.2) (.slice Ao16 t171.length co16)) (fun _ hk => hk.2) (.bool t174)) (fun _ hk => trivial)⟩, ⟨by (with_reducible repeat (first | refine blk_drewN ?_ _ | refine blk_drew ?_ | refine blk_alloc ?_ _)); refine blk_put (cs := #[.slice Ao16 t171.length co16, .bool false]) ?_ 1 _ rfl; (with_reducible repeat (first | refine blk_drewN ?_ _ | refine blk_drew ?_ | refine blk_alloc ?_ _)); refine blk_put (cs := #[.slice none 0 0, .bool false]) ?_ 0 _ rfl; (with_reducible repeat (first | refine blk_drewN ?_ _ | refine blk_drew ?_ | refine blk_alloc ?_ _)); exact BK176.out⟩, ⟨by repeat (first | (with_reducible first | exact HB.out | apply below_alloc | apply pw_below_drewN | apply below_drew1 | refine below_set ?_ GE176.out) | exact HB.out)⟩⟩
          · rw [if_neg c18] at H
            have c18b0 : decide (0 ≤ a1) = false := decide_eq_false c18
            clear c18
            (first | rw [c18b0] | (simp only [i64_w, i32_w]; rw [c18b0]) | skip)
            have H' := Aside0.mk H
            clear H
            go_wp2
            go_meet
            case rel => exact ⟨_, ((t175 != false)), (by first | rfl | (simp; done) | (simp [*]; done)), H', ⟨by have := HJ4.out; first | omega | exact Nat.le_refl _⟩, ⟨by (with_reducible repeat (first | apply Kd.N_alloc | apply Kd.N_drewN | apply Kd.N_drew)); exact Kd.N_mono (Kd.N_far (p := ⟨gb176, 1, none⟩) (Kd.N_far (p := ⟨gb176, 0, none⟩) (Kd.N_mono HO170.out (fun k_ hk => (⟨hk, hk.2⟩ : _ ∧ k_ ≠ gb176))) (fun _ hk => hk.2) (.slice Ao16 t171.length co16)) (fun _ hk => hk.2) (.bool t174)) (fun _ hk => hk.1.2)⟩, ⟨by (with_reducible repeat (first | apply Kd.R_alloc | apply Kd.R_drewN | apply Kd.R_drew)); exact Kd.R_mono (Kd.R_far (p := ⟨gb176, 1, none⟩) (Kd.R_far (p := ⟨gb176, 0, none⟩) (Kd.R_types HO173.out BK176.out (by decide)) (fun _ hk => hk.2) (.slice Ao16 t171.length co16)) (fun _ hk => hk.2) (.bool t174)) (fun _ hk => trivial)⟩, ⟨by (with_reducible repeat (first | refine blk_drewN ?_ _ | refine blk_drew ?_ | refine blk_alloc ?_ _)); refine blk_put (cs := #[.slice Ao16 t171.length co16, .bool false]) ?_ 1 _ rfl; (with_reducible repeat (first | refine blk_drewN ?_ _ | refine blk_drew ?_ | refine blk_alloc ?_ _)); refine blk_put (cs := #[.slice none 0 0, .bool false]) ?_ 0 _ rfl; (with_reducible repeat (first | refine blk_drewN ?_ _ | refine blk_drew ?_ | refine blk_alloc ?_ _)); exact BK176.out⟩, ⟨by repeat (first | (with_reducible first | exact HB.out | apply below_alloc | apply pw_below_drewN | apply below_drew1 | refine below_set ?_ GE176.out) | exact HB.out)⟩⟩
        case rest =>
          clear HC13
          try clear c1
          try clear p2
          try clear c4
          try clear c7
          try clear c8
          try clear c9
          try clear c10
          try clear c11
          try clear c13
          try clear c18
          try clear c18b0
          try clear hcz17_0
          try clear hcz17_1
          try clear hfz17_0
          try clear hfz17_1
          try clear p2
          obtain ⟨kq, x51_12, rfl, HA, HJ12, HO_7, HO_177000, BK176, HB⟩ := hcut
          cases kq with
          | zero => exact absurd HA.out (by simp [fourinhandlaw22_LaneDrops.j1])
          | succ kj12 =>
            have H := HA.out
            clear HA
            simp only [fourinhandlaw22_LaneDrops.j1] at H
            by_cases c19 : x51_12 = true
            · subst c19
              have H1 : (some false) = some r := by rw [if_pos rfl] at H; exact H
              clear H
              have H := H1
              clear H1
              rw [htr1] at H
              cases H
            · replace c19 := Bool.eq_false_iff.mpr c19
              subst c19
              have H1 : (if t175 = true then (if 0 ≤ a1 then (if a1 ≤ (l0.length : Int) then ((fourinhandref22_Own.f kj12 (l0.take (a1 : Int).toNat)).bind fun t182 => ((some (([(⟨t171, t174⟩ : S29)] : List (S29)) : List (S29))).bind fun y185 => (if t182.length + y185.length < 4398046511104 then ((some (t182 ++ y185 : List (S29))).bind fun y188 => (if 0 ≤ (wrap64 (a1 + 1)) then (if (wrap64 (a1 + 1)) ≤ (l0.length : Int) then ((fourinhandref22_Own.f kj12 (l0.drop ((wrap64 (a1 + 1)) : Int).toNat)).bind fun t195 => (if y188.length + t195.length < 4398046511104 then (fourinhandlaw22_LaneDrops.l0 kj12 l0 t168 (y188 ++ t195) 0) else (none))) else (none)) else (none))) else (none)))) else (none)) else (none)) else ((fourinhandref22_Same.f kj12 t168 l0).bind fun t177 => (if t177 = true then (some ((t171.length : Int) == 0)) else (some false)))) = some r := by rw [if_neg (show ¬ (false = true) by decide)] at H; exact H
              clear H
              have H := H1
              clear H1
              by_cases c20 : t175 = true
              · subst c20
                have H1 : (if 0 ≤ a1 then (if a1 ≤ (l0.length : Int) then ((fourinhandref22_Own.f kj12 (l0.take (a1 : Int).toNat)).bind fun t182 => ((some (([(⟨t171, t174⟩ : S29)] : List (S29)) : List (S29))).bind fun y185 => (if t182.length + y185.length < 4398046511104 then ((some (t182 ++ y185 : List (S29))).bind fun y188 => (if 0 ≤ (wrap64 (a1 + 1)) then (if (wrap64 (a1 + 1)) ≤ (l0.length : Int) then ((fourinhandref22_Own.f kj12 (l0.drop ((wrap64 (a1 + 1)) : Int).toNat)).bind fun t195 => (if y188.length + t195.length < 4398046511104 then (fourinhandlaw22_LaneDrops.l0 kj12 l0 t168 (y188 ++ t195) 0) else (none))) else (none)) else (none))) else (none)))) else (none)) else (none)) = some r := by rw [if_pos rfl] at H; exact H
                clear H
                have H := H1
                clear H1
                by_cases c21 : 0 ≤ a1
                · rw [if_pos c21] at H
                  have c21b0 := eq_true c21
                  have c21b1 : decide (0 ≤ a1) = true := decide_eq_true c21
                  clear c21
                  by_cases c22 : a1 ≤ (l0.length : Int)
                  · rw [if_pos c22] at H
                    have c22b0 := eq_true c22
                    have c22b1 : decide (a1 ≤ (l0.length : Int)) = true := decide_eq_true c22
                    clear c22
                    obtain ⟨y178, hy178⟩ : ∃ y_ : List (S29), y_ = (l0.take (a1 : Int).toNat) := ⟨_, rfl⟩
                    replace H : ((fourinhandref22_Own.f kj12 y178).bind fun t182 => ((some (([(⟨t171, t174⟩ : S29)] : List (S29)) : List (S29))).bind fun y185 => (if t182.length + y185.length < 4398046511104 then ((some (t182 ++ y185 : List (S29))).bind fun y188 => (if 0 ≤ (wrap64 (a1 + 1)) then (if (wrap64 (a1 + 1)) ≤ (l0.length : Int) then ((fourinhandref22_Own.f kj12 (l0.drop ((wrap64 (a1 + 1)) : Int).toNat)).bind fun t195 => (if y188.length + t195.length < 4398046511104 then (fourinhandlaw22_LaneDrops.l0 kj12 l0 t168 (y188 ++ t195) 0) else (none))) else (none)) else (none))) else (none)))) = some r := by first | (rw [hy178]; with_reducible exact H) | (have H2_ := (Option.bind_some _ _).symm.trans H; rw [hy178]; with_reducible exact H2_) | (have H2_ := (Option.bind_some _ _).symm.trans H; with_reducible exact H2_) | with_reducible exact H | (rw [hy178]; exact H) | exact H
                    have Ny178 := Aside0.mk hy178
                    clear hy178
                    replace H := Option.bind_eq_some_iff.mp H
                    obtain ⟨t182, A230, H⟩ := H
                    replace H : ((some (([(⟨t171, t174⟩ : S29)] : List (S29)) : List (S29))).bind fun y185 => (if t182.length + y185.length < 4398046511104 then ((some (t182 ++ y185 : List (S29))).bind fun y188 => (if 0 ≤ (wrap64 (a1 + 1)) then (if (wrap64 (a1 + 1)) ≤ (l0.length : Int) then ((fourinhandref22_Own.f kj12 (l0.drop ((wrap64 (a1 + 1)) : Int).toNat)).bind fun t195 => (if y188.length + t195.length < 4398046511104 then (fourinhandlaw22_LaneDrops.l0 kj12 l0 t168 (y188 ++ t195) 0) else (none))) else (none)) else (none))) else (none))) = some r := H
                    have A23 := Aside0.mk A230
                    clear A230
                    obtain ⟨y185, hy185⟩ : ∃ y_ : List (S29), y_ = (([(⟨t171, t174⟩ : S29)] : List (S29))) := ⟨_, rfl⟩
                    replace H : (if t182.length + y185.length < 4398046511104 then ((some (t182 ++ y185 : List (S29))).bind fun y188 => (if 0 ≤ (wrap64 (a1 + 1)) then (if (wrap64 (a1 + 1)) ≤ (l0.length : Int) then ((fourinhandref22_Own.f kj12 (l0.drop ((wrap64 (a1 + 1)) : Int).toNat)).bind fun t195 => (if y188.length + t195.length < 4398046511104 then (fourinhandlaw22_LaneDrops.l0 kj12 l0 t168 (y188 ++ t195) 0) else (none))) else (none)) else (none))) else (none)) = some r := by first | (rw [hy185]; with_reducible exact H) | (have H2_ := (Option.bind_some _ _).symm.trans H; rw [hy185]; with_reducible exact H2_) | (have H2_ := (Option.bind_some _ _).symm.trans H; with_reducible exact H2_) | with_reducible exact H | (rw [hy185]; exact H) | exact H
                    have Ny185 := Aside0.mk hy185
                    clear hy185
                    by_cases c24 : t182.length + y185.length < 4398046511104
                    · rw [if_pos c24] at H
                      have LMc24 := Aside0.mk c24
                      clear c24
                      obtain ⟨y188, hy188⟩ : ∃ y_ : List (S29), y_ = (t182 ++ y185) := ⟨_, rfl⟩
                      replace H : (if 0 ≤ (wrap64 (a1 + 1)) then (if (wrap64 (a1 + 1)) ≤ (l0.length : Int) then ((fourinhandref22_Own.f kj12 (l0.drop ((wrap64 (a1 + 1)) : Int).toNat)).bind fun t195 => (if y188.length + t195.length < 4398046511104 then (fourinhandlaw22_LaneDrops.l0 kj12 l0 t168 (y188 ++ t195) 0) else (none))) else (none)) else (none)) = some r := by first | (rw [hy188]; with_reducible exact H) | (have H2_ := (Option.bind_some _ _).symm.trans H; rw [hy188]; with_reducible exact H2_) | (have H2_ := (Option.bind_some _ _).symm.trans H; with_reducible exact H2_) | with_reducible exact H | (rw [hy188]; exact H) | exact H
                      have Ny188 := Aside0.mk hy188
                      clear hy188
                      obtain ⟨ji25, hji25⟩ : ∃ j_ : Int, (wrap64 (a1 + 1)) = j_ := ⟨_, rfl⟩
                      replace H : (if 0 ≤ (ji25) then (if (ji25) ≤ (l0.length : Int) then ((fourinhandref22_Own.f kj12 (l0.drop ((ji25) : Int).toNat)).bind fun t195 => (if y188.length + t195.length < 4398046511104 then (fourinhandlaw22_LaneDrops.l0 kj12 l0 t168 (y188 ++ t195) 0) else (none))) else (none)) else (none)) = some r := by first | (rw [hji25] at H; exact H) | (simp only [hji25] at H ⊢; exact H)
                      (try rw [hji25] at A23)
                      have hji25w : (IntKind.i64.wrap (a1 + 1)) = ji25 := (i64_w _).trans hji25
                      by_cases c26 : 0 ≤ (ji25)
                      · rw [if_pos c26] at H
                        have c26b0 := eq_true c26
                        have c26b1 : decide (0 ≤ (ji25)) = true := decide_eq_true c26
                        clear c26
                        by_cases c27 : (ji25) ≤ (l0.length : Int)
                        · rw [if_pos c27] at H
                          have c27b0 := eq_true c27
                          have c27b1 : decide ((ji25) ≤ (l0.length : Int)) = true := decide_eq_true c27
                          clear c27
                          obtain ⟨y191, hy191⟩ : ∃ y_ : List (S29), y_ = (l0.drop ((ji25) : Int).toNat) := ⟨_, rfl⟩
                          replace H : ((fourinhandref22_Own.f kj12 y191).bind fun t195 => (if y188.length + t195.length < 4398046511104 then (fourinhandlaw22_LaneDrops.l0 kj12 l0 t168 (y188 ++ t195) 0) else (none))) = some r := by first | (rw [hy191]; with_reducible exact H) | (have H2_ := (Option.bind_some _ _).symm.trans H; rw [hy191]; with_reducible exact H2_) | (have H2_ := (Option.bind_some _ _).symm.trans H; with_reducible exact H2_) | with_reducible exact H | (rw [hy191]; exact H) | exact H
                          have Ny191 := Aside0.mk hy191
                          clear hy191
                          replace H := Option.bind_eq_some_iff.mp H
                          obtain ⟨t195, A280, H⟩ := H
                          replace H : (if y188.length + t195.length < 4398046511104 then (fourinhandlaw22_LaneDrops.l0 kj12 l0 t168 (y188 ++ t195) 0) else (none)) = some r := H
                          have A28 := Aside0.mk A280
                          clear A280
                          by_cases c29 : y188.length + t195.length < 4398046511104
                          · rw [if_pos c29] at H
                            have LMc29 := Aside0.mk c29
                            clear c29
                            obtain ⟨y198, hy198⟩ : ∃ y_ : List (S29), y_ = (y188 ++ t195) := ⟨_, rfl⟩
                            replace H : (fourinhandlaw22_LaneDrops.l0 kj12 l0 t168 y198 0) = some r := by first | (rw [hy198]; with_reducible exact H) | (have H2_ := (Option.bind_some _ _).symm.trans H; rw [hy198]; with_reducible exact H2_) | (have H2_ := (Option.bind_some _ _).symm.trans H; with_reducible exact H2_) | with_reducible exact H | (rw [hy198]; exact H) | exact H
                            have Ny198 := Aside0.mk hy198
                            clear hy198
                            have H' := Aside0.mk H
                            clear H
                            try go_wp2
                            have n0_ := Aside0.mk (Kd.N_drew HO_7.out)
                            have n1_ := Aside0.mk (Kd.R_drew HO_177000.out)
                            have n2_ := Aside0.mk (blk_drew BK176.out)
                            have n3_ := Aside0.mk (below_drew1 HB.out)
                            clear HO_7
                            clear HO_177000
                            clear BK176
                            clear HB
                            have HO_7 := n0_
                            have HO_177000 := n1_
                            have BK176 := n2_
                            have HB := n3_
                            clear n0_ n1_ n2_ n3_
                            have q31 : (a1 : Int) ≤ ((l0.length : Int) : Int) := of_decide_eq_true (by first | (with_reducible assumption) | assumption)
                            obtain ⟨i031, hi031, _, hsz31, _⟩ := info_parts info29
                            have hroom31 : l0.length ≤ c0 := HC0.out
                            have hC31 : Kd.C k29 _ A0 l0.length l0 := HR0.out
                            have hcut31 := cut_to (P := Try.prog) 22 29 .i64 Try.underlying22 hi031 A0 l0.length c0 a1 (of_decide_eq_true (by first | (with_reducible assumption) | assumption)) q31 hroom31
                            have hr31 := Kd.C_take (m := (a1 : Int).toNat) hC31 (by omega)
                            have hy31 : y178.length = (a1 : Int).toNat := (by rw [Ny178.out, List.length_take]; omega)
                            rw [← Ny178.out] at hr31
                            rw [← hy31] at hcut31
                            have HR181 := Aside0.mk hr31
                            have HC181 := Aside0.mk (show y178.length ≤ c0 from by omega)
                            clear hr31 hC31 hroom31 hi031 hsz31
                            have KY31 := Aside0.mk hy31
                            clear hy31
                            replace q31 := eq_true q31
                            refine start_ (n := 8) (S := fun w' => w'.cell? ⟨gb176, 0, none⟩ = some (.slice Ao16 t171.length co16) ∧ w'.cell? ⟨gb176, 1, none⟩ = some (.bool t174)) (ds := []) #[false, false, false, false, false, false, false, false] (by kernel_rfl) rfl rfl ⟨(blk_cell BK176.out 0).trans rfl, (blk_cell BK176.out 1).trans rfl⟩ (fun hHeld => ?_); refine with_tabW fourinhandlaw22_LaneDrops.tab10 fourinhandlaw22_LaneDrops.bits10 (fun HT_ HW_ => ?_)
                            generalize wc.drew = w30 at HO_7 HO_177000 BK176 HB HR181 hHeld ⊢
                            refine pure_ (i := 0) (N := some 63) (v := ?_) (a' := ?_) #[true, false, false, false, false, false, false, false] rfl rfl (any_of HT_.out (by kernel_rfl)) (fun _ _ _ h => h) (Or.inl ⟨by rfl, ?_⟩) ?_ ?_
                            rotate_left
                            · intro w'
                              go_simp
                              with_reducible rfl
                            rotate_left
                            · simp only [Act.put, List.setIfInBounds_toArray, List.set_cons_zero, List.set_cons_succ, i64_w, i32_w]
                              rfl
                            refine pure_ (i := 1) (N := some 64) (v := ?_) (a' := ?_) #[true, true, false, false, false, false, false, false] rfl rfl (any_of HT_.out (by kernel_rfl)) (fun _ _ _ h => h) (Or.inl ⟨by rfl, ?_⟩) ?_ ?_
                            rotate_left
                            · intro w'
                              go_simp
                              with_reducible rfl
                            rotate_left
                            · simp only [Act.put, List.setIfInBounds_toArray, List.set_cons_zero, List.set_cons_succ, i64_w, i32_w]
                              rfl
                            refine pure_ (i := 2) (N := some 65) (v := ?_) (a' := ?_) #[true, true, true, false, false, false, false, false] rfl rfl (any_of HT_.out (by kernel_rfl)) (fun _ _ _ h => h) (Or.inl ⟨by rfl, ?_⟩) ?_ ?_
                            rotate_left
                            · intro w'
                              go_simp
                              with_reducible rfl
                            rotate_left
                            · simp only [Act.put, List.setIfInBounds_toArray, List.set_cons_zero, List.set_cons_succ, i64_w, i32_w]
                              rfl
                            refine take_ (i := 4) (N := some 67) (v := ?_) (a' := ?_) #[true, true, true, false, true, false, false, false] rfl rfl (take_ofW HT_.out HW_.out (by kernel_rfl)) (fun _ _ _ h => h) (Or.inl ⟨by rfl, ?_⟩) hHeld ?_ ?_
                            rotate_left
                            · rintro w' ⟨s0, s1⟩
                              go_simp
                              with_reducible rfl
                            rotate_left
                            · simp only [Act.put, List.setIfInBounds_toArray, List.set_cons_zero, List.set_cons_succ, i64_w, i32_w]
                              rfl
                            refine join_ (σ := Value × Value) 2 #[true, true, true, true, true, true, false, false] (fun s_ => [(66, s_.1), (68, s_.2)]) (fun s_ w' => (w'.cell? ⟨gb176, 0, none⟩ = some (.slice Ao16 t171.length co16) ∧ w'.cell? ⟨gb176, 1, none⟩ = some (.bool t174)) ∧ (Kd.N k29 29 w' w.heap.size (fun k_ => some k_ ≠ (s_.2 : Value).ownBlock ∧ some k_ ≠ (v169 : Value).ownBlock ∧ k_ ≠ gb176) s_.1 t182) ∧ (Kd.N k29 29 w' w.heap.size (fun k_ => some k_ ≠ (s_.1 : Value).ownBlock ∧ some k_ ≠ (v169 : Value).ownBlock ∧ k_ ≠ gb176) s_.2 y185) ∧ (Kd.N k29 29 w' w.heap.size (fun k_ => some k_ ≠ (s_.1 : Value).ownBlock ∧ some k_ ≠ (s_.2 : Value).ownBlock ∧ k_ ≠ gb176) v169 t168) ∧ (w'.heap[gb176]? = some (.cells #[.slice Ao16 t171.length co16, .bool t174] 29 (0, 0))) ∧ (Below w.heap.size w w')) ?_ ?_
                            rotate_left
                            · intro hCont
                              refine two_ (i := 3) (j := 5) (Ni := some 66) (Nj := some 68) #[true, true, true, true, true, false, false, false] #[true, true, true, false, true, true, false, false] rfl rfl rfl rfl (two_of HT_.out (by kernel_rfl)) (by decide) (by decide) (fun K hK => ?_) (fun K hK => ?_)
                              · skip
                                refine goes_ Try.func17 (by kernel_rfl) rfl #[.slice A0 y178.length c0] (by rfl) rfl rfl (by (try simp only [List.map_toArray, List.map_cons, List.map_nil]); first | done | rfl | (simp only [List.length_drop, List.length_take]; rfl)) ?_
                                with_reducible refine (fourinhandref22_Own.calls kj12 _ _ y178 t182 _ ?side1 ?side2 A23.out).mono ?_
                                (case side1 => repeat (first | exact (Kd.C_below HR181.out HB.out) | (with_reducible refine Kd.C_alloc ?_ _) | (with_reducible refine Kd.C_drewN ?_ _) | (with_reducible refine Kd.C_drew ?_)))
                                (case side2 => exact HC181.out)
                                rintro e w32 ⟨v183, rfl, ho0, hb⟩
                                refine ⟨_, rfl, ?_⟩
                                have n0_ := Aside0.mk (Kd.N_elder' (by (with_reducible repeat (first | apply Kd.N_alloc | apply Kd.N_drewN | apply Kd.N_drew)); exact HO_7.out) (Kd.S_base ho0) hb)
                                have n1_ := Aside0.mk (Kd.R_below (by (with_reducible repeat (first | apply Kd.R_alloc | apply Kd.R_drewN | apply Kd.R_drew)); exact HO_177000.out) hb)
                                have n2_ := Aside0.mk (Kd.N_lower (Kd.N_mono (ok' := fun k_ => some k_ ≠ (v169 : Value).ownBlock ∧ some k_ ≠ (.slice Ao16 t171.length co16 : Value).ownBlock ∧ k_ ≠ gb176) (Kd.S_N (Kd.S_bound ho0)) (fun k_ hk_ => ⟨(Kd.fresh' (Kd.N_lt (by (with_reducible repeat (first | apply Kd.N_alloc | apply Kd.N_drewN | apply Kd.N_drew)); exact HO_7.out)) k_ hk_.2.1), (Kd.fresh' (Kd.R_lt (by (with_reducible repeat (first | apply Kd.R_alloc | apply Kd.R_drewN | apply Kd.R_drew)); exact HO_177000.out)) k_ hk_.2.1), (Kd.freshB (g := gb176) (o := .cells #[.slice Ao16 t171.length co16, .bool t174] 29 (0, 0)) (by (with_reducible repeat (first | refine blk_drewN ?_ _ | refine blk_drew ?_ | refine blk_alloc ?_ _)); exact BK176.out) k_ hk_.2.1)⟩)) (below_size (by repeat (first | (with_reducible first | exact HB.out | apply below_alloc | apply pw_below_drewN | apply below_drew1 | refine below_set ?_ GE176.out) | exact HB.out))))
                                have n3_ := Aside0.mk (blk_below (g := gb176) (o := .cells #[.slice Ao16 t171.length co16, .bool t174] 29 (0, 0)) (by (with_reducible repeat (first | refine blk_drewN ?_ _ | refine blk_drew ?_ | refine blk_alloc ?_ _)); exact BK176.out) hb)
                                have n4_ := Aside0.mk (below_step (by repeat (first | (with_reducible first | exact HB.out | apply below_alloc | apply pw_below_drewN | apply below_drew1 | refine below_set ?_ GE176.out) | exact HB.out)) hb)
                                clear HO_7
                                clear HO_177000
                                clear BK176
                                clear HB
                                have HO_7 := n0_
                                have HO_177000 := n1_
                                have HO184 := n2_
                                have BK176 := n3_
                                have HB := n4_
                                clear n0_ n1_ n2_ n3_ n4_
                                (try clear hb)
                                (try clear hb2)
                                (try clear hk)
                                (try clear hi)
                                (try clear ho0)
                                refine hK.out _ _ ⟨(blk_cell BK176.out 0).trans rfl, (blk_cell BK176.out 1).trans rfl⟩ (fun hHeld => ?_)
                                clear hK K
                                refine norm_ (a' := ?_) ?_ ?_
                                rotate_left
                                · show Act.put _ (some 66) _ = _
                                  simp only [Act.put, List.setIfInBounds_toArray, List.set_cons_zero, List.set_cons_succ, i64_w, i32_w]
                                  rfl
                                refine one_ (i := 5) (N := some 68) #[true, true, true, true, true, true, false, false] rfl rfl (one_of HT_.out (by kernel_rfl)) (by decide) (fun K hK => ?_)
                                refine Kd.N_lit_step k29 _ 29 ?hg (N' := 68) ?hd (xs := ([(⟨t171, t174⟩ : S29)] : List (S29))) (inner := [.slice Ao16 t171.length co16, .bool t174]) (ok := (fun k_ => some k_ ≠ (v169 : Value).ownBlock ∧ some k_ ≠ (v183 : Value).ownBlock ∧ k_ ≠ gb176)) (okp := (fun k_ => some k_ ≠ (v169 : Value).ownBlock ∧ some k_ ≠ (v183 : Value).ownBlock ∧ k_ ≠ gb176)) ?hr ?hp (fun _ hk => hk) ((show ∀ k_, w32.heap.size ≤ k_ → (fun k_ => some k_ ≠ (v169 : Value).ownBlock ∧ some k_ ≠ (v183 : Value).ownBlock ∧ k_ ≠ gb176) k_ from fun k_ hk => ⟨Kd.fresh' (Kd.N_lt (by (with_reducible repeat (first | apply Kd.N_alloc | apply Kd.N_drewN | apply Kd.N_drew)); exact HO_7.out)) k_ hk, Kd.fresh' (Kd.N_lt (by (with_reducible repeat (first | apply Kd.N_alloc | apply Kd.N_drewN | apply Kd.N_drew)); exact HO184.out)) k_ hk, Kd.freshB (g := gb176) (o := .cells #[.slice Ao16 t171.length co16, .bool t174] 29 (0, 0)) (by (with_reducible repeat (first | refine blk_drewN ?_ _ | refine blk_drew ?_ | refine blk_alloc ?_ _)); exact BK176.out) k_ hk⟩) _ (Nat.le_refl _)) (Below.refl _ _) (Nat.le_refl _) (by simp) ?_; (case hd => rfl); (case hg => rfl); (case hr => first | (go_simp; done) | (go_simp; rfl)); (case hp => exact (Reps.c2 (show Kd.FK k29 _ _ (⟨t171, t174⟩ : S29) [.slice Ao16 t171.length co16, .bool t174] from (k29_mkF _ _ (⟨t171, t174⟩ : S29) (Kd.R_reads' (Kd.R_mono (ok' := (fun k_ => some k_ ≠ (v169 : Value).ownBlock ∧ some k_ ≠ (v183 : Value).ownBlock ∧ k_ ≠ gb176)) (Kd.R_types (Kd.R_apart' (Kd.R_apart' (HO_177000.out) (Kd.N_typed HO_7.out) (by decide)) (Kd.N_typed HO184.out) (by decide)) BK176.out (by decide)) (fun k_ hk => ⟨hk.1.1.2, ⟨hk.1.2, hk.2⟩⟩))).2.1 (Kd.R_F (Kd.R_mono (ok' := (fun k_ => some k_ ≠ (v169 : Value).ownBlock ∧ some k_ ≠ (v183 : Value).ownBlock ∧ k_ ≠ gb176)) (Kd.R_types (Kd.R_apart' (Kd.R_apart' (HO_177000.out) (Kd.N_typed HO_7.out) (by decide)) (Kd.N_typed HO184.out) (by decide)) BK176.out (by decide)) (fun k_ hk => ⟨hk.1.1.2, ⟨hk.1.2, hk.2⟩⟩))))) (Reps.none _ _)))
                                intro v186 w33 ho34 hb hg_ hnew_
                                clear hg_ hnew_
                                (first | rw [← Ny185.out] at ho34 | (simp only [Int.reduceToNat] at ho34; rw [← Ny185.out] at ho34))
                                have n0_ := Aside0.mk (Kd.N_elder' (by (with_reducible repeat (first | apply Kd.N_alloc | apply Kd.N_drewN | apply Kd.N_drew)); exact HO_7.out) (Kd.N_base ho34) hb)
                                have n1_ := Aside0.mk (Kd.N_elder' (by (with_reducible repeat (first | apply Kd.N_alloc | apply Kd.N_drewN | apply Kd.N_drew)); exact HO184.out) (Kd.N_base ho34) hb)
                                have n2_ := Aside0.mk (Kd.N_lower ho34 (below_size (by repeat (first | (with_reducible first | exact HB.out | apply below_alloc | apply pw_below_drewN | apply below_drew1 | refine below_set ?_ GE176.out) | exact HB.out))))
                                have n3_ := Aside0.mk (blk_below (g := gb176) (o := .cells #[.slice Ao16 t171.length co16, .bool t174] 29 (0, 0)) (by (with_reducible repeat (first | refine blk_drewN ?_ _ | refine blk_drew ?_ | refine blk_alloc ?_ _)); exact BK176.out) hb)
                                have n4_ := Aside0.mk (below_step (by repeat (first | (with_reducible first | exact HB.out | apply below_alloc | apply pw_below_drewN | apply below_drew1 | refine below_set ?_ GE176.out) | exact HB.out)) hb)
                                clear HO_7
                                clear HO184
                                clear BK176
                                clear HB
                                clear HO_177000
                                have HO_7 := n0_
                                have HO184 := n1_
                                have HO187 := n2_
                                have BK176 := n3_
                                have HB := n4_
                                clear n0_ n1_ n2_ n3_ n4_
                                clear hb ho34
                                refine hK.out _ _ ⟨(blk_cell BK176.out 0).trans rfl, (blk_cell BK176.out 1).trans rfl⟩ (fun hHeld => ?_)
                                clear hK K
                                refine norm_ (a' := ?_) ?_ ?_
                                rotate_left
                                · show Act.put _ (some 68) _ = _
                                  simp only [Act.put, List.setIfInBounds_toArray, List.set_cons_zero, List.set_cons_succ, i64_w, i32_w]
                                  rfl
                                exact norm_ (by simp only [putAll, Act.put, List.setIfInBounds_toArray, List.set_cons_zero, List.set_cons_succ]) (hCont (v183, v186) _ ⟨hHeld, (by (with_reducible repeat (first | apply Kd.N_alloc | apply Kd.N_drewN | apply Kd.N_drew)); exact Kd.N_mono HO184.out (fun _ hk => ⟨hk.2, ⟨hk.1.1, hk.1.2.2⟩⟩)), (by (with_reducible repeat (first | apply Kd.N_alloc | apply Kd.N_drewN | apply Kd.N_drew)); exact Kd.N_mono HO187.out (fun _ hk => ⟨hk.2.1, ⟨hk.1, hk.2.2⟩⟩)), (by (with_reducible repeat (first | apply Kd.N_alloc | apply Kd.N_drewN | apply Kd.N_drew)); exact Kd.N_mono HO_7.out (fun _ hk => ⟨hk.1.2, ⟨hk.2, hk.1.1⟩⟩)), (by (with_reducible repeat (first | refine blk_drewN ?_ _ | refine blk_drew ?_ | refine blk_alloc ?_ _)); exact BK176.out), (by repeat (first | (with_reducible first | exact HB.out | apply below_alloc | apply pw_below_drewN | apply below_drew1 | refine below_set ?_ GE176.out) | exact HB.out))⟩)
                              · skip
                                refine Kd.N_lit_step k29 _ 29 ?hg (N' := 68) ?hd (xs := ([(⟨t171, t174⟩ : S29)] : List (S29))) (inner := [.slice Ao16 t171.length co16, .bool t174]) (ok := (fun k_ => some k_ ≠ (v169 : Value).ownBlock ∧ k_ ≠ gb176)) (okp := (fun k_ => some k_ ≠ (v169 : Value).ownBlock ∧ k_ ≠ gb176)) ?hr ?hp (fun _ hk => hk) ((show ∀ k_, w30.heap.size ≤ k_ → (fun k_ => some k_ ≠ (v169 : Value).ownBlock ∧ k_ ≠ gb176) k_ from fun k_ hk => ⟨Kd.fresh' (Kd.N_lt (by (with_reducible repeat (first | apply Kd.N_alloc | apply Kd.N_drewN | apply Kd.N_drew)); exact HO_7.out)) k_ hk, Kd.freshB (g := gb176) (o := .cells #[.slice Ao16 t171.length co16, .bool t174] 29 (0, 0)) (by (with_reducible repeat (first | refine blk_drewN ?_ _ | refine blk_drew ?_ | refine blk_alloc ?_ _)); exact BK176.out) k_ hk⟩) _ (Nat.le_refl _)) (Below.refl _ _) (Nat.le_refl _) (by simp) ?_; (case hd => rfl); (case hg => rfl); (case hr => first | (go_simp; done) | (go_simp; rfl)); (case hp => exact (Reps.c2 (show Kd.FK k29 _ _ (⟨t171, t174⟩ : S29) [.slice Ao16 t171.length co16, .bool t174] from (k29_mkF _ _ (⟨t171, t174⟩ : S29) (Kd.R_reads' (Kd.R_mono (ok' := (fun k_ => some k_ ≠ (v169 : Value).ownBlock ∧ k_ ≠ gb176)) (Kd.R_types (Kd.R_apart' (HO_177000.out) (Kd.N_typed HO_7.out) (by decide)) BK176.out (by decide)) (fun k_ hk => ⟨hk.1.2, hk.2⟩))).2.1 (Kd.R_F (Kd.R_mono (ok' := (fun k_ => some k_ ≠ (v169 : Value).ownBlock ∧ k_ ≠ gb176)) (Kd.R_types (Kd.R_apart' (HO_177000.out) (Kd.N_typed HO_7.out) (by decide)) BK176.out (by decide)) (fun k_ hk => ⟨hk.1.2, hk.2⟩))))) (Reps.none _ _)))
                                intro v186 w32 ho33 hb hg_ hnew_
                                clear hg_ hnew_
                                (first | rw [← Ny185.out] at ho33 | (simp only [Int.reduceToNat] at ho33; rw [← Ny185.out] at ho33))
                                have n0_ := Aside0.mk (Kd.N_elder' (by (with_reducible repeat (first | apply Kd.N_alloc | apply Kd.N_drewN | apply Kd.N_drew)); exact HO_7.out) (Kd.N_base ho33) hb)
                                have n1_ := Aside0.mk (Kd.N_lower ho33 (below_size (by repeat (first | (with_reducible first | exact HB.out | apply below_alloc | apply pw_below_drewN | apply below_drew1 | refine below_set ?_ GE176.out) | exact HB.out))))
                                have n2_ := Aside0.mk (blk_below (g := gb176) (o := .cells #[.slice Ao16 t171.length co16, .bool t174] 29 (0, 0)) (by (with_reducible repeat (first | refine blk_drewN ?_ _ | refine blk_drew ?_ | refine blk_alloc ?_ _)); exact BK176.out) hb)
                                have n3_ := Aside0.mk (below_step (by repeat (first | (with_reducible first | exact HB.out | apply below_alloc | apply pw_below_drewN | apply below_drew1 | refine below_set ?_ GE176.out) | exact HB.out)) hb)
                                clear HO_7
                                clear BK176
                                clear HB
                                clear HO_177000
                                have HO_7 := n0_
                                have HO187 := n1_
                                have BK176 := n2_
                                have HB := n3_
                                clear n0_ n1_ n2_ n3_
                                clear hb ho33
                                refine hK.out _ _ ⟨(blk_cell BK176.out 0).trans rfl, (blk_cell BK176.out 1).trans rfl⟩ (fun hHeld => ?_)
                                clear hK K
                                refine norm_ (a' := ?_) ?_ ?_
                                rotate_left
                                · show Act.put _ (some 68) _ = _
                                  simp only [Act.put, List.setIfInBounds_toArray, List.set_cons_zero, List.set_cons_succ, i64_w, i32_w]
                                  rfl
                                refine one_ (i := 3) (N := some 66) #[true, true, true, true, true, true, false, false] rfl rfl (one_of HT_.out (by kernel_rfl)) (by decide) (fun K hK => ?_)
                                refine goes_ Try.func17 (by kernel_rfl) rfl #[.slice A0 y178.length c0] (by rfl) rfl rfl (by (try simp only [List.map_toArray, List.map_cons, List.map_nil]); first | done | rfl | (simp only [List.length_drop, List.length_take]; rfl)) ?_
                                with_reducible refine (fourinhandref22_Own.calls kj12 _ _ y178 t182 _ ?side1 ?side2 A23.out).mono ?_
                                (case side1 => repeat (first | exact (Kd.C_below HR181.out HB.out) | (with_reducible refine Kd.C_alloc ?_ _) | (with_reducible refine Kd.C_drewN ?_ _) | (with_reducible refine Kd.C_drew ?_)))
                                (case side2 => exact HC181.out)
                                rintro e w34 ⟨v183, rfl, ho0, hb⟩
                                refine ⟨_, rfl, ?_⟩
                                have n0_ := Aside0.mk (Kd.N_elder' (by (with_reducible repeat (first | apply Kd.N_alloc | apply Kd.N_drewN | apply Kd.N_drew)); exact HO_7.out) (Kd.S_base ho0) hb)
                                have n1_ := Aside0.mk (Kd.N_elder' (by (with_reducible repeat (first | apply Kd.N_alloc | apply Kd.N_drewN | apply Kd.N_drew)); exact HO187.out) (Kd.S_base ho0) hb)
                                have n2_ := Aside0.mk (Kd.N_lower (Kd.N_mono (ok' := fun k_ => some k_ ≠ (v169 : Value).ownBlock ∧ some k_ ≠ (v186 : Value).ownBlock ∧ k_ ≠ gb176) (Kd.S_N (Kd.S_bound ho0)) (fun k_ hk_ => ⟨(Kd.fresh' (Kd.N_lt (by (with_reducible repeat (first | apply Kd.N_alloc | apply Kd.N_drewN | apply Kd.N_drew)); exact HO_7.out)) k_ hk_.2.1), (Kd.fresh' (Kd.N_lt (by (with_reducible repeat (first | apply Kd.N_alloc | apply Kd.N_drewN | apply Kd.N_drew)); exact HO187.out)) k_ hk_.2.1), (Kd.freshB (g := gb176) (o := .cells #[.slice Ao16 t171.length co16, .bool t174] 29 (0, 0)) (by (with_reducible repeat (first | refine blk_drewN ?_ _ | refine blk_drew ?_ | refine blk_alloc ?_ _)); exact BK176.out) k_ hk_.2.1)⟩)) (below_size (by repeat (first | (with_reducible first | exact HB.out | apply below_alloc | apply pw_below_drewN | apply below_drew1 | refine below_set ?_ GE176.out) | exact HB.out))))
                                have n3_ := Aside0.mk (blk_below (g := gb176) (o := .cells #[.slice Ao16 t171.length co16, .bool t174] 29 (0, 0)) (by (with_reducible repeat (first | refine blk_drewN ?_ _ | refine blk_drew ?_ | refine blk_alloc ?_ _)); exact BK176.out) hb)
                                have n4_ := Aside0.mk (below_step (by repeat (first | (with_reducible first | exact HB.out | apply below_alloc | apply pw_below_drewN | apply below_drew1 | refine below_set ?_ GE176.out) | exact HB.out)) hb)
                                clear HO_7
                                clear HO187
                                clear BK176
                                clear HB
                                have HO_7 := n0_
                                have HO187 := n1_
                                have HO184 := n2_
                                have BK176 := n3_
                                have HB := n4_
                                clear n0_ n1_ n2_ n3_ n4_
                                (try clear hb)
                                (try clear hb2)
                                (try clear hk)
                                (try clear hi)
                                (try clear ho0)
                                refine hK.out _ _ ⟨(blk_cell BK176.out 0).trans rfl, (blk_cell BK176.out 1).trans rfl⟩ (fun hHeld => ?_)
                                clear hK K
                                refine norm_ (a' := ?_) ?_ ?_
                                rotate_left
                                · show Act.put _ (some 66) _ = _
                                  simp only [Act.put, List.setIfInBounds_toArray, List.set_cons_zero, List.set_cons_succ, i64_w, i32_w]
                                  rfl
                                exact norm_ (by simp only [putAll, Act.put, List.setIfInBounds_toArray, List.set_cons_zero, List.set_cons_succ]) (hCont (v183, v186) _ ⟨hHeld, (by (with_reducible repeat (first | apply Kd.N_alloc | apply Kd.N_drewN | apply Kd.N_drew)); exact Kd.N_mono HO184.out (fun _ hk => ⟨hk.2.1, ⟨hk.1, hk.2.2⟩⟩)), (by (with_reducible repeat (first | apply Kd.N_alloc | apply Kd.N_drewN | apply Kd.N_drew)); exact Kd.N_mono HO187.out (fun _ hk => ⟨hk.2, ⟨hk.1.1, hk.1.2⟩⟩)), (by (with_reducible repeat (first | apply Kd.N_alloc | apply Kd.N_drewN | apply Kd.N_drew)); exact Kd.N_mono HO_7.out (fun _ hk => ⟨hk.2, ⟨hk.1.2, hk.1.1⟩⟩)), (by (with_reducible repeat (first | refine blk_drewN ?_ _ | refine blk_drew ?_ | refine blk_alloc ?_ _)); exact BK176.out), (by repeat (first | (with_reducible first | exact HB.out | apply below_alloc | apply pw_below_drewN | apply below_drew1 | refine below_set ?_ GE176.out) | exact HB.out))⟩)
                            rintro ⟨v183, v186⟩ w35 ⟨hS_, h0_, h1_, h2_, h3_, h4_⟩
                            have n0_ : Aside0 (Kd.N k29 29 w35 w.heap.size (fun k_ => some k_ ≠ (v186 : Value).ownBlock ∧ some k_ ≠ (v169 : Value).ownBlock ∧ k_ ≠ gb176) v183 t182) := ⟨h0_⟩
                            have n1_ : Aside0 (Kd.N k29 29 w35 w.heap.size (fun k_ => some k_ ≠ (v183 : Value).ownBlock ∧ some k_ ≠ (v169 : Value).ownBlock ∧ k_ ≠ gb176) v186 y185) := ⟨h1_⟩
                            have n2_ : Aside0 (Kd.N k29 29 w35 w.heap.size (fun k_ => some k_ ≠ (v183 : Value).ownBlock ∧ some k_ ≠ (v186 : Value).ownBlock ∧ k_ ≠ gb176) v169 t168) := ⟨h2_⟩
                            have n3_ : Aside0 (w35.heap[gb176]? = some (.cells #[.slice Ao16 t171.length co16, .bool t174] 29 (0, 0))) := ⟨h3_⟩
                            have n4_ : Aside0 (Below w.heap.size w w35) := ⟨h4_⟩
                            clear HO_7
                            clear HO_177000
                            clear BK176
                            clear HB
                            clear h0_ h1_ h2_ h3_ h4_
                            have HO184 := n0_
                            have HO187 := n1_
                            have HO_7 := n2_
                            have BK176 := n3_
                            have HB := n4_
                            clear n0_ n1_ n2_ n3_ n4_
                            have hHeld : w35.cell? ⟨gb176, 0, none⟩ = some (.slice Ao16 t171.length co16) ∧ w35.cell? ⟨gb176, 1, none⟩ = some (.bool t174) := hS_
                            obtain ⟨Ao37, co37, eo37⟩ := Kd.N_slice HO187.out
                            (first | subst eo37 | (injection eo37 with f1_ f2_ f3_; have f4_ := f1_.symm; have f5_ := f3_.symm; clear f1_ f2_ f3_; subst f4_; subst f5_))
                            refine norm_ (a' := ?_) ?_ ?_
                            rotate_left
                            · simp only [putAll, Act.put, List.setIfInBounds_toArray, List.set_cons_zero, List.set_cons_succ]
                              rfl
                            refine one_ (i := 6) (N := some 69) #[true, true, true, true, true, true, true, false] rfl rfl (one_of HT_.out (by kernel_rfl)) (by decide) (fun K hK => ?_)
                            refine Kd.N_append_rows_step k29 (w0 := w) w.heap.size (by rfl) (.tmp 66) (.tmp 68) 22 29 (.agg #[(.slice none 0 0), (.bool false)]) 32 rfl Try.underlying22 info29 rfl (by decide) (by omega) v183 t182 y185 _ _ _ (fun k_ => some k_ ≠ (v169 : Value).ownBlock ∧ k_ ≠ gb176) (fun k_ => ((fun k_ => some k_ ≠ (v169 : Value).ownBlock ∧ k_ ≠ gb176)) k_ ∧ some k_ ≠ (v183 : Value).ownBlock) rfl rfl ?aO ?aR (fun _ hk => hk) ?aF ?aB ?aS ?aL ?_
                            (case aR => exact (by skip; exact Kd.N_F (Kd.N_mono (ok' := (fun k_ => ((fun k_ => some k_ ≠ (v169 : Value).ownBlock ∧ k_ ≠ gb176)) k_ ∧ some k_ ≠ (v183 : Value).ownBlock)) (HO187.out) (fun k_ hk => ⟨⟨hk.2.1, hk.2.2⟩, hk.1⟩))))
                            (case aB => exact (by repeat (first | (with_reducible first | exact HB.out | apply below_alloc | apply pw_below_drewN | apply below_drew1 | refine below_set ?_ GE176.out) | exact HB.out)))
                            (case aF => exact (fun k_ hk => ⟨Kd.fresh' (Kd.N_lt (by (with_reducible repeat (first | apply Kd.N_alloc | apply Kd.N_drewN | apply Kd.N_drew)); exact HO_7.out)) k_ hk, Kd.freshB (g := gb176) (o := .cells #[.slice Ao16 t171.length co16, .bool t174] 29 (0, 0)) (by (with_reducible repeat (first | refine blk_drewN ?_ _ | refine blk_drew ?_ | refine blk_alloc ?_ _)); exact BK176.out) k_ hk⟩))
                            (case aO => exact (by (with_reducible repeat (first | apply Kd.N_alloc | apply Kd.N_drewN | apply Kd.N_drew)); exact Kd.N_mono HO184.out (fun _ hk => ⟨hk.2.1, hk.2.2⟩)))
                            (case aS => exact (below_size (by repeat (first | (with_reducible first | exact HB.out | apply below_alloc | apply pw_below_drewN | apply below_drew1 | refine below_set ?_ GE176.out) | exact HB.out))))
                            (case aL => have := LMc24.out; omega)
                            intro v189 w36 ho hb hg hat
                            rw [← Ny188.out] at ho
                            have n0_ := Aside0.mk (Kd.N_afterv (ok := (fun k_ => some k_ ≠ (.slice Ao37 y185.length co37 : Value).ownBlock ∧ k_ ≠ gb176)) (by (with_reducible repeat (first | apply Kd.N_alloc | apply Kd.N_drewN | apply Kd.N_drew)); exact Kd.N_mono HO_7.out (fun _ hk => ⟨⟨hk.2.1, hk.2.2⟩, hk.1⟩)) hg hat)
                            have n1_ := Aside0.mk (blk_grown (g := gb176) (o := .cells #[.slice Ao16 t171.length co16, .bool t174] 29 (0, 0)) (by (with_reducible repeat (first | refine blk_drewN ?_ _ | refine blk_drew ?_ | refine blk_alloc ?_ _)); exact BK176.out) hg (Kd.N_away HO184.out (fun _ hk => hk.2.2)))
                            have n2_ := Aside0.mk (Kd.N_afterv (ok := (fun k_ => some k_ ≠ (v169 : Value).ownBlock ∧ k_ ≠ gb176)) (by (with_reducible repeat (first | apply Kd.N_alloc | apply Kd.N_drewN | apply Kd.N_drew)); exact Kd.N_mono HO187.out (fun _ hk => ⟨⟨hk.2.1, hk.2.2⟩, hk.1⟩)) hg hat)
                            have n3_ := Aside0.mk (hb)
                            have n4_ := Aside0.mk (ho)
                            clear HO_7
                            clear BK176
                            clear HO187
                            clear HB
                            clear HO184
                            have HO_7 := n0_
                            have BK176 := n1_
                            have HO187 := n2_
                            have HB := n3_
                            have HO190 := n4_
                            clear n0_ n1_ n2_ n3_ n4_
                            clear ho hb hg hat
                            refine hK.out _ _ ⟨(blk_cell BK176.out 0).trans rfl, (blk_cell BK176.out 1).trans rfl⟩ (fun hHeld => ?_)
                            clear hK K
                            refine norm_ (a' := ?_) ?_ ?_
                            rotate_left
                            · show Act.put _ (some 69) _ = _
                              simp only [Act.put, List.setIfInBounds_toArray, List.set_cons_zero, List.set_cons_succ, i64_w, i32_w]
                              rfl
                            refine pure_ (i := 7) (N := some 10) (v := ?_) (a' := ?_) #[true, true, true, true, true, true, true, true] rfl rfl (any_of HT_.out (by kernel_rfl)) (fun _ _ _ h => h) (Or.inl ⟨by rfl, ?_⟩) ?_ ?_
                            rotate_left
                            · intro w'
                              go_simp
                              with_reducible rfl
                            rotate_left
                            · simp only [Act.put, List.setIfInBounds_toArray, List.set_cons_zero, List.set_cons_succ, i64_w, i32_w]
                              rfl
                            refine done_ (done_of HT_.out (by kernel_rfl)) ?_
                            have q38 : ((ji25) : Int) ≤ ((l0.length : Int) : Int) := of_decide_eq_true (by first | (with_reducible assumption) | assumption)
                            obtain ⟨i038, hi038, _, hsz38, _⟩ := info_parts info29
                            have hroom38 : l0.length ≤ c0 := HC0.out
                            have hC38 : Kd.C k29 _ A0 l0.length l0 := HR0.out
                            have q038 : (0 : Int) ≤ ((ji25) : Int) := of_decide_eq_true (by first | (with_reducible assumption) | assumption)
                            have hcut38 := cut_from (P := Try.prog) 22 29 .i64 Try.underlying22 hi038 2 hsz38 A0 l0.length c0 (ji25) q038 q38
                            have hr38 := Kd.C_drop (m := ((ji25) : Int).toNat) (c := c0) hC38 (by omega) hroom38
                            obtain ⟨A38, hA38⟩ : ∃ A1, A1 = (if c0 = ((ji25) : Int).toNat then A0 else (A0 : Option Addr).map (·.add (((ji25) : Int).toNat * 2))) := ⟨_, rfl⟩
                            obtain ⟨c38, hc38⟩ : ∃ c1, c1 = c0 - ((ji25) : Int).toNat := ⟨_, rfl⟩
                            have hy38 : y191.length = l0.length - ((ji25) : Int).toNat := (by rw [Ny191.out, List.length_drop] <;> omega)
                            rw [show (l0).drop ((ji25) : Int).toNat = y191 from Ny191.out.symm] at hr38
                            replace hr38 : Kd.C k29 _ A38 y191.length y191 := (by rw [hA38]; exact hr38)
                            rw [← hy38, ← hA38, ← hc38] at hcut38
                            have HR194 := Aside0.mk hr38
                            have HC194 := Aside0.mk (show y191.length ≤ c38 from by rw [hy38, hc38]; exact Nat.sub_le_sub_right hroom38 _)
                            clear hr38 hC38 hroom38 hi038 hsz38 hc38
                            have KY38 := Aside0.mk hy38
                            have KA38 := Aside0.mk hA38
                            clear hy38 hA38
                            replace q38 := eq_true q38
                            try go_wp2_with (first | ((with_reducible refine gate_callee (f := 17) rfl ?_); refine goesL_ (some 75) rfl rfl Try.func17 (by kernel_rfl) rfl #[.slice A38 y191.length c38] rfl (by (try simp only [List.map_toArray, List.map_cons, List.map_nil]); first | done | rfl | (simp only [List.length_drop, List.length_take]; rfl)) ?_; (with_reducible refine (fourinhandref22_Own.calls kj12 _ _ y191 t195 _ ?side1 ?side2 A28.out).mono ?_); (case side1 => repeat (first | exact (Kd.C_below HR194.out HB.out) | (with_reducible refine Kd.C_alloc ?_ _) | (with_reducible refine Kd.C_drewN ?_ _) | (with_reducible refine Kd.C_drew ?_))); (case side2 => exact HC194.out); rintro e w39 ⟨v196, rfl, ho0, hb⟩; refine ⟨_, rfl, ?_⟩; have n0_ := Aside0.mk (Kd.N_elder' (by (with_reducible repeat (first | apply Kd.N_alloc | apply Kd.N_drewN | apply Kd.N_drew)); exact HO_7.out) (Kd.S_base ho0) hb); have n1_ := Aside0.mk (Kd.N_elder' (by (with_reducible repeat (first | apply Kd.N_alloc | apply Kd.N_drewN | apply Kd.N_drew)); exact HO187.out) (Kd.S_base ho0) hb); have n2_ := Aside0.mk (Kd.N_elder' (by (with_reducible repeat (first | apply Kd.N_alloc | apply Kd.N_drewN | apply Kd.N_drew)); exact HO190.out) (Kd.S_base ho0) hb); have n3_ := Aside0.mk (Kd.N_lower (Kd.N_mono (ok' := fun k_ => some k_ ≠ (v169 : Value).ownBlock ∧ some k_ ≠ (.slice Ao37 y185.length co37 : Value).ownBlock ∧ some k_ ≠ (v189 : Value).ownBlock ∧ k_ ≠ gb176) (Kd.S_N (Kd.S_bound ho0)) (fun k_ hk_ => ⟨(Kd.fresh' (Kd.N_lt (by (with_reducible repeat (first | apply Kd.N_alloc | apply Kd.N_drewN | apply Kd.N_drew)); exact HO_7.out)) k_ hk_.2.1), (Kd.fresh' (Kd.N_lt (by (with_reducible repeat (first | apply Kd.N_alloc | apply Kd.N_drewN | apply Kd.N_drew)); exact HO187.out)) k_ hk_.2.1), (Kd.fresh' (Kd.N_lt (by (with_reducible repeat (first | apply Kd.N_alloc | apply Kd.N_drewN | apply Kd.N_drew)); exact HO190.out)) k_ hk_.2.1), (Kd.freshB (g := gb176) (o := .cells #[.slice Ao16 t171.length co16, .bool t174] 29 (0, 0)) (by (with_reducible repeat (first | refine blk_drewN ?_ _ | refine blk_drew ?_ | refine blk_alloc ?_ _)); exact BK176.out) k_ hk_.2.1)⟩)) (below_size (by repeat (first | (with_reducible first | exact HB.out | apply below_alloc | apply pw_below_drewN | apply below_drew1 | refine below_set ?_ GE176.out) | exact HB.out)))); have n4_ := Aside0.mk (blk_below (g := gb176) (o := .cells #[.slice Ao16 t171.length co16, .bool t174] 29 (0, 0)) (by (with_reducible repeat (first | refine blk_drewN ?_ _ | refine blk_drew ?_ | refine blk_alloc ?_ _)); exact BK176.out) hb); have n5_ := Aside0.mk (below_step (by repeat (first | (with_reducible first | exact HB.out | apply below_alloc | apply pw_below_drewN | apply below_drew1 | refine below_set ?_ GE176.out) | exact HB.out)) hb); clear HO_7; clear HO187; clear HO190; clear BK176; clear HB; have HO_7 := n0_; have HO187 := n1_; have HO190 := n2_; have HO197 := n3_; have BK176 := n4_; have HB := n5_; clear n0_ n1_ n2_ n3_ n4_ n5_; (try clear hb); (try clear hb2); (try clear hk); (try clear hi); (try clear ho0); obtain ⟨Ao41, co41, eo41⟩ := Kd.N_slice HO197.out; subst eo41) | ((with_reducible refine gate_builtin (b := .append) (xs := #[.tmp 70, .tmp 75]) rfl ?_); (try (refine gate_guard (by rfl) ?_; dsimp only)); at_builtin; refine Kd.N_append_rows k29 (w0 := w) w.heap.size rfl (.tmp 70) (.tmp 75) 22 29 (.agg #[(.slice none 0 0), (.bool false)]) 32 rfl Try.underlying22 info29 rfl (by decide) (by omega) v189 y188 t195 _ _ _ (fun k_ => some k_ ≠ (v169 : Value).ownBlock ∧ k_ ≠ gb176) (fun k_ => ((fun k_ => some k_ ≠ (v169 : Value).ownBlock ∧ k_ ≠ gb176)) k_ ∧ some k_ ≠ (v189 : Value).ownBlock) rfl rfl ?aO ?aR (fun _ hk => hk) ?aF ?aB ?aS ?aL ?_; (case aR => exact (by skip; exact Kd.N_F (Kd.N_mono (ok' := (fun k_ => ((fun k_ => some k_ ≠ (v169 : Value).ownBlock ∧ k_ ≠ gb176)) k_ ∧ some k_ ≠ (v189 : Value).ownBlock)) (HO197.out) (fun k_ hk => ⟨⟨hk.1, hk.2.2.2⟩, hk.2.2.1⟩)))); (case aB => exact (by repeat (first | (with_reducible first | exact HB.out | apply below_alloc | apply pw_below_drewN | apply below_drew1 | refine below_set ?_ GE176.out) | exact HB.out))); (case aF => exact (fun k_ hk => ⟨Kd.fresh' (Kd.N_lt (by (with_reducible repeat (first | apply Kd.N_alloc | apply Kd.N_drewN | apply Kd.N_drew)); exact HO_7.out)) k_ hk, Kd.freshB (g := gb176) (o := .cells #[.slice Ao16 t171.length co16, .bool t174] 29 (0, 0)) (by (with_reducible repeat (first | refine blk_drewN ?_ _ | refine blk_drew ?_ | refine blk_alloc ?_ _)); exact BK176.out) k_ hk⟩)); (case aO => exact (by (with_reducible repeat (first | apply Kd.N_alloc | apply Kd.N_drewN | apply Kd.N_drew)); exact Kd.N_mono HO190.out (fun _ hk => ⟨hk.1.1, hk.1.2⟩))); (case aS => exact (below_size (by repeat (first | (with_reducible first | exact HB.out | apply below_alloc | apply pw_below_drewN | apply below_drew1 | refine below_set ?_ GE176.out) | exact HB.out)))); (case aL => have := LMc29.out; omega); intro v199 w40 ho hb hg hat; rw [← Ny198.out] at ho; have n0_ := Aside0.mk (Kd.N_afterv (ok := (fun k_ => some k_ ≠ (.slice Ao37 y185.length co37 : Value).ownBlock ∧ some k_ ≠ (.slice Ao41 t195.length co41 : Value).ownBlock ∧ k_ ≠ gb176)) (by (with_reducible repeat (first | apply Kd.N_alloc | apply Kd.N_drewN | apply Kd.N_drew)); exact Kd.N_mono HO_7.out (fun _ hk => ⟨⟨hk.1.1.1, ⟨hk.2, hk.1.1.2⟩⟩, hk.1.2⟩)) hg hat); have n1_ := Aside0.mk (blk_grown (g := gb176) (o := .cells #[.slice Ao16 t171.length co16, .bool t174] 29 (0, 0)) (by (with_reducible repeat (first | refine blk_drewN ?_ _ | refine blk_drew ?_ | refine blk_alloc ?_ _)); exact BK176.out) hg (Kd.N_away HO190.out (fun _ hk => hk.1.2))); have n2_ := Aside0.mk (Kd.N_afterv (ok := (fun k_ => some k_ ≠ (v169 : Value).ownBlock ∧ some k_ ≠ (.slice Ao41 t195.length co41 : Value).ownBlock ∧ k_ ≠ gb176)) (by (with_reducible repeat (first | apply Kd.N_alloc | apply Kd.N_drewN | apply Kd.N_drew)); exact Kd.N_mono HO187.out (fun _ hk => ⟨⟨hk.1.1.1, ⟨hk.2, hk.1.1.2⟩⟩, hk.1.2⟩)) hg hat); have n3_ := Aside0.mk (Kd.N_afterv (ok := (fun k_ => some k_ ≠ (v169 : Value).ownBlock ∧ some k_ ≠ (.slice Ao37 y185.length co37 : Value).ownBlock ∧ k_ ≠ gb176)) (by (with_reducible repeat (first | apply Kd.N_alloc | apply Kd.N_drewN | apply Kd.N_drew)); exact Kd.N_mono HO197.out (fun _ hk => ⟨⟨hk.1, ⟨hk.2.1, hk.2.2.2⟩⟩, hk.2.2.1⟩)) hg hat); have n4_ := Aside0.mk (hb); have n5_ := Aside0.mk (ho); clear HO_7; clear BK176; clear HO187; clear HO197; clear HB; clear HO190; have HO_7 := n0_; have BK176 := n1_; have HO187 := n2_; have HO197 := n3_; have HB := n4_; have HO200 := n5_; clear n0_ n1_ n2_ n3_ n4_ n5_; clear ho hb hg hat))
                            go_loopg [11] kj12 (fun kq v11 w' => ∃ (x11_3 : Int), v11 = .int .i64 x11_3 ∧ Aside0 (fourinhandlaw22_LaneDrops.l0 kq l0 t168 y198 x11_3 = some r) ∧ Aside0 (kq ≤ kj12) ∧ Aside0 (Kd.N k29 29 w' w.heap.size (fun k_ => some k_ ≠ (v199 : Value).ownBlock ∧ k_ ≠ gb176) v169 t168) ∧ Aside0 (Kd.N k29 29 w' w.heap.size (fun k_ => some k_ ≠ (v169 : Value).ownBlock ∧ k_ ≠ gb176) v199 y198) ∧ Aside0 (Kd.R (Kd.int .u8) 5 w' w.heap.size (fun _ => True) (.slice none 0 0) ([] : List Int)) ∧ Aside0 (w'.heap[gb176]? = some (.cells #[(.slice Ao16 t171.length co16), .bool t174] 29 (0, 0))) ∧ Aside0 (Below w.heap.size w w'))
                            case atStart => exact ⟨(0), (by first | rfl | (simp; done) | (simp [*]; done)), H', ⟨Nat.le_refl _⟩, ⟨by (with_reducible repeat (first | apply Kd.N_alloc | apply Kd.N_drewN | apply Kd.N_drew)); exact Kd.N_mono HO_7.out (fun _ hk => ⟨hk.2, hk.1.2.2⟩)⟩, ⟨by (with_reducible repeat (first | apply Kd.N_alloc | apply Kd.N_drewN | apply Kd.N_drew)); exact HO200.out⟩, ⟨Kd.S_R (Kd.S_nil _ _ _ _ _)⟩, ⟨by (with_reducible repeat (first | refine blk_drewN ?_ _ | refine blk_drew ?_ | refine blk_alloc ?_ _)); exact BK176.out⟩, ⟨by repeat (first | (with_reducible first | exact HB.out | apply below_alloc | apply pw_below_drewN | apply below_drew1 | refine below_set ?_ GE176.out) | exact HB.out)⟩⟩
                            case round =>
                              clear H'
                              try clear c1
                              try clear c2
                              try clear p2
                              try clear c3
                              try clear q3
                              try clear c4
                              try clear p6
                              try clear c7
                              try clear c8
                              try clear c9
                              try clear c10
                              try clear c11
                              try clear c13
                              try clear c17
                              try clear c18
                              try clear c18b0
                              try clear c19
                              try clear c20
                              try clear c21
                              try clear c21b0
                              try clear c21b1
                              try clear c22
                              try clear c22b0
                              try clear c22b1
                              try clear c24
                              try clear c26
                              try clear c26b0
                              try clear c26b1
                              try clear c27
                              try clear c27b0
                              try clear c27b1
                              try clear c29
                              try clear q31
                              try clear c38
                              try clear q38
                              try clear hcz17_0
                              try clear hcz17_1
                              try clear hfz17_0
                              try clear hfz17_1
                              try clear p2
                              try clear q038
                              try clear q31
                              try clear q38
                              obtain ⟨x11_3, rfl, HA, HK3, HO_7, HO_10, HO_177000, BK176, HB⟩ := hrel
                              cases gk with
                              | zero => exact absurd HA.out (by simp [fourinhandlaw22_LaneDrops.l0])
                              | succ k3 =>
                                have H := HA.out
                                clear HA
                                simp only [fourinhandlaw22_LaneDrops.l0] at H
                                by_cases c42 : x11_3 < (l0.length : Int)
                                · rw [if_pos c42] at H
                                  have c42b0 : decide (x11_3 < (l0.length : Int)) = true := decide_eq_true c42
                                  clear c42
                                  replace H := Option.bind_eq_some_iff.mp H
                                  obtain ⟨⟨t201, t204, t207, t208⟩, A430, H⟩ := H
                                  replace H : (if t208 = true then (if (t201.length : Int) = (wrap64 ((l0.length : Int) - 1)) then (fourinhandlaw22_LaneDrops.l0 k3 l0 t168 y198 (wrap64 (x11_3 + 1))) else (some false)) else (some false)) = some r := H
                                  have A43 := Aside0.mk A430
                                  clear A430
                                  by_cases c44 : t208 = true
                                  · subst c44
                                    have H1 : (if (t201.length : Int) = (wrap64 ((l0.length : Int) - 1)) then (fourinhandlaw22_LaneDrops.l0 k3 l0 t168 y198 (wrap64 (x11_3 + 1))) else (some false)) = some r := by rw [if_pos rfl] at H; exact H
                                    clear H
                                    have H := H1
                                    clear H1
                                    by_cases c45 : (t201.length : Int) = (wrap64 ((l0.length : Int) - 1))
                                    · rw [if_pos c45] at H
                                      have c45b0 : ((t201.length : Int) == (wrap64 ((l0.length : Int) - 1))) = true := beq_iff_eq.mpr c45
                                      have c45b1 : ((t201.length : Int) != (wrap64 ((l0.length : Int) - 1))) = false := bne_eq_false_iff_eq.mpr c45
                                      clear c45
                                      have H' := Aside0.mk H
                                      clear H
                                      go_wp2_with (first | ((with_reducible refine gate_callee (f := 13) rfl ?_); refine goesL_ (some 90) rfl rfl Try.func13 (by kernel_rfl) rfl #[.slice A0 l0.length c0, .int .i64 (wrap64 ((wrap64 ((l0.length : Int) - 1)) - x11_3))] rfl (by (try simp only [List.map_toArray, List.map_cons, List.map_nil]); first | done | rfl | (simp only [List.length_drop, List.length_take]; rfl)) ?_; (with_reducible refine (lane_Take.calls _ _ l0 (wrap64 ((wrap64 ((l0.length : Int) - 1)) - x11_3)) t201 t204 t207 true _ ?side1 ?side2 A43.out).mono ?_); (case side1 => repeat (first | exact (Kd.C_below HR0.out HB.out) | (with_reducible refine Kd.C_alloc ?_ _) | (with_reducible refine Kd.C_drewN ?_ _) | (with_reducible refine Kd.C_drew ?_))); (case side2 => exact HC0.out); rintro e w46 ⟨v202, v205, rfl, ho0, ho1, hb⟩; refine ⟨_, rfl, ?_⟩; have n0_ := Aside0.mk (Kd.N_mono (Kd.N_told (Kd.N_told (Kd.N_old (by (with_reducible repeat (first | apply Kd.N_alloc | apply Kd.N_drewN | apply Kd.N_drew)); exact HO_7.out) hb) (Kd.S_base ho0)) (Kd.R_base ho1)) (fun _ h_ => h_.1)); have n1_ := Aside0.mk (Kd.N_mono (Kd.N_told (Kd.N_told (Kd.N_old (by (with_reducible repeat (first | apply Kd.N_alloc | apply Kd.N_drewN | apply Kd.N_drew)); exact HO_10.out) hb) (Kd.S_base ho0)) (Kd.R_base ho1)) (fun _ h_ => h_.1)); have n2_ := Aside0.mk (Kd.R_elder' (by (with_reducible repeat (first | apply Kd.R_alloc | apply Kd.R_drewN | apply Kd.R_drew)); exact HO_177000.out) (Kd.R_base ho1) hb); have n3_ := Aside0.mk (Kd.N_lower (Kd.N_mono (ok' := fun k_ => some k_ ≠ (v205 : Value).ownBlock ∧ some k_ ≠ (v169 : Value).ownBlock ∧ some k_ ≠ (v199 : Value).ownBlock ∧ some k_ ≠ (.slice none 0 0 : Value).ownBlock ∧ k_ ≠ gb176) (Kd.S_N (Kd.S_bound ho0)) (fun k_ hk_ => ⟨hk_.1, (Kd.fresh' (Kd.N_lt (by (with_reducible repeat (first | apply Kd.N_alloc | apply Kd.N_drewN | apply Kd.N_drew)); exact HO_7.out)) k_ hk_.2.1), (Kd.fresh' (Kd.N_lt (by (with_reducible repeat (first | apply Kd.N_alloc | apply Kd.N_drewN | apply Kd.N_drew)); exact HO_10.out)) k_ hk_.2.1), (Kd.fresh' (Kd.R_lt (by (with_reducible repeat (first | apply Kd.R_alloc | apply Kd.R_drewN | apply Kd.R_drew)); exact HO_177000.out)) k_ hk_.2.1), (Kd.freshB (g := gb176) (o := .cells #[.slice Ao16 t171.length co16, .bool t174] 29 (0, 0)) (by (with_reducible repeat (first | refine blk_drewN ?_ _ | refine blk_drew ?_ | refine blk_alloc ?_ _)); exact BK176.out) k_ hk_.2.1)⟩)) (below_size (by repeat (first | (with_reducible first | exact HB.out | apply below_alloc | apply pw_below_drewN | apply below_drew1 | refine below_set ?_ GE176.out) | exact HB.out)))); have n4_ := Aside0.mk (Kd.R_lower (Kd.R_new' ho1 (Kd.R_lt (by (with_reducible repeat (first | apply Kd.R_alloc | apply Kd.R_drewN | apply Kd.R_drew)); exact HO_177000.out))) (below_size (by repeat (first | (with_reducible first | exact HB.out | apply below_alloc | apply pw_below_drewN | apply below_drew1 | refine below_set ?_ GE176.out) | exact HB.out)))); have n5_ := Aside0.mk (blk_below (g := gb176) (o := .cells #[.slice Ao16 t171.length co16, .bool t174] 29 (0, 0)) (by (with_reducible repeat (first | refine blk_drewN ?_ _ | refine blk_drew ?_ | refine blk_alloc ?_ _)); exact BK176.out) hb); have n6_ := Aside0.mk (below_step (by repeat (first | (with_reducible first | exact HB.out | apply below_alloc | apply pw_below_drewN | apply below_drew1 | refine below_set ?_ GE176.out) | exact HB.out)) hb); clear HO_7; clear HO_10; clear HO_177000; clear BK176; clear HB; have HO_7 := n0_; have HO_10 := n1_; have HO_177000 := n2_; have HO203 := n3_; have HO206 := n4_; have BK176 := n5_; have HB := n6_; clear n0_ n1_ n2_ n3_ n4_ n5_ n6_; (try clear hb); (try clear hb2); (try clear hk); (try clear hi); (try clear ho0); (try clear ho1)) | ((with_reducible refine gate_dst (N := 13) rfl ?_); (try (refine gate_guard (by rfl) ?_; dsimp only)); refine box_event ?hg (N := 13) ?hd (cs := #[.slice none 0 0, .bool false]) (t := 29) ?hr ?_; (case hd => rfl); (case hg => rfl); (case hr => first | (go_simp; done) | (go_simp; rfl)); intro gb209 hg w47 hbox hb; have n0_ := Aside0.mk (Kd.N_below (Kd.N_elderB (by (with_reducible repeat (first | apply Kd.N_alloc | apply Kd.N_drewN | apply Kd.N_drew)); exact HO_7.out) gb209 (Nat.le_of_eq hg.symm)) hb); have n1_ := Aside0.mk (Kd.N_below (Kd.N_elderB (by (with_reducible repeat (first | apply Kd.N_alloc | apply Kd.N_drewN | apply Kd.N_drew)); exact HO_10.out) gb209 (Nat.le_of_eq hg.symm)) hb); have n2_ := Aside0.mk (Kd.R_below (by (with_reducible repeat (first | apply Kd.R_alloc | apply Kd.R_drewN | apply Kd.R_drew)); exact HO_177000.out) hb); have n3_ := Aside0.mk (Kd.N_below (Kd.N_elderB (by (with_reducible repeat (first | apply Kd.N_alloc | apply Kd.N_drewN | apply Kd.N_drew)); exact HO203.out) gb209 (Nat.le_of_eq hg.symm)) hb); have n4_ := Aside0.mk (Kd.R_below (by (with_reducible repeat (first | apply Kd.R_alloc | apply Kd.R_drewN | apply Kd.R_drew)); exact HO206.out) hb); have n5_ := Aside0.mk (blk_below (g := gb176) (o := .cells #[.slice Ao16 t171.length co16, .bool t174] 29 (0, 0)) (by (with_reducible repeat (first | refine blk_drewN ?_ _ | refine blk_drew ?_ | refine blk_alloc ?_ _)); exact BK176.out) hb); have n6_ := Aside0.mk (below_step (by repeat (first | (with_reducible first | exact HB.out | apply below_alloc | apply pw_below_drewN | apply below_drew1 | refine below_set ?_ GE176.out) | exact HB.out)) hb); have n7_ := Aside0.mk (hbox); have n8_ := Aside0.mk ((by rw [hg]; exact (below_size (by repeat (first | (with_reducible first | exact HB.out | apply below_alloc | apply pw_below_drewN | apply below_drew1 | refine below_set ?_ GE176.out) | exact HB.out))) : w.heap.size ≤ gb209)); have n9_ := Aside0.mk ((by rw [hg]; exact (below_size (by repeat (first | (with_reducible first | exact HB.out | apply below_alloc | apply pw_below_drewN | apply below_drew1 | refine below_set ?_ GE176.out) | exact HB.out))) : w.heap.size ≤ gb209)); have n10_ := Aside0.mk ((by rw [hg]; exact Nat.ne_of_lt (blk_lt (g := gb176) (o := .cells #[.slice Ao16 t171.length co16, .bool t174] 29 (0, 0)) (by (with_reducible repeat (first | refine blk_drewN ?_ _ | refine blk_drew ?_ | refine blk_alloc ?_ _)); exact BK176.out)) : gb176 ≠ gb209)); have n11_ := Aside0.mk ((by rw [hg]; exact Nat.ne_of_gt (blk_lt (g := gb176) (o := .cells #[.slice Ao16 t171.length co16, .bool t174] 29 (0, 0)) (by (with_reducible repeat (first | refine blk_drewN ?_ _ | refine blk_drew ?_ | refine blk_alloc ?_ _)); exact BK176.out)) : gb209 ≠ gb176)); clear HO_7; clear HO_10; clear HO_177000; clear HO203; clear HO206; clear BK176; clear HB; have HO_7 := n0_; have HO_10 := n1_; have HO_177000 := n2_; have HO203 := n3_; have HO206 := n4_; have BK176 := n5_; have HB := n6_; have BK209 := n7_; have GW209 := n8_; have GE209 := n9_; have NB176_209 := n10_; have NB209_176 := n11_; clear n0_ n1_ n2_ n3_ n4_ n5_ n6_ n7_ n8_ n9_ n10_ n11_; clear hb hbox hg; obtain ⟨Ao48, co48, eo48⟩ := Kd.R_slice HO206.out; subst eo48; have hnb49 := NB209_176.out; have hnc49 := NB176_209.out; have hcz50_0 : w47.cell? ⟨gb209, 0, none⟩ = some (.slice none 0 0) := (blk_cell BK209.out 0).trans rfl; have hcz50_1 : w47.cell? ⟨gb209, 1, none⟩ = some (.bool false) := (blk_cell BK209.out 1).trans rfl; have hfz50_0 := blk_frozen BK209.out 0; have hfz50_1 := blk_frozen BK209.out 1; obtain ⟨Ao51, co51, eo51⟩ := Kd.N_slice HO203.out; subst eo51))
                                      go_roundg k3
                                      case measure => have := HJ4.out; have := HJ12.out; have := HK3.out; omega
                                      case rel => exact ⟨(wrap64 (x11_3 + 1)), (by first | rfl | (simp; done) | (simp [*]; done)), H', ⟨by have := HJ4.out; have := HJ12.out; have := HK3.out; omega⟩, ⟨by (with_reducible repeat (first | apply Kd.N_alloc | apply Kd.N_drewN | apply Kd.N_drew)); exact Kd.N_mono (Kd.N_far (p := ⟨gb209, 1, none⟩) (Kd.N_far (p := ⟨gb209, 0, none⟩) (Kd.N_mono HO_7.out (fun k_ hk => (⟨hk, hk.2⟩ : _ ∧ k_ ≠ gb209))) (fun _ hk => hk.2) (.slice Ao48 t204.length co48)) (fun _ hk => hk.2) (.bool t207)) (fun _ hk => ⟨hk.1.1.1.1.1, hk.1.1.1.1.2⟩)⟩, ⟨by (with_reducible repeat (first | apply Kd.N_alloc | apply Kd.N_drewN | apply Kd.N_drew)); exact Kd.N_mono (Kd.N_far (p := ⟨gb209, 1, none⟩) (Kd.N_far (p := ⟨gb209, 0, none⟩) (Kd.N_mono HO_10.out (fun k_ hk => (⟨hk, hk.2⟩ : _ ∧ k_ ≠ gb209))) (fun _ hk => hk.2) (.slice Ao48 t204.length co48)) (fun _ hk => hk.2) (.bool t207)) (fun _ hk => ⟨hk.1.1.1.1.1, hk.1.1.1.1.2⟩)⟩, ⟨by (with_reducible repeat (first | apply Kd.R_alloc | apply Kd.R_drewN | apply Kd.R_drew)); exact Kd.R_mono (Kd.R_far (p := ⟨gb209, 1, none⟩) (Kd.R_far (p := ⟨gb209, 0, none⟩) (Kd.R_types HO_177000.out BK209.out (by decide)) (fun _ hk => hk.2) (.slice Ao48 t204.length co48)) (fun _ hk => hk.2) (.bool t207)) (fun _ hk => trivial)⟩, ⟨by (with_reducible repeat (first | refine blk_drewN ?_ _ | refine blk_drew ?_ | refine blk_alloc ?_ _)); refine blk_far ?_ NB176_209.out _; (with_reducible repeat (first | refine blk_drewN ?_ _ | refine blk_drew ?_ | refine blk_alloc ?_ _)); refine blk_far ?_ NB176_209.out _; (with_reducible repeat (first | refine blk_drewN ?_ _ | refine blk_drew ?_ | refine blk_alloc ?_ _)); exact BK176.out⟩, ⟨by repeat (first | (with_reducible first | exact HB.out | apply below_alloc | apply pw_below_drewN | apply below_drew1 | refine below_set ?_ GE176.out | refine below_set ?_ GE209.out) | exact HB.out)⟩⟩
                                    · rw [if_neg c45] at H
                                      have c45b0 : ((t201.length : Int) == (wrap64 ((l0.length : Int) - 1))) = false := beq_eq_false_iff_ne.mpr c45
                                      have c45b1 : ((t201.length : Int) != (wrap64 ((l0.length : Int) - 1))) = true := bne_iff_ne.mpr c45
                                      rw [htr1] at H
                                      cases H
                                  · replace c44 := Bool.eq_false_iff.mpr c44
                                    subst c44
                                    have H1 : (some false) = some r := by rw [if_neg (show ¬ (false = true) by decide)] at H; exact H
                                    clear H
                                    have H := H1
                                    clear H1
                                    rw [htr1] at H
                                    cases H
                                · rw [if_neg c42] at H
                                  have c42b0 : decide (x11_3 < (l0.length : Int)) = false := decide_eq_false c42
                                  clear c42
                                  have H' := Aside0.mk H
                                  clear H
                                  go_wp2
                                  go_loopg [15, 16] k3 (fun kq v15 v16 w' => ∃ (x15_4 : List (S29)) (x16_4 : Int), v16 = .int .i64 x16_4 ∧ Aside0 (fourinhandlaw22_LaneDrops.l1 kq l0 t168 y198 x15_4 x16_4 = some r) ∧ Aside0 (kq ≤ k3) ∧ Aside0 (Kd.N k29 29 w' w.heap.size (fun k_ => some k_ ≠ (v199 : Value).ownBlock ∧ k_ ≠ gb176) v169 t168) ∧ Aside0 (Kd.N k29 29 w' w.heap.size (fun k_ => some k_ ≠ (v169 : Value).ownBlock ∧ some k_ ≠ (v15 : Value).ownBlock ∧ k_ ≠ gb176) v199 y198) ∧ Aside0 (Kd.N k29 29 w' w.heap.size (fun k_ => some k_ ≠ (v199 : Value).ownBlock ∧ k_ ≠ gb176) v15 x15_4) ∧ Aside0 (Kd.R (Kd.int .u8) 5 w' w.heap.size (fun _ => True) (.slice none 0 0) ([] : List Int)) ∧ Aside0 (w'.heap[gb176]? = some (.cells #[(.slice Ao16 t171.length co16), .bool t174] 29 (0, 0))) ∧ Aside0 (Below w.heap.size w w'))
                                  case atStart => exact ⟨(t168), (0), (by first | rfl | (simp; done) | (simp [*]; done)), H', ⟨Nat.le_refl _⟩, ⟨by (with_reducible repeat (first | apply Kd.N_alloc | apply Kd.N_drewN | apply Kd.N_drew)); exact HO_7.out⟩, ⟨by (with_reducible repeat (first | apply Kd.N_alloc | apply Kd.N_drewN | apply Kd.N_drew)); exact Kd.N_mono HO_10.out (fun _ hk => ⟨hk.1, ⟨hk.1, hk.2⟩⟩)⟩, ⟨by (with_reducible repeat (first | apply Kd.N_alloc | apply Kd.N_drewN | apply Kd.N_drew)); exact HO_7.out⟩, ⟨by (with_reducible repeat (first | apply Kd.R_alloc | apply Kd.R_drewN | apply Kd.R_drew)); exact HO_177000.out⟩, ⟨by (with_reducible repeat (first | refine blk_drewN ?_ _ | refine blk_drew ?_ | refine blk_alloc ?_ _)); exact BK176.out⟩, ⟨by repeat (first | (with_reducible first | exact HB.out | apply below_alloc | apply pw_below_drewN | apply below_drew1 | refine below_set ?_ GE176.out) | exact HB.out)⟩⟩
                                  case round =>
                                    clear H'
                                    try clear c1
                                    try clear c2
                                    try clear p2
                                    try clear c3
                                    try clear q3
                                    try clear c4
                                    try clear c5
                                    try clear c6
                                    try clear p6
                                    try clear c7
                                    try clear c8
                                    try clear c9
                                    try clear c10
                                    try clear c11
                                    try clear c13
                                    try clear c17
                                    try clear c18
                                    try clear c18b0
                                    try clear c19
                                    try clear c20
                                    try clear c21
                                    try clear c21b0
                                    try clear c21b1
                                    try clear c22
                                    try clear c22b0
                                    try clear c22b1
                                    try clear c24
                                    try clear c26
                                    try clear c26b0
                                    try clear c26b1
                                    try clear c27
                                    try clear c27b0
                                    try clear c27b1
                                    try clear c29
                                    try clear q31
                                    try clear c38
                                    try clear q38
                                    try clear c42
                                    try clear c42b0
                                    try clear c44
                                    try clear c45
                                    try clear c45b0
                                    try clear c45b1
                                    try clear c49
                                    try clear c55
                                    try clear c61
                                    try clear hcz17_0
                                    try clear hcz17_1
                                    try clear hcz50_0
                                    try clear hcz50_1
                                    try clear hcz56_0
                                    try clear hcz56_1
                                    try clear hcz62_0
                                    try clear hcz62_1
                                    try clear hfz17_0
                                    try clear hfz17_1
                                    try clear hfz50_0
                                    try clear hfz50_1
                                    try clear hfz56_0
                                    try clear hfz56_1
                                    try clear hfz62_0
                                    try clear hfz62_1
                                    try clear p2
                                    try clear p6
                                    try clear q038
                                    try clear q3
                                    try clear q31
                                    try clear q38
                                    obtain ⟨x15_4, x16_4, rfl, HA, HK4, HO_7, HO_10, HO_15, HO_177000, BK176, HB⟩ := hrel
                                    cases gk with
                                    | zero => exact absurd HA.out (by simp [fourinhandlaw22_LaneDrops.l1])
                                    | succ k4 =>
                                      have H := HA.out
                                      clear HA
                                      simp only [fourinhandlaw22_LaneDrops.l1] at H
                                      by_cases c63 : x16_4 < (wrap64 ((l0.length : Int) - 1))
                                      · rw [if_pos c63] at H
                                        have c63b0 : decide (x16_4 < (wrap64 ((l0.length : Int) - 1))) = true := decide_eq_true c63
                                        clear c63
                                        replace H := Option.bind_eq_some_iff.mp H
                                        obtain ⟨⟨t210, t213, t216, t217⟩, A640, H⟩ := H
                                        replace H : (if t217 = true then (fourinhandlaw22_LaneDrops.l1 k4 l0 t168 y198 t210 (wrap64 (x16_4 + 1))) else (some false)) = some r := H
                                        have A64 := Aside0.mk A640
                                        clear A640
                                        by_cases c65 : t217 = true
                                        · subst c65
                                          have H1 : (fourinhandlaw22_LaneDrops.l1 k4 l0 t168 y198 t210 (wrap64 (x16_4 + 1))) = some r := by rw [if_pos rfl] at H; exact H
                                          clear H
                                          have H := H1
                                          clear H1
                                          have H' := Aside0.mk H
                                          clear H
                                          obtain ⟨Ao66, co66, eo66⟩ := Kd.N_slice HO_15.out
                                          subst eo66
                                          go_wp2_with (first | ((with_reducible refine gate_callee (f := 13) rfl ?_); refine goesL_ (some 114) rfl rfl Try.func13 (by kernel_rfl) rfl #[.slice Ao66 x15_4.length co66, .int .i64 0] rfl (by (try simp only [List.map_toArray, List.map_cons, List.map_nil]); first | done | rfl | (simp only [List.length_drop, List.length_take]; rfl)) ?_; (with_reducible refine (lane_Take.calls _ _ x15_4 0 t210 t213 t216 true _ ?side1 ?side2 A64.out).mono ?_); (case side1 => repeat (first | exact (Kd.N_reads' HO_15.out).2.2 | (with_reducible refine Kd.C_alloc ?_ _) | (with_reducible refine Kd.C_drewN ?_ _) | (with_reducible refine Kd.C_drew ?_))); (case side2 => exact (Kd.N_reads' HO_15.out).2.1); rintro e w67 ⟨v211, v214, rfl, ho0, ho1, hb⟩; refine ⟨_, rfl, ?_⟩; have n0_ := Aside0.mk (Kd.N_mono (Kd.N_told (Kd.N_told (Kd.N_old (by (with_reducible repeat (first | apply Kd.N_alloc | apply Kd.N_drewN | apply Kd.N_drew)); exact HO_7.out) hb) (Kd.S_base ho0)) (Kd.R_base ho1)) (fun _ h_ => h_.1)); have n1_ := Aside0.mk (Kd.N_mono (Kd.N_told (Kd.N_told (Kd.N_old (by (with_reducible repeat (first | apply Kd.N_alloc | apply Kd.N_drewN | apply Kd.N_drew)); exact HO_10.out) hb) (Kd.S_base ho0)) (Kd.R_base ho1)) (fun _ h_ => h_.1)); have n2_ := Aside0.mk (Kd.N_mono (Kd.N_told (Kd.N_told (Kd.N_old (by (with_reducible repeat (first | apply Kd.N_alloc | apply Kd.N_drewN | apply Kd.N_drew)); exact HO_15.out) hb) (Kd.S_base ho0)) (Kd.R_base ho1)) (fun _ h_ => h_.1)); have n3_ := Aside0.mk (Kd.R_elder' (by (with_reducible repeat (first | apply Kd.R_alloc | apply Kd.R_drewN | apply Kd.R_drew)); exact HO_177000.out) (Kd.R_base ho1) hb); have n4_ := Aside0.mk (Kd.N_lower (Kd.N_mono (ok' := fun k_ => some k_ ≠ (v214 : Value).ownBlock ∧ some k_ ≠ (v169 : Value).ownBlock ∧ some k_ ≠ (v199 : Value).ownBlock ∧ some k_ ≠ (.slice Ao66 x15_4.length co66 : Value).ownBlock ∧ some k_ ≠ (.slice none 0 0 : Value).ownBlock ∧ k_ ≠ gb176) (Kd.S_N (Kd.S_bound ho0)) (fun k_ hk_ => ⟨hk_.1, (Kd.fresh' (Kd.N_lt (by (with_reducible repeat (first | apply Kd.N_alloc | apply Kd.N_drewN | apply Kd.N_drew)); exact HO_7.out)) k_ hk_.2.1), (Kd.fresh' (Kd.N_lt (by (with_reducible repeat (first | apply Kd.N_alloc | apply Kd.N_drewN | apply Kd.N_drew)); exact HO_10.out)) k_ hk_.2.1), (Kd.fresh' (Kd.N_lt (by (with_reducible repeat (first | apply Kd.N_alloc | apply Kd.N_drewN | apply Kd.N_drew)); exact HO_15.out)) k_ hk_.2.1), (Kd.fresh' (Kd.R_lt (by (with_reducible repeat (first | apply Kd.R_alloc | apply Kd.R_drewN | apply Kd.R_drew)); exact HO_177000.out)) k_ hk_.2.1), (Kd.freshB (g := gb176) (o := .cells #[.slice Ao16 t171.length co16, .bool t174] 29 (0, 0)) (by (with_reducible repeat (first | refine blk_drewN ?_ _ | refine blk_drew ?_ | refine blk_alloc ?_ _)); exact BK176.out) k_ hk_.2.1)⟩)) (below_size (by repeat (first | (with_reducible first | exact HB.out | apply below_alloc | apply pw_below_drewN | apply below_drew1 | refine below_set ?_ GE176.out) | exact HB.out)))); have n5_ := Aside0.mk (Kd.R_lower (Kd.R_new' ho1 (Kd.R_lt (by (with_reducible repeat (first | apply Kd.R_alloc | apply Kd.R_drewN | apply Kd.R_drew)); exact HO_177000.out))) (below_size (by repeat (first | (with_reducible first | exact HB.out | apply below_alloc | apply pw_below_drewN | apply below_drew1 | refine below_set ?_ GE176.out) | exact HB.out)))); have n6_ := Aside0.mk (blk_below (g := gb176) (o := .cells #[.slice Ao16 t171.length co16, .bool t174] 29 (0, 0)) (by (with_reducible repeat (first | refine blk_drewN ?_ _ | refine blk_drew ?_ | refine blk_alloc ?_ _)); exact BK176.out) hb); have n7_ := Aside0.mk (below_step (by repeat (first | (with_reducible first | exact HB.out | apply below_alloc | apply pw_below_drewN | apply below_drew1 | refine below_set ?_ GE176.out) | exact HB.out)) hb); clear HO_7; clear HO_10; clear HO_15; clear HO_177000; clear BK176; clear HB; have HO_7 := n0_; have HO_10 := n1_; have HO_15 := n2_; have HO_177000 := n3_; have HO212 := n4_; have HO215 := n5_; have BK176 := n6_; have HB := n7_; clear n0_ n1_ n2_ n3_ n4_ n5_ n6_ n7_; (try clear hb); (try clear hb2); (try clear hk); (try clear hi); (try clear ho0); (try clear ho1)) | ((with_reducible refine gate_dst (N := 18) rfl ?_); (try (refine gate_guard (by rfl) ?_; dsimp only)); refine box_event ?hg (N := 18) ?hd (cs := #[.slice none 0 0, .bool false]) (t := 29) ?hr ?_; (case hd => rfl); (case hg => rfl); (case hr => first | (go_simp; done) | (go_simp; rfl)); intro gb218 hg w68 hbox hb; have n0_ := Aside0.mk (Kd.N_below (Kd.N_elderB (by (with_reducible repeat (first | apply Kd.N_alloc | apply Kd.N_drewN | apply Kd.N_drew)); exact HO_7.out) gb218 (Nat.le_of_eq hg.symm)) hb); have n1_ := Aside0.mk (Kd.N_below (Kd.N_elderB (by (with_reducible repeat (first | apply Kd.N_alloc | apply Kd.N_drewN | apply Kd.N_drew)); exact HO_10.out) gb218 (Nat.le_of_eq hg.symm)) hb); have n2_ := Aside0.mk (Kd.N_below (Kd.N_elderB (by (with_reducible repeat (first | apply Kd.N_alloc | apply Kd.N_drewN | apply Kd.N_drew)); exact HO_15.out) gb218 (Nat.le_of_eq hg.symm)) hb); have n3_ := Aside0.mk (Kd.R_below (by (with_reducible repeat (first | apply Kd.R_alloc | apply Kd.R_drewN | apply Kd.R_drew)); exact HO_177000.out) hb); have n4_ := Aside0.mk (Kd.N_below (Kd.N_elderB (by (with_reducible repeat (first | apply Kd.N_alloc | apply Kd.N_drewN | apply Kd.N_drew)); exact HO212.out) gb218 (Nat.le_of_eq hg.symm)) hb); have n5_ := Aside0.mk (Kd.R_below (by (with_reducible repeat (first | apply Kd.R_alloc | apply Kd.R_drewN | apply Kd.R_drew)); exact HO215.out) hb); have n6_ := Aside0.mk (blk_below (g := gb176) (o := .cells #[.slice Ao16 t171.length co16, .bool t174] 29 (0, 0)) (by (with_reducible repeat (first | refine blk_drewN ?_ _ | refine blk_drew ?_ | refine blk_alloc ?_ _)); exact BK176.out) hb); have n7_ := Aside0.mk (below_step (by repeat (first | (with_reducible first | exact HB.out | apply below_alloc | apply pw_below_drewN | apply below_drew1 | refine below_set ?_ GE176.out) | exact HB.out)) hb); have n8_ := Aside0.mk (hbox); have n9_ := Aside0.mk ((by rw [hg]; exact (below_size (by repeat (first | (with_reducible first | exact HB.out | apply below_alloc | apply pw_below_drewN | apply below_drew1 | refine below_set ?_ GE176.out) | exact HB.out))) : w.heap.size ≤ gb218)); have n10_ := Aside0.mk ((by rw [hg]; exact (below_size (by repeat (first | (with_reducible first | exact HB.out | apply below_alloc | apply pw_below_drewN | apply below_drew1 | refine below_set ?_ GE176.out) | exact HB.out))) : w.heap.size ≤ gb218)); have n11_ := Aside0.mk ((by rw [hg]; exact Nat.ne_of_lt (blk_lt (g := gb176) (o := .cells #[.slice Ao16 t171.length co16, .bool t174] 29 (0, 0)) (by (with_reducible repeat (first | refine blk_drewN ?_ _ | refine blk_drew ?_ | refine blk_alloc ?_ _)); exact BK176.out)) : gb176 ≠ gb218)); have n12_ := Aside0.mk ((by rw [hg]; exact Nat.ne_of_gt (blk_lt (g := gb176) (o := .cells #[.slice Ao16 t171.length co16, .bool t174] 29 (0, 0)) (by (with_reducible repeat (first | refine blk_drewN ?_ _ | refine blk_drew ?_ | refine blk_alloc ?_ _)); exact BK176.out)) : gb218 ≠ gb176)); clear HO_7; clear HO_10; clear HO_15; clear HO_177000; clear HO212; clear HO215; clear BK176; clear HB; have HO_7 := n0_; have HO_10 := n1_; have HO_15 := n2_; have HO_177000 := n3_; have HO212 := n4_; have HO215 := n5_; have BK176 := n6_; have HB := n7_; have BK218 := n8_; have GW218 := n9_; have GE218 := n10_; have NB176_218 := n11_; have NB218_176 := n12_; clear n0_ n1_ n2_ n3_ n4_ n5_ n6_ n7_ n8_ n9_ n10_ n11_ n12_; clear hb hbox hg; obtain ⟨Ao69, co69, eo69⟩ := Kd.R_slice HO215.out; subst eo69; have hnb70 := NB218_176.out; have hnc70 := NB176_218.out; have hcz71_0 : w68.cell? ⟨gb218, 0, none⟩ = some (.slice none 0 0) := (blk_cell BK218.out 0).trans rfl; have hcz71_1 : w68.cell? ⟨gb218, 1, none⟩ = some (.bool false) := (blk_cell BK218.out 1).trans rfl; have hfz71_0 := blk_frozen BK218.out 0; have hfz71_1 := blk_frozen BK218.out 1))
                                          go_roundg k4
                                          case measure => have := HJ4.out; have := HJ12.out; have := HK3.out; have := HK4.out; omega
                                          case rel => exact ⟨(t210), (wrap64 (x16_4 + 1)), (by first | rfl | (simp; done) | (simp [*]; done)), H', ⟨by have := HJ4.out; have := HJ12.out; have := HK3.out; have := HK4.out; omega⟩, ⟨by (with_reducible repeat (first | apply Kd.N_alloc | apply Kd.N_drewN | apply Kd.N_drew)); exact Kd.N_mono (Kd.N_far (p := ⟨gb218, 1, none⟩) (Kd.N_far (p := ⟨gb218, 0, none⟩) (Kd.N_mono HO_7.out (fun k_ hk => (⟨hk, hk.2⟩ : _ ∧ k_ ≠ gb218))) (fun _ hk => hk.2) (.slice Ao69 t213.length co69)) (fun _ hk => hk.2) (.bool t216)) (fun _ hk => ⟨hk.1.1.1.1.1, hk.1.1.1.1.2⟩)⟩, ⟨by (with_reducible repeat (first | apply Kd.N_alloc | apply Kd.N_drewN | apply Kd.N_drew)); exact Kd.N_mono (Kd.N_far (p := ⟨gb218, 1, none⟩) (Kd.N_far (p := ⟨gb218, 0, none⟩) (Kd.N_mono HO_10.out (fun k_ hk => (⟨hk, hk.2⟩ : _ ∧ k_ ≠ gb218))) (fun _ hk => hk.2) (.slice Ao69 t213.length co69)) (fun _ hk => hk.2) (.bool t216)) (fun _ hk => ⟨hk.1.1.1.1.1, ⟨hk.1.1.1.2, hk.1.1.1.1.2.2⟩⟩)⟩, ⟨by (with_reducible repeat (first | apply Kd.N_alloc | apply Kd.N_drewN | apply Kd.N_drew)); exact Kd.N_mono (Kd.N_far (p := ⟨gb218, 1, none⟩) (Kd.N_far (p := ⟨gb218, 0, none⟩) (Kd.N_mono HO212.out (fun k_ hk => (⟨hk, hk.2⟩ : _ ∧ k_ ≠ gb218))) (fun _ hk => hk.2) (.slice Ao69 t213.length co69)) (fun _ hk => hk.2) (.bool t216)) (fun _ hk => ⟨hk.1.1.2.2.1, hk.1.1.2.2.2.2.2⟩)⟩, ⟨by (with_reducible repeat (first | apply Kd.R_alloc | apply Kd.R_drewN | apply Kd.R_drew)); exact Kd.R_mono (Kd.R_far (p := ⟨gb218, 1, none⟩) (Kd.R_far (p := ⟨gb218, 0, none⟩) (Kd.R_types HO_177000.out BK218.out (by decide)) (fun _ hk => hk.2) (.slice Ao69 t213.length co69)) (fun _ hk => hk.2) (.bool t216)) (fun _ hk => trivial)⟩, ⟨by (with_reducible repeat (first | refine blk_drewN ?_ _ | refine blk_drew ?_ | refine blk_alloc ?_ _)); refine blk_far ?_ NB176_218.out _; (with_reducible repeat (first | refine blk_drewN ?_ _ | refine blk_drew ?_ | refine blk_alloc ?_ _)); refine blk_far ?_ NB176_218.out _; (with_reducible repeat (first | refine blk_drewN ?_ _ | refine blk_drew ?_ | refine blk_alloc ?_ _)); exact BK176.out⟩, ⟨by repeat (first | (with_reducible first | exact HB.out | apply below_alloc | apply pw_below_drewN | apply below_drew1 | refine below_set ?_ GE176.out | refine below_set ?_ GE218.out) | exact HB.out)⟩⟩
                                        · replace c65 := Bool.eq_false_iff.mpr c65
                                          subst c65
                                          have H1 : (some false) = some r := by rw [if_neg (show ¬ (false = true) by decide)] at H; exact H
                                          clear H
                                          have H := H1
                                          clear H1
                                          rw [htr1] at H
                                          cases H
                                      · rw [if_neg c63] at H
                                        have c63b0 : decide (x16_4 < (wrap64 ((l0.length : Int) - 1))) = false := decide_eq_false c63
                                        clear c63
                                        replace H := Option.bind_eq_some_iff.mp H
                                        obtain ⟨t219, A780, H⟩ := H
                                        replace H : (if t219 = true then (if (x15_4.length : Int) = 0 then (some ((t168.length : Int) == (wrap64 ((l0.length : Int) - 1)))) else (some false)) else (some false)) = some r := H
                                        have A78 := Aside0.mk A780
                                        clear A780
                                        by_cases c79 : t219 = true
                                        · subst c79
                                          have H1 : (if (x15_4.length : Int) = 0 then (some ((t168.length : Int) == (wrap64 ((l0.length : Int) - 1)))) else (some false)) = some r := by rw [if_pos rfl] at H; exact H
                                          clear H
                                          have H := H1
                                          clear H1
                                          by_cases c80 : (x15_4.length : Int) = 0
                                          · rw [if_pos c80] at H
                                            have c80b0 : ((x15_4.length : Int) == 0) = true := beq_iff_eq.mpr c80
                                            have c80b1 : ((x15_4.length : Int) != 0) = false := bne_eq_false_iff_eq.mpr c80
                                            clear c80
                                            obtain rfl := Option.some.inj H
                                            obtain ⟨Ao81, co81, eo81⟩ := Kd.N_slice HO_10.out
                                            subst eo81
                                            go_wp2_with (first | ((with_reducible refine gate_callee (f := 14) rfl ?_); refine goesL_ (some 123) rfl rfl Try.func14 (by kernel_rfl) rfl #[.slice Ao81 y198.length co81, .slice A0 l0.length c0] rfl (by (try simp only [List.map_toArray, List.map_cons, List.map_nil]); first | done | rfl | (simp only [List.length_drop, List.length_take]; rfl)) ?_; (with_reducible refine (fourinhandref22_Same.calls k4 _ _ y198 _ _ l0 true _ ?side1 ?side2 ?side3 ?side4 A78.out).mono ?_); (case side1 => repeat (first | exact (Kd.N_reads' HO_10.out).2.2 | (with_reducible refine Kd.C_alloc ?_ _) | (with_reducible refine Kd.C_drewN ?_ _) | (with_reducible refine Kd.C_drew ?_))); (case side2 => exact (Kd.N_reads' HO_10.out).2.1); (case side3 => repeat (first | exact (Kd.C_below HR0.out HB.out) | (with_reducible refine Kd.C_alloc ?_ _) | (with_reducible refine Kd.C_drewN ?_ _) | (with_reducible refine Kd.C_drew ?_))); (case side4 => exact HC0.out); rintro e w' ⟨rfl, ⟨nd, rfl⟩⟩; refine ⟨_, rfl, ?_⟩; obtain ⟨Ao82, co82, eo82⟩ := Kd.N_slice HO_15.out; subst eo82; obtain ⟨Ao83, co83, eo83⟩ := Kd.N_slice HO_7.out; subst eo83))
                                            go_ret
                                            exact ⟨by first | rfl | (simp [errW_none, errW_some] <;> rfl) | (simp only [← hji25]; first | rfl | (simp [errW_none, errW_some] <;> rfl)) | (simp [*, errW_none, errW_some] <;> rfl), by repeat (first | (with_reducible first | exact HB.out | apply below_alloc | apply pw_below_drewN | apply below_drew1 | refine below_set ?_ GE176.out) | exact HB.out)⟩
                                          · rw [if_neg c80] at H
                                            have c80b0 : ((x15_4.length : Int) == 0) = false := beq_eq_false_iff_ne.mpr c80
                                            have c80b1 : ((x15_4.length : Int) != 0) = true := bne_iff_ne.mpr c80
                                            have c80b2 : ¬ (x15_4 = []) := fun h_ => c80 (by rw [h_]; rfl)
                                            rw [htr1] at H
                                            cases H
                                        · replace c79 := Bool.eq_false_iff.mpr c79
                                          subst c79
                                          have H1 : (some false) = some r := by rw [if_neg (show ¬ (false = true) by decide)] at H; exact H
                                          clear H
                                          have H := H1
                                          clear H1
                                          rw [htr1] at H
                                          cases H
                          · rw [if_neg c29] at H
                            exact absurd H (by simp)
                        · rw [if_neg c27] at H
                          exact absurd H (by simp)
                      · rw [if_neg c26] at H
                        exact absurd H (by simp)
                    · rw [if_neg c24] at H
                      exact absurd H (by simp)
                  · rw [if_neg c22] at H
                    exact absurd H (by simp)
                · rw [if_neg c21] at H
                  exact absurd H (by simp)
              · replace c20 := Bool.eq_false_iff.mpr c20
                subst c20
                have H1 : ((fourinhandref22_Same.f kj12 t168 l0).bind fun t177 => (if t177 = true then (some ((t171.length : Int) == 0)) else (some false))) = some r := by rw [if_neg (show ¬ (false = true) by decide)] at H; exact H
                clear H
                have H := H1
                clear H1
                replace H := Option.bind_eq_some_iff.mp H
                obtain ⟨t177, A870, H⟩ := H
                replace H : (if t177 = true then (some ((t171.length : Int) == 0)) else (some false)) = some r := H
                have A87 := Aside0.mk A870
                clear A870
                by_cases c88 : t177 = true
                · subst c88
                  have H1 : (some ((t171.length : Int) == 0)) = some r := by rw [if_pos rfl] at H; exact H
                  clear H
                  have H := H1
                  clear H1
                  obtain rfl := Option.some.inj H
                  obtain ⟨Ao89, co89, eo89⟩ := Kd.N_slice HO_7.out
                  subst eo89
                  go_wp2_with (first | ((with_reducible refine gate_callee (f := 14) rfl ?_); refine goesL_ (some 56) rfl rfl Try.func14 (by kernel_rfl) rfl #[.slice Ao89 t168.length co89, .slice A0 l0.length c0] rfl (by (try simp only [List.map_toArray, List.map_cons, List.map_nil]); first | done | rfl | (simp only [List.length_drop, List.length_take]; rfl)) ?_; (with_reducible refine (fourinhandref22_Same.calls kj12 _ _ t168 _ _ l0 true _ ?side1 ?side2 ?side3 ?side4 A87.out).mono ?_); (case side1 => repeat (first | exact (Kd.N_reads' HO_7.out).2.2 | (with_reducible refine Kd.C_alloc ?_ _) | (with_reducible refine Kd.C_drewN ?_ _) | (with_reducible refine Kd.C_drew ?_))); (case side2 => exact (Kd.N_reads' HO_7.out).2.1); (case side3 => repeat (first | exact (Kd.C_below HR0.out HB.out) | (with_reducible refine Kd.C_alloc ?_ _) | (with_reducible refine Kd.C_drewN ?_ _) | (with_reducible refine Kd.C_drew ?_))); (case side4 => exact HC0.out); rintro e w' ⟨rfl, ⟨nd, rfl⟩⟩; refine ⟨_, rfl, ?_⟩; have hcz90_0 : wc.cell? ⟨gb176, 0, none⟩ = some (.slice Ao16 t171.length co16) := (blk_cell BK176.out 0).trans rfl; have hcz90_1 : wc.cell? ⟨gb176, 1, none⟩ = some (.bool t174) := (blk_cell BK176.out 1).trans rfl; have hfz90_0 := blk_frozen BK176.out 0; have hfz90_1 := blk_frozen BK176.out 1))
                  go_ret
                  exact ⟨by first | rfl | (simp [errW_none, errW_some] <;> rfl) | (simp [*, errW_none, errW_some] <;> rfl), by repeat (first | (with_reducible first | exact HB.out | apply below_alloc | apply pw_below_drewN | apply below_drew1 | refine below_set ?_ GE176.out) | exact HB.out)⟩
                · replace c88 := Bool.eq_false_iff.mpr c88
                  subst c88
                  have H1 : (some false) = some r := by rw [if_neg (show ¬ (false = true) by decide)] at H; exact H
                  clear H
                  have H := H1
                  clear H1
                  rw [htr1] at H
                  cases H
end Go.Proofs.Ytnfgcjeenjomgaa.S
