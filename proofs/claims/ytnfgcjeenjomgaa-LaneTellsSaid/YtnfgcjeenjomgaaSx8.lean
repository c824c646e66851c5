/- What the program's functions compute, as plain functions, and that they do: walks laid by a program of the session's. -/
import Derived.Test.YtnfgcjeenjomgaaSx0
import Derived.Test.YtnfgcjeenjomgaaSx6
import Derived.Test.YtnfgcjeenjomgaaGMay
import Derived.Test.YtnfgcjeenjomgaaGPush
import Derived.Test.YtnfgcjeenjomgaaGAwake
namespace Go.Proofs.Ytnfgcjeenjomgaa.S
open Go.RowKit Go.Proofs.YtnfgcjeenjomgaaW.PrintWords Go.Proofs.YtnfgcjeenjomgaaW.PrintLast Go.Proofs.YtnfgcjeenjomgaaW.PrintMore
open Go.Proofs.Ytnfgcjeenjomgaa.Given
attribute [local go_sem] max2_int min2_int max_two min_two max_three min_three max_four min_four   -- for this text's walks alone
set_option linter.unusedVariables false
set_option linter.unusedSimpArgs false

/-! ### fourinhandlaw22_LaneMany: function 5 -/
mutual
def fourinhandlaw22_LaneMany.j0 : Nat → List (List Int) → Bool → Bool → Option (Bool)
  | 0, _, _, _ => none
  | k + 1, x0, x3, x17 => if x17 = true then (some x3) else (fourinhandlaw22_LaneMany.l0 k x0 ([] : List (S29)) 0)
def fourinhandlaw22_LaneMany.l0 : Nat → List (List Int) → List (S29) → Int → Option (Bool)
  | 0, _, _, _ => none
  | k + 1, x0, x4, x5 => if x5 < (x0.length : Int) then (if 0 ≤ x5 then (if ((rd_L1 x0 x5).length : Int) > 20 then (some true) else ((lane_Push.f x4 (rd_L1 x0 x5)).bind fun bt223 => (if (bt223.2 != (decide (x5 < 64))) = true then (some false) else (fourinhandlaw22_LaneMany.l0 k x0 bt223.1 (wrap64 (x5 + 1)))))) else (none)) else (fourinhandlaw22_LaneMany.l1 k x0 x4 0)
def fourinhandlaw22_LaneMany.l1 : Nat → List (List Int) → List (S29) → Int → Option (Bool)
  | 0, _, _, _ => none
  | k + 1, x0, x4, x8 => if x8 < (x4.length : Int) then (if x8 < (x0.length : Int) then (if 0 ≤ x8 then ((fourinhandref03_Same.f k ((rd_T29 x4 x8).f0) (rd_L1 x0 x8)).bind fun t229 => (if t229 = true then (if (rd_T29 x4 x8).f1 = true then (some false) else (fourinhandlaw22_LaneMany.l1 k x0 x4 (wrap64 (x8 + 1)))) else (some false))) else (none)) else (some false)) else ((lane_May.f x4).bind fun t231 => (if t231 = true then (if (x4.length : Int) = (x0.length : Int) then (some true) else (if (x4.length : Int) = 64 then (some (decide ((x0.length : Int) > 64))) else (some false))) else (some false)))
end
def fourinhandlaw22_LaneMany.f (k : Nat) (l0 : List (List Int)) : Option (Bool) := (fourinhandlaw22_awake.f).bind fun t220 => (if t220 = true then (fourinhandlaw22_LaneMany.j0 k l0 t220 (decide ((l0.length : Int) > 100))) else (fourinhandlaw22_LaneMany.j0 k l0 t220 true))
theorem fourinhandlaw22_LaneMany.mono_l : ∀ k, (∀ y0 y1 y2, LeO (fourinhandlaw22_LaneMany.j0 k y0 y1 y2) (fourinhandlaw22_LaneMany.j0 (k + 1) y0 y1 y2)) ∧ (∀ y0 y1 y2, LeO (fourinhandlaw22_LaneMany.l0 k y0 y1 y2) (fourinhandlaw22_LaneMany.l0 (k + 1) y0 y1 y2)) ∧ (∀ y0 y1 y2, LeO (fourinhandlaw22_LaneMany.l1 k y0 y1 y2) (fourinhandlaw22_LaneMany.l1 (k + 1) y0 y1 y2))
  | 0 => ⟨fun _ _ _ r h => by simp [fourinhandlaw22_LaneMany.j0] at h, fun _ _ _ r h => by simp [fourinhandlaw22_LaneMany.l0] at h, fun _ _ _ r h => by simp [fourinhandlaw22_LaneMany.l1] at h⟩
  | k + 1 => by
    obtain ⟨ih0, ih1, ih2⟩ := fourinhandlaw22_LaneMany.mono_l k
    refine ⟨?_, ?_, ?_⟩
    · intro y0 y1 y2
      unfold fourinhandlaw22_LaneMany.j0
      repeat' first
      | (with_reducible exact ih0 _ _ _)
      | (with_reducible exact ih1 _ _ _)
      | (with_reducible exact ih2 _ _ _)
      | (with_reducible exact fourinhandref03_Same.mono _ _ _)
      | (with_reducible exact LeO.refl _)
      | (with_reducible exact LeO.none _)
      | (with_reducible refine LeO.ite ?_ ?_)
      | (with_reducible refine LeO.bind ?_ (fun _ => ?_))
      | exact ih0 _ _ _
      | exact ih1 _ _ _
      | exact ih2 _ _ _
      | exact fourinhandref03_Same.mono _ _ _
      | exact LeO.none _
      | refine LeO.ite ?_ ?_
      | refine LeO.bind ?_ (fun _ => ?_)
    · intro y0 y1 y2
      unfold fourinhandlaw22_LaneMany.l0
      repeat' first
      | (with_reducible exact ih0 _ _ _)
      | (with_reducible exact ih1 _ _ _)
      | (with_reducible exact ih2 _ _ _)
      | (with_reducible exact fourinhandref03_Same.mono _ _ _)
      | (with_reducible exact LeO.refl _)
      | (with_reducible exact LeO.none _)
      | (with_reducible refine LeO.ite ?_ ?_)
      | (with_reducible refine LeO.bind ?_ (fun _ => ?_))
      | exact ih0 _ _ _
      | exact ih1 _ _ _
      | exact ih2 _ _ _
      | exact fourinhandref03_Same.mono _ _ _
      | exact LeO.none _
      | refine LeO.ite ?_ ?_
      | refine LeO.bind ?_ (fun _ => ?_)
    · intro y0 y1 y2
      unfold fourinhandlaw22_LaneMany.l1
      repeat' first
      | (with_reducible exact ih0 _ _ _)
      | (with_reducible exact ih1 _ _ _)
      | (with_reducible exact ih2 _ _ _)
      | (with_reducible exact fourinhandref03_Same.mono _ _ _)
      | (with_reducible exact LeO.refl _)
      | (with_reducible exact LeO.none _)
      | (with_reducible refine LeO.ite ?_ ?_)
      | (with_reducible refine LeO.bind ?_ (fun _ => ?_))
      | exact ih0 _ _ _
      | exact ih1 _ _ _
      | exact ih2 _ _ _
      | exact fourinhandref03_Same.mono _ _ _
      | exact LeO.none _
      | refine LeO.ite ?_ ?_
      | refine LeO.bind ?_ (fun _ => ?_)
theorem fourinhandlaw22_LaneMany.mono : ∀ a0 k, LeO (fourinhandlaw22_LaneMany.f k a0) (fourinhandlaw22_LaneMany.f (k + 1) a0) := by
  intro a0 k
  obtain ⟨ih0, ih1, ih2⟩ := fourinhandlaw22_LaneMany.mono_l k
  unfold fourinhandlaw22_LaneMany.f
  repeat' first
      | (with_reducible exact ih0 _ _ _)
      | (with_reducible exact ih1 _ _ _)
      | (with_reducible exact ih2 _ _ _)
      | (with_reducible exact fourinhandref03_Same.mono _ _ _)
      | (with_reducible exact LeO.refl _)
      | (with_reducible exact LeO.none _)
      | (with_reducible refine LeO.ite ?_ ?_)
      | (with_reducible refine LeO.bind ?_ (fun _ => ?_))
      | exact ih0 _ _ _
      | exact ih1 _ _ _
      | exact ih2 _ _ _
      | exact fourinhandref03_Same.mono _ _ _
      | exact LeO.none _
      | refine LeO.ite ?_ ?_
      | refine LeO.bind ?_ (fun _ => ?_)
set_option maxHeartbeats 8000000 in
set_option maxRecDepth 100000 in
theorem fourinhandlaw22_LaneMany.calls (k : Nat) (A0 : Option Addr) (c0 : Nat) (l0 : List (List Int)) (r : Bool) (w : World) (hr0 : Kd.C (Kd.slice 5 (Kd.int .u8)) w A0 l0.length l0) (hc0 : l0.length ≤ c0) (h : fourinhandlaw22_LaneMany.f k l0 = some r) (htr1 : r = true) :
    Calls Try.prog 5 #[.slice A0 l0.length c0] w fun e w' => e = .returned (.bool r) ∧ Below w.heap.size w w' := by
  have HR0 := Aside0.mk hr0
  have HC0 := Aside0.mk hc0
  clear hr0 hc0
  have HB := Aside0.mk (Below.refl w.heap.size w)
  have H : ((fourinhandlaw22_awake.f).bind fun t220 => (if t220 = true then (fourinhandlaw22_LaneMany.j0 k l0 t220 (decide ((l0.length : Int) > 100))) else (fourinhandlaw22_LaneMany.j0 k l0 t220 true))) = some r := h
  clear h
  replace H := Option.bind_eq_some_iff.mp H
  obtain ⟨t220, A20, H⟩ := H
  replace H : (if t220 = true then (fourinhandlaw22_LaneMany.j0 k l0 t220 (decide ((l0.length : Int) > 100))) else (fourinhandlaw22_LaneMany.j0 k l0 t220 true)) = some r := H
  have A2 := Aside0.mk A20
  clear A20
  have HC3 := Aside0.mk H
  clear H
  go_enter Try.func5, Try.ntmps5
  go_upto_region 2 with (first | (go_at_call 9; (with_reducible refine (fourinhandlaw22_awake.calls  t220 _ A2.out).mono ?_); rintro e w4 ⟨rfl, hb⟩; have n0_ := Aside0.mk (below_step (by repeat (first | (with_reducible first | exact HB.out | apply below_alloc | apply pw_below_drewN | apply below_drew1) | exact HB.out)) hb); clear HB; have HB := n0_; clear n0_; (try clear hb); (try clear hb2); (try clear hk); (try clear hi)))
  repeat (go_quiet (first | (go_at_call 9; (with_reducible refine (fourinhandlaw22_awake.calls  t220 _ A2.out).mono ?_); rintro e w4 ⟨rfl, hb⟩; have n0_ := Aside0.mk (below_step (by repeat (first | (with_reducible first | exact HB.out | apply below_alloc | apply pw_below_drewN | apply below_drew1) | exact HB.out)) hb); clear HB; have HB := n0_; clear n0_; (try clear hb); (try clear hb2); (try clear hk); (try clear hi))); go_upto_region 2 with (first | (go_at_call 9; (with_reducible refine (fourinhandlaw22_awake.calls  t220 _ A2.out).mono ?_); rintro e w4 ⟨rfl, hb⟩; have n0_ := Aside0.mk (below_step (by repeat (first | (with_reducible first | exact HB.out | apply below_alloc | apply pw_below_drewN | apply below_drew1) | exact HB.out)) hb); clear HB; have HB := n0_; clear n0_; (try clear hb); (try clear hb2); (try clear hk); (try clear hi))))
  (try simp only [Act.put, List.setIfInBounds_toArray, List.set_cons_zero, List.set_cons_succ])
  go_cut [17] (fun v17 wc => ∃ (kq : Nat) (x17_2 : Bool), v17 = .bool x17_2 ∧ Aside0 (fourinhandlaw22_LaneMany.j0 kq l0 t220 x17_2 = some r) ∧ Aside0 (kq ≤ k) ∧ Aside0 (Below w.heap.size w wc))
  case first =>
    have H := HC3.out
    clear HC3
    by_cases c5 : t220 = true
    · subst c5
      have H1 : (fourinhandlaw22_LaneMany.j0 k l0 true (decide ((l0.length : Int) > 100))) = some r := by rw [if_pos rfl] at H; exact H
      clear H
      have H := H1
      clear H1
      have H' := Aside0.mk H
      clear H
      go_wp2
      repeat (go_quiet (fail); try go_wp2)
      go_meet
      case rel => exact ⟨_, (decide ((l0.length : Int) > 100)), (by first | rfl | (simp; done) | (simp [*]; done)), H', ⟨by first | omega | exact Nat.le_refl _⟩, ⟨by repeat (first | (with_reducible first | exact HB.out | apply below_alloc | apply pw_below_drewN | apply below_drew1) | exact HB.out)⟩⟩
    · replace c5 := Bool.eq_false_iff.mpr c5
      subst c5
      have H1 : (fourinhandlaw22_LaneMany.j0 k l0 false true) = some r := by rw [if_neg (show ¬ (false = true) by decide)] at H; exact H
      clear H
      have H := H1
      clear H1
      have H' := Aside0.mk H
      clear H
      go_wp2
      repeat (go_quiet (fail); try go_wp2)
      go_meet
      case rel => exact ⟨_, (true), (by first | rfl | (simp; done) | (simp [*]; done)), H', ⟨by first | omega | exact Nat.le_refl _⟩, ⟨by repeat (first | (with_reducible first | exact HB.out | apply below_alloc | apply pw_below_drewN | apply below_drew1) | exact HB.out)⟩⟩
  case rest =>
    clear HC3
    try clear p2
    try clear c5
    obtain ⟨kq, x17_2, rfl, HA, HJ2, HB⟩ := hcut
    cases kq with
    | zero => exact absurd HA.out (by simp [fourinhandlaw22_LaneMany.j0])
    | succ kj2 =>
      have H := HA.out
      clear HA
      simp only [fourinhandlaw22_LaneMany.j0] at H
      by_cases c6 : x17_2 = true
      · subst c6
        have H1 : (some t220) = some r := by rw [if_pos rfl] at H; exact H
        clear H
        have H := H1
        clear H1
        obtain rfl := Option.some.inj H
        go_wp2
        repeat (go_quiet (fail); try go_wp2)
        go_ret
        exact ⟨by first | rfl | (simp [errW_none, errW_some] <;> rfl) | (simp [*, errW_none, errW_some] <;> rfl), by repeat (first | (with_reducible first | exact HB.out | apply below_alloc | apply pw_below_drewN | apply below_drew1) | exact HB.out)⟩
      · replace c6 := Bool.eq_false_iff.mpr c6
        subst c6
        have H1 : (fourinhandlaw22_LaneMany.l0 kj2 l0 ([] : List (S29)) 0) = some r := by rw [if_neg (show ¬ (false = true) by decide)] at H; exact H
        clear H
        have H := H1
        clear H1
        have H' := Aside0.mk H
        clear H
        go_wp2
        repeat (go_quiet (fail); try go_wp2)
        go_loopg [4, 5] kj2 (fun kq v4 v5 w' => ∃ (x4_2 : List (S29)) (x5_2 : Int), v5 = .int .i64 x5_2 ∧ Aside0 (fourinhandlaw22_LaneMany.l0 kq l0 x4_2 x5_2 = some r) ∧ Aside0 (kq ≤ kj2) ∧ Aside0 (Kd.S k29 29 w' w.heap.size (fun _ => True) v4 x4_2) ∧ Aside0 (Below w.heap.size w w'))
        case atStart => exact ⟨(([] : List (S29))), (0), (by first | rfl | (simp; done) | (simp [*]; done)), H', ⟨Nat.le_refl _⟩, ⟨by first | exact Kd.S_nil _ _ _ _ _ | exact Kd.N_nil _ _ _ _ _ | exact Kd.V_nil _ _ _ _ _ | exact Kd.Q_nil _ _ _ _ _ | exact Kd.R_nil _ _ _ _ _⟩, ⟨by repeat (first | (with_reducible first | exact HB.out | apply below_alloc | apply pw_below_drewN | apply below_drew1) | exact HB.out)⟩⟩
        case round =>
          clear H'
          try clear p2
          try clear c5
          try clear c6
          try clear p2
          obtain ⟨x4_2, x5_2, rfl, HA, HK2, HO_4, HB⟩ := hrel
          cases gk with
          | zero => exact absurd HA.out (by simp [fourinhandlaw22_LaneMany.l0])
          | succ k2 =>
            have H := HA.out
            clear HA
            simp only [fourinhandlaw22_LaneMany.l0] at H
            by_cases c7 : x5_2 < (l0.length : Int)
            · rw [if_pos c7] at H
              have c7b0 : decide (x5_2 < (l0.length : Int)) = true := decide_eq_true c7
              clear c7
              by_cases c8 : 0 ≤ x5_2
              · rw [if_pos c8] at H
                have c8b0 : decide (0 ≤ x5_2) = true := decide_eq_true c8
                clear c8
                by_cases c9 : ((rd_L1 l0 x5_2).length : Int) > 20
                · rw [if_pos c9] at H
                  have c9b0 : decide (20 < ((rd_L1 l0 x5_2).length : Int)) = true := decide_eq_true c9
                  have c9b1 : decide (20 < (rd_L1 l0 x5_2).length) = true := decide_eq_true (by omega)
                  clear c9
                  obtain rfl := Option.some.inj H
                  have p221 : 0 ≤ (x5_2 : Int) := of_decide_eq_true (by first | (with_reducible assumption) | assumption)
                  have q221 : x5_2 < (l0.length : Int) := of_decide_eq_true (by first | (with_reducible assumption) | assumption)
                  obtain ⟨ad221, A221_0, c221_0, e221, hx221_0, hl221_0, hi221_0⟩ := at_L1 HR0.out x5_2 p221 q221
                  cases e221
                  replace hx221_0 := (HB.out.cell (World.block_lt_of_cell? w _ hx221_0)).trans hx221_0
                  have HR221_0 := Aside0.mk hi221_0
                  have HC221_0 := Aside0.mk hl221_0
                  clear hi221_0 hl221_0
                  replace p221 := eq_true p221
                  replace q221 := eq_true q221
                  go_wp2
                  repeat (go_quiet (fail); try go_wp2)
                  go_ret
                  exact ⟨by first | rfl | (simp [errW_none, errW_some] <;> rfl) | (simp [*, errW_none, errW_some] <;> rfl), by repeat (first | (with_reducible first | exact HB.out | apply below_alloc | apply pw_below_drewN | apply below_drew1) | exact HB.out)⟩
                · rw [if_neg c9] at H
                  have c9b0 : decide (20 < ((rd_L1 l0 x5_2).length : Int)) = false := decide_eq_false c9
                  have c9b1 : decide (20 < (rd_L1 l0 x5_2).length) = false := decide_eq_false (by omega)
                  clear c9
                  replace H := Option.bind_eq_some_iff.mp H
                  obtain ⟨⟨t223, t224⟩, A100, H⟩ := H
                  replace H : (if (t224 != (decide (x5_2 < 64))) = true then (some false) else (fourinhandlaw22_LaneMany.l0 k2 l0 t223 (wrap64 (x5_2 + 1)))) = some r := H
                  have A10 := Aside0.mk A100
                  clear A100
                  by_cases c11 : (t224 != (decide (x5_2 < 64))) = true
                  · rw [if_pos c11] at H
                    have c11b0 : (t224 != (decide (x5_2 < 64))) = true := c11
                    (try (have c11b1 : decide (t224 = (decide (x5_2 < 64))) = false := by simpa using c11))
                    (try (have c11b2 : (t224 == (decide (x5_2 < 64))) = false := by simpa using c11))
                    (try (have c11b3 : ¬ (t224 = (decide (x5_2 < 64))) := by simpa using c11))
                    clear c11
                    rw [htr1] at H
                    cases H
                  · rw [if_neg c11] at H
                    have c11b0 : (t224 != (decide (x5_2 < 64))) = false := by simpa using c11
                    (try (have c11b1 : decide (t224 = (decide (x5_2 < 64))) = true := by simpa using c11))
                    (try (have c11b2 : (t224 == (decide (x5_2 < 64))) = true := by simpa using c11))
                    clear c11
                    have H' := Aside0.mk H
                    clear H
                    have p221 : 0 ≤ (x5_2 : Int) := of_decide_eq_true (by first | (with_reducible assumption) | assumption)
                    have q221 : x5_2 < (l0.length : Int) := of_decide_eq_true (by first | (with_reducible assumption) | assumption)
                    obtain ⟨ad221, A221_0, c221_0, e221, hx221_0, hl221_0, hi221_0⟩ := at_L1 HR0.out x5_2 p221 q221
                    cases e221
                    replace hx221_0 := (HB.out.cell (World.block_lt_of_cell? w _ hx221_0)).trans hx221_0
                    have HR221_0 := Aside0.mk hi221_0
                    have HC221_0 := Aside0.mk hl221_0
                    clear hi221_0 hl221_0
                    replace p221 := eq_true p221
                    replace q221 := eq_true q221
                    have p222 : 0 ≤ (x5_2 : Int) := of_decide_eq_true (by first | (with_reducible assumption) | assumption)
                    have q222 : x5_2 < (l0.length : Int) := of_decide_eq_true (by first | (with_reducible assumption) | assumption)
                    obtain ⟨ad222, A222_0, c222_0, e222, hx222_0, hl222_0, hi222_0⟩ := at_L1 HR0.out x5_2 p222 q222
                    obtain rfl : ad221 = ad222 := (by injection e222)
                    replace hx222_0 := (HB.out.cell (World.block_lt_of_cell? w _ hx222_0)).trans hx222_0
                    have HR222_0 := Aside0.mk hi222_0
                    have HC222_0 := Aside0.mk hl222_0
                    clear hi222_0 hl222_0
                    replace p222 := eq_true p222
                    replace q222 := eq_true q222
                    have ea_ := Option.some.inj (hx221_0.symm.trans hx222_0)
                    injection ea_ with ea_ en_ ec_
                    subst ea_
                    subst ec_
                    clear en_
                    obtain ⟨Ao14, co14, eo14⟩ := Kd.S_slice HO_4.out
                    subst eo14
                    go_wp2_with (first | (go_at_call 12; (with_reducible refine (lane_Push.calls _ _ x4_2 _ _ (rd_L1 l0 x5_2) t223 t224 _ ?side1 ?side2 ?side3 ?side4 A10.out).mono ?_); (case side1 => repeat (first | exact (Kd.S_reads' HO_4.out).2.2 | (with_reducible refine Kd.C_alloc ?_ _) | (with_reducible refine Kd.C_drewN ?_ _) | (with_reducible refine Kd.C_drew ?_))); (case side2 => exact (Kd.S_reads' HO_4.out).2.1); (case side3 => repeat (first | exact (Kd.C_below HR222_0.out HB.out) | (with_reducible refine Kd.C_alloc ?_ _) | (with_reducible refine Kd.C_drewN ?_ _) | (with_reducible refine Kd.C_drew ?_))); (case side4 => exact HC222_0.out); rintro e w15 ⟨v225, rfl, ho0, hb⟩; have n0_ := Aside0.mk (Kd.S_elder' (by (with_reducible repeat (first | apply Kd.S_alloc | apply Kd.S_drewN | apply Kd.S_drew)); exact HO_4.out) (Kd.S_base ho0) hb); have n1_ := Aside0.mk (Kd.S_lower (Kd.S_new' ho0 (Kd.S_lt (by (with_reducible repeat (first | apply Kd.S_alloc | apply Kd.S_drewN | apply Kd.S_drew)); exact HO_4.out))) (below_size (by repeat (first | (with_reducible first | exact HB.out | apply below_alloc | apply pw_below_drewN | apply below_drew1) | exact HB.out)))); have n2_ := Aside0.mk (below_step (by repeat (first | (with_reducible first | exact HB.out | apply below_alloc | apply pw_below_drewN | apply below_drew1) | exact HB.out)) hb); clear HO_4; clear HB; have HO_4 := n0_; have HO226 := n1_; have HB := n2_; clear n0_ n1_ n2_; (try clear hb); (try clear hb2); (try clear hk); (try clear hi); (try clear ho0)))
                    repeat (go_quiet (first | (go_at_call 12; (with_reducible refine (lane_Push.calls _ _ x4_2 _ _ (rd_L1 l0 x5_2) t223 t224 _ ?side1 ?side2 ?side3 ?side4 A10.out).mono ?_); (case side1 => repeat (first | exact (Kd.S_reads' HO_4.out).2.2 | (with_reducible refine Kd.C_alloc ?_ _) | (with_reducible refine Kd.C_drewN ?_ _) | (with_reducible refine Kd.C_drew ?_))); (case side2 => exact (Kd.S_reads' HO_4.out).2.1); (case side3 => repeat (first | exact (Kd.C_below HR222_0.out HB.out) | (with_reducible refine Kd.C_alloc ?_ _) | (with_reducible refine Kd.C_drewN ?_ _) | (with_reducible refine Kd.C_drew ?_))); (case side4 => exact HC222_0.out); rintro e w15 ⟨v225, rfl, ho0, hb⟩; have n0_ := Aside0.mk (Kd.S_elder' (by (with_reducible repeat (first | apply Kd.S_alloc | apply Kd.S_drewN | apply Kd.S_drew)); exact HO_4.out) (Kd.S_base ho0) hb); have n1_ := Aside0.mk (Kd.S_lower (Kd.S_new' ho0 (Kd.S_lt (by (with_reducible repeat (first | apply Kd.S_alloc | apply Kd.S_drewN | apply Kd.S_drew)); exact HO_4.out))) (below_size (by repeat (first | (with_reducible first | exact HB.out | apply below_alloc | apply pw_below_drewN | apply below_drew1) | exact HB.out)))); have n2_ := Aside0.mk (below_step (by repeat (first | (with_reducible first | exact HB.out | apply below_alloc | apply pw_below_drewN | apply below_drew1) | exact HB.out)) hb); clear HO_4; clear HB; have HO_4 := n0_; have HO226 := n1_; have HB := n2_; clear n0_ n1_ n2_; (try clear hb); (try clear hb2); (try clear hk); (try clear hi); (try clear ho0))); try go_wp2_with (first | (go_at_call 12; (with_reducible refine (lane_Push.calls _ _ x4_2 _ _ (rd_L1 l0 x5_2) t223 t224 _ ?side1 ?side2 ?side3 ?side4 A10.out).mono ?_); (case side1 => repeat (first | exact (Kd.S_reads' HO_4.out).2.2 | (with_reducible refine Kd.C_alloc ?_ _) | (with_reducible refine Kd.C_drewN ?_ _) | (with_reducible refine Kd.C_drew ?_))); (case side2 => exact (Kd.S_reads' HO_4.out).2.1); (case side3 => repeat (first | exact (Kd.C_below HR222_0.out HB.out) | (with_reducible refine Kd.C_alloc ?_ _) | (with_reducible refine Kd.C_drewN ?_ _) | (with_reducible refine Kd.C_drew ?_))); (case side4 => exact HC222_0.out); rintro e w15 ⟨v225, rfl, ho0, hb⟩; have n0_ := Aside0.mk (Kd.S_elder' (by (with_reducible repeat (first | apply Kd.S_alloc | apply Kd.S_drewN | apply Kd.S_drew)); exact HO_4.out) (Kd.S_base ho0) hb); have n1_ := Aside0.mk (Kd.S_lower (Kd.S_new' ho0 (Kd.S_lt (by (with_reducible repeat (first | apply Kd.S_alloc | apply Kd.S_drewN | apply Kd.S_drew)); exact HO_4.out))) (below_size (by repeat (first | (with_reducible first | exact HB.out | apply below_alloc | apply pw_below_drewN | apply below_drew1) | exact HB.out)))); have n2_ := Aside0.mk (below_step (by repeat (first | (with_reducible first | exact HB.out | apply below_alloc | apply pw_below_drewN | apply below_drew1) | exact HB.out)) hb); clear HO_4; clear HB; have HO_4 := n0_; have HO226 := n1_; have HB := n2_; clear n0_ n1_ n2_; (try clear hb); (try clear hb2); (try clear hk); (try clear hi); (try clear ho0))))
                    go_roundg k2
                    case measure => have := HJ2.out; have := HK2.out; omega
                    case rel => exact ⟨(t223), (wrap64 (x5_2 + 1)), (by first | rfl | (simp; done) | (simp [*]; done)), H', ⟨by have := HJ2.out; have := HK2.out; omega⟩, ⟨by (with_reducible repeat (first | apply Kd.S_alloc | apply Kd.S_drewN | apply Kd.S_drew)); exact Kd.S_mono HO226.out (fun _ hk => trivial)⟩, ⟨by repeat (first | (with_reducible first | exact HB.out | apply below_alloc | apply pw_below_drewN | apply below_drew1) | exact HB.out)⟩⟩
              · rw [if_neg c8] at H
                exact absurd H (by simp)
            · rw [if_neg c7] at H
              have c7b0 : decide (x5_2 < (l0.length : Int)) = false := decide_eq_false c7
              clear c7
              have H' := Aside0.mk H
              clear H
              go_wp2
              repeat (go_quiet (fail); try go_wp2)
              go_loopg [8] k2 (fun kq v8 w' => ∃ (x8_3 : Int), v8 = .int .i64 x8_3 ∧ Aside0 (fourinhandlaw22_LaneMany.l1 kq l0 x4_2 x8_3 = some r) ∧ Aside0 (kq ≤ k2) ∧ Aside0 (Kd.S k29 29 w' w.heap.size (fun _ => True) u4 x4_2) ∧ Aside0 (Below w.heap.size w w'))
              case atStart => exact ⟨(0), (by first | rfl | (simp; done) | (simp [*]; done)), H', ⟨Nat.le_refl _⟩, ⟨by (with_reducible repeat (first | apply Kd.S_alloc | apply Kd.S_drewN | apply Kd.S_drew)); exact HO_4.out⟩, ⟨by repeat (first | (with_reducible first | exact HB.out | apply below_alloc | apply pw_below_drewN | apply below_drew1) | exact HB.out)⟩⟩
              case round =>
                clear H'
                try clear c1
                try clear c2
                try clear p2
                try clear q2
                try clear hx2
                try clear c5
                try clear c6
                try clear p6
                try clear c7
                try clear c7b0
                try clear c8
                try clear c8b0
                try clear c9
                try clear c9b0
                try clear c9b1
                try clear c11
                try clear c11b0
                try clear c11b1
                try clear c11b2
                try clear hx221_0
                try clear hx222_0
                try clear p2
                try clear p221
                try clear p222
                try clear q221
                try clear q222
                obtain ⟨x8_3, rfl, HA, HK3, HO_4, HB⟩ := hrel
                cases gk with
                | zero => exact absurd HA.out (by simp [fourinhandlaw22_LaneMany.l1])
                | succ k3 =>
                  have H := HA.out
                  clear HA
                  simp only [fourinhandlaw22_LaneMany.l1] at H
                  by_cases c16 : x8_3 < (x4_2.length : Int)
                  · rw [if_pos c16] at H
                    have c16b0 : decide (x8_3 < (x4_2.length : Int)) = true := decide_eq_true c16
                    clear c16
                    by_cases c17 : x8_3 < (l0.length : Int)
                    · rw [if_pos c17] at H
                      have c17b0 : decide (x8_3 < (l0.length : Int)) = true := decide_eq_true c17
                      clear c17
                      by_cases c18 : 0 ≤ x8_3
                      · rw [if_pos c18] at H
                        have c18b0 : decide (0 ≤ x8_3) = true := decide_eq_true c18
                        clear c18
                        replace H := Option.bind_eq_some_iff.mp H
                        obtain ⟨t229, A190, H⟩ := H
                        replace H : (if t229 = true then (if (rd_T29 x4_2 x8_3).f1 = true then (some false) else (fourinhandlaw22_LaneMany.l1 k3 l0 x4_2 (wrap64 (x8_3 + 1)))) else (some false)) = some r := H
                        have A19 := Aside0.mk A190
                        clear A190
                        by_cases c20 : t229 = true
                        · subst c20
                          have H1 : (if (rd_T29 x4_2 x8_3).f1 = true then (some false) else (fourinhandlaw22_LaneMany.l1 k3 l0 x4_2 (wrap64 (x8_3 + 1)))) = some r := by rw [if_pos rfl] at H; exact H
                          clear H
                          have H := H1
                          clear H1
                          obtain ⟨bq21, hbq21⟩ : ∃ b_ : Bool, b_ = ((rd_T29 x4_2 x8_3).f1) := ⟨_, rfl⟩
                          replace H : (if bq21 = true then (some false) else (fourinhandlaw22_LaneMany.l1 k3 l0 x4_2 (wrap64 (x8_3 + 1)))) = some r := by rw [← hbq21] at H; exact H
                          have Nbq21 := Aside0.mk hbq21
                          clear hbq21
                          by_cases c22 : bq21 = true
                          · subst c22
                            have H1 : (some false) = some r := by rw [if_pos rfl] at H; exact H
                            clear H
                            have H := H1
                            clear H1
                            rw [htr1] at H
                            cases H
                          · replace c22 := Bool.eq_false_iff.mpr c22
                            subst c22
                            have H1 : (fourinhandlaw22_LaneMany.l1 k3 l0 x4_2 (wrap64 (x8_3 + 1))) = some r := by rw [if_neg (show ¬ (false = true) by decide)] at H; exact H
                            clear H
                            have H := H1
                            clear H1
                            have H' := Aside0.mk H
                            clear H
                            obtain ⟨Ao24, co24, eo24⟩ := Kd.S_slice HO_4.out
                            subst eo24
                            have p227 : 0 ≤ (x8_3 : Int) := of_decide_eq_true (by first | (with_reducible assumption) | assumption)
                            have q227 : x8_3 < (x4_2.length : Int) := of_decide_eq_true (by first | (with_reducible assumption) | assumption)
                            obtain ⟨ad227, A227_0, c227_0, e227, hx227_0, hx227_1, hl227_0, hi227_0⟩ := at_T29 (Kd.S_reads' HO_4.out).2.2 x8_3 p227 q227
                            (try rw [← Nbq21.out] at hx227_1)
                            cases e227
                            obtain ⟨ce227, hce227, hMe227, hcc227⟩ := Kd.S_get HO_4.out z29 x8_3 p227 (by first | exact q227 | exact of_decide_eq_true (by first | (with_reducible assumption) | assumption) | (have e_ := (Kd.S_reads' HO_4.out).1; omega))
                            obtain ⟨ve227_0, rfl, ge227_0⟩ := k29_openM hMe227
                            have hv227_0 := hcc227 0 _ rfl
                            rw [Nat.add_zero] at hv227_0
                            replace hv227_0 := Option.some.inj (hv227_0.symm.trans hx227_0)
                            rw [hv227_0] at ge227_0
                            have HL227_0 := Aside0.mk (show Kd.R (Kd.int .u8) 5 _ _ _ _ ((rd_T29 x4_2 x8_3).f0) from ge227_0)
                            clear hv227_0 ge227_0
                            clear hcc227 hce227
                            have HR227_0 := Aside0.mk hi227_0
                            have HC227_0 := Aside0.mk hl227_0
                            clear hi227_0 hl227_0
                            replace p227 := eq_true p227
                            replace q227 := eq_true q227
                            have p228 : 0 ≤ (x8_3 : Int) := of_decide_eq_true (by first | (with_reducible assumption) | assumption)
                            have q228 : x8_3 < (l0.length : Int) := of_decide_eq_true (by first | (with_reducible assumption) | assumption)
                            obtain ⟨ad228, A228_0, c228_0, e228, hx228_0, hl228_0, hi228_0⟩ := at_L1 HR0.out x8_3 p228 q228
                            cases e228
                            replace hx228_0 := (HB.out.cell (World.block_lt_of_cell? w _ hx228_0)).trans hx228_0
                            have HR228_0 := Aside0.mk hi228_0
                            have HC228_0 := Aside0.mk hl228_0
                            clear hi228_0 hl228_0
                            replace p228 := eq_true p228
                            replace q228 := eq_true q228
                            go_wp2_with (first | (go_at_call 15; (with_reducible refine (fourinhandref03_Same.calls k3 _ _ ((rd_T29 x4_2 x8_3).f0) _ _ (rd_L1 l0 x8_3) true _ ?side1 ?side2 ?side3 ?side4 A19.out).mono ?_); (case side1 => repeat (first | exact (by repeat (first | (with_reducible exact HR227_0.out) | (with_reducible refine Kd.C_alloc ?_ _) | (with_reducible refine Kd.C_drewN ?_ _) | (with_reducible refine Kd.C_drew ?_) | exact HR227_0.out)) | (with_reducible refine Kd.C_alloc ?_ _) | (with_reducible refine Kd.C_drewN ?_ _) | (with_reducible refine Kd.C_drew ?_))); (case side2 => exact HC227_0.out); (case side3 => repeat (first | exact (Kd.C_below HR228_0.out HB.out) | (with_reducible refine Kd.C_alloc ?_ _) | (with_reducible refine Kd.C_drewN ?_ _) | (with_reducible refine Kd.C_drew ?_))); (case side4 => exact HC228_0.out); rintro e w' ⟨rfl, ⟨nd, rfl⟩⟩; (try first | exact ⟨rfl, _, World.drewN_drewN _ _ _⟩ | exact ⟨rfl, _, Eq.trans (World.drewN_drewN _ _ _) (congrArg (World.drewN _) (Nat.add_assoc _ _ _))⟩); have p230 : 0 ≤ (x8_3 : Int) := of_decide_eq_true (by first | (with_reducible assumption) | assumption); have q230 : x8_3 < (x4_2.length : Int) := of_decide_eq_true (by first | (with_reducible assumption) | assumption); obtain ⟨ad230, A230_0, c230_0, e230, hx230_0, hx230_1, hl230_0, hi230_0⟩ := at_T29 (Kd.S_reads' HO_4.out).2.2 x8_3 p230 q230; (try rw [← Nbq21.out] at hx230_1); obtain rfl : ad227 = ad230 := (by injection e230); obtain ⟨ce230, hce230, hMe230, hcc230⟩ := Kd.S_get HO_4.out z29 x8_3 p230 (by first | exact q230 | exact of_decide_eq_true (by first | (with_reducible assumption) | assumption) | (have e_ := (Kd.S_reads' HO_4.out).1; omega)); obtain ⟨ve230_0, rfl, ge230_0⟩ := k29_openM hMe230; have hv230_0 := hcc230 0 _ rfl; rw [Nat.add_zero] at hv230_0; replace hv230_0 := Option.some.inj (hv230_0.symm.trans hx230_0); rw [hv230_0] at ge230_0; have HL230_0 := Aside0.mk (show Kd.R (Kd.int .u8) 5 _ _ _ _ ((rd_T29 x4_2 x8_3).f0) from ge230_0); clear hv230_0 ge230_0; clear hcc230 hce230; have HR230_0 := Aside0.mk hi230_0; have HC230_0 := Aside0.mk hl230_0; clear hi230_0 hl230_0; replace p230 := eq_true p230; replace q230 := eq_true q230; have ea_ := Option.some.inj (hx227_0.symm.trans hx230_0); injection ea_ with ea_ en_ ec_; subst ea_; subst ec_; clear en_))
                            repeat (go_quiet (first | (go_at_call 15; (with_reducible refine (fourinhandref03_Same.calls k3 _ _ ((rd_T29 x4_2 x8_3).f0) _ _ (rd_L1 l0 x8_3) true _ ?side1 ?side2 ?side3 ?side4 A19.out).mono ?_); (case side1 => repeat (first | exact (by repeat (first | (with_reducible exact HR227_0.out) | (with_reducible refine Kd.C_alloc ?_ _) | (with_reducible refine Kd.C_drewN ?_ _) | (with_reducible refine Kd.C_drew ?_) | exact HR227_0.out)) | (with_reducible refine Kd.C_alloc ?_ _) | (with_reducible refine Kd.C_drewN ?_ _) | (with_reducible refine Kd.C_drew ?_))); (case side2 => exact HC227_0.out); (case side3 => repeat (first | exact (Kd.C_below HR228_0.out HB.out) | (with_reducible refine Kd.C_alloc ?_ _) | (with_reducible refine Kd.C_drewN ?_ _) | (with_reducible refine Kd.C_drew ?_))); (case side4 => exact HC228_0.out); rintro e w' ⟨rfl, ⟨nd, rfl⟩⟩; (try first | exact ⟨rfl, _, World.drewN_drewN _ _ _⟩ | exact ⟨rfl, _, Eq.trans (World.drewN_drewN _ _ _) (congrArg (World.drewN _) (Nat.add_assoc _ _ _))⟩); have p230 : 0 ≤ (x8_3 : Int) := of_decide_eq_true (by first | (with_reducible assumption) | assumption); have q230 : x8_3 < (x4_2.length : Int) := of_decide_eq_true (by first | (with_reducible assumption) | assumption); obtain ⟨ad230, A230_0, c230_0, e230, hx230_0, hx230_1, hl230_0, hi230_0⟩ := at_T29 (Kd.S_reads' HO_4.out).2.2 x8_3 p230 q230; (try rw [← Nbq21.out] at hx230_1); obtain rfl : ad227 = ad230 := (by injection e230); obtain ⟨ce230, hce230, hMe230, hcc230⟩ := Kd.S_get HO_4.out z29 x8_3 p230 (by first | exact q230 | exact of_decide_eq_true (by first | (with_reducible assumption) | assumption) | (have e_ := (Kd.S_reads' HO_4.out).1; omega)); obtain ⟨ve230_0, rfl, ge230_0⟩ := k29_openM hMe230; have hv230_0 := hcc230 0 _ rfl; rw [Nat.add_zero] at hv230_0; replace hv230_0 := Option.some.inj (hv230_0.symm.trans hx230_0); rw [hv230_0] at ge230_0; have HL230_0 := Aside0.mk (show Kd.R (Kd.int .u8) 5 _ _ _ _ ((rd_T29 x4_2 x8_3).f0) from ge230_0); clear hv230_0 ge230_0; clear hcc230 hce230; have HR230_0 := Aside0.mk hi230_0; have HC230_0 := Aside0.mk hl230_0; clear hi230_0 hl230_0; replace p230 := eq_true p230; replace q230 := eq_true q230; have ea_ := Option.some.inj (hx227_0.symm.trans hx230_0); injection ea_ with ea_ en_ ec_; subst ea_; subst ec_; clear en_)); try go_wp2_with (first | (go_at_call 15; (with_reducible refine (fourinhandref03_Same.calls k3 _ _ ((rd_T29 x4_2 x8_3).f0) _ _ (rd_L1 l0 x8_3) true _ ?side1 ?side2 ?side3 ?side4 A19.out).mono ?_); (case side1 => repeat (first | exact (by repeat (first | (with_reducible exact HR227_0.out) | (with_reducible refine Kd.C_alloc ?_ _) | (with_reducible refine Kd.C_drewN ?_ _) | (with_reducible refine Kd.C_drew ?_) | exact HR227_0.out)) | (with_reducible refine Kd.C_alloc ?_ _) | (with_reducible refine Kd.C_drewN ?_ _) | (with_reducible refine Kd.C_drew ?_))); (case side2 => exact HC227_0.out); (case side3 => repeat (first | exact (Kd.C_below HR228_0.out HB.out) | (with_reducible refine Kd.C_alloc ?_ _) | (with_reducible refine Kd.C_drewN ?_ _) | (with_reducible refine Kd.C_drew ?_))); (case side4 => exact HC228_0.out); rintro e w' ⟨rfl, ⟨nd, rfl⟩⟩; (try first | exact ⟨rfl, _, World.drewN_drewN _ _ _⟩ | exact ⟨rfl, _, Eq.trans (World.drewN_drewN _ _ _) (congrArg (World.drewN _) (Nat.add_assoc _ _ _))⟩); have p230 : 0 ≤ (x8_3 : Int) := of_decide_eq_true (by first | (with_reducible assumption) | assumption); have q230 : x8_3 < (x4_2.length : Int) := of_decide_eq_true (by first | (with_reducible assumption) | assumption); obtain ⟨ad230, A230_0, c230_0, e230, hx230_0, hx230_1, hl230_0, hi230_0⟩ := at_T29 (Kd.S_reads' HO_4.out).2.2 x8_3 p230 q230; (try rw [← Nbq21.out] at hx230_1); obtain rfl : ad227 = ad230 := (by injection e230); obtain ⟨ce230, hce230, hMe230, hcc230⟩ := Kd.S_get HO_4.out z29 x8_3 p230 (by first | exact q230 | exact of_decide_eq_true (by first | (with_reducible assumption) | assumption) | (have e_ := (Kd.S_reads' HO_4.out).1; omega)); obtain ⟨ve230_0, rfl, ge230_0⟩ := k29_openM hMe230; have hv230_0 := hcc230 0 _ rfl; rw [Nat.add_zero] at hv230_0; replace hv230_0 := Option.some.inj (hv230_0.symm.trans hx230_0); rw [hv230_0] at ge230_0; have HL230_0 := Aside0.mk (show Kd.R (Kd.int .u8) 5 _ _ _ _ ((rd_T29 x4_2 x8_3).f0) from ge230_0); clear hv230_0 ge230_0; clear hcc230 hce230; have HR230_0 := Aside0.mk hi230_0; have HC230_0 := Aside0.mk hl230_0; clear hi230_0 hl230_0; replace p230 := eq_true p230; replace q230 := eq_true q230; have ea_ := Option.some.inj (hx227_0.symm.trans hx230_0); injection ea_ with ea_ en_ ec_; subst ea_; subst ec_; clear en_)))
                            go_roundg k3
                            case measure => have := HJ2.out; have := HK2.out; have := HK3.out; omega
                            case rel => exact ⟨(wrap64 (x8_3 + 1)), (by first | rfl | (simp; done) | (simp [*]; done)), H', ⟨by have := HJ2.out; have := HK2.out; have := HK3.out; omega⟩, ⟨by (with_reducible repeat (first | apply Kd.S_alloc | apply Kd.S_drewN | apply Kd.S_drew)); exact HO_4.out⟩, ⟨by repeat (first | (with_reducible first | exact HB.out | apply below_alloc | apply pw_below_drewN | apply below_drew1) | exact HB.out)⟩⟩
                        · replace c20 := Bool.eq_false_iff.mpr c20
                          subst c20
                          have H1 : (some false) = some r := by rw [if_neg (show ¬ (false = true) by decide)] at H; exact H
                          clear H
                          have H := H1
                          clear H1
                          rw [htr1] at H
                          cases H
                      · rw [if_neg c18] at H
                        exact absurd H (by simp)
                    · rw [if_neg c17] at H
                      have c17b0 : decide (x8_3 < (l0.length : Int)) = false := decide_eq_false c17
                      clear c17
                      rw [htr1] at H
                      cases H
                  · rw [if_neg c16] at H
                    have c16b0 : decide (x8_3 < (x4_2.length : Int)) = false := decide_eq_false c16
                    clear c16
                    replace H := Option.bind_eq_some_iff.mp H
                    obtain ⟨t231, A270, H⟩ := H
                    replace H : (if t231 = true then (if (x4_2.length : Int) = (l0.length : Int) then (some true) else (if (x4_2.length : Int) = 64 then (some (decide ((l0.length : Int) > 64))) else (some false))) else (some false)) = some r := H
                    have A27 := Aside0.mk A270
                    clear A270
                    by_cases c28 : t231 = true
                    · subst c28
                      have H1 : (if (x4_2.length : Int) = (l0.length : Int) then (some true) else (if (x4_2.length : Int) = 64 then (some (decide ((l0.length : Int) > 64))) else (some false))) = some r := by rw [if_pos rfl] at H; exact H
                      clear H
                      have H := H1
                      clear H1
                      by_cases c29 : (x4_2.length : Int) = (l0.length : Int)
                      · rw [if_pos c29] at H
                        have c29b0 : ((x4_2.length : Int) == (l0.length : Int)) = true := beq_iff_eq.mpr c29
                        have c29b1 : ((x4_2.length : Int) != (l0.length : Int)) = false := bne_eq_false_iff_eq.mpr c29
                        have c29b2 : (x4_2.length == l0.length) = true := by first | simpa using c29 | (simp at c29 ⊢; omega)
                        clear c29
                        obtain rfl := Option.some.inj H
                        obtain ⟨Ao30, co30, eo30⟩ := Kd.S_slice HO_4.out
                        subst eo30
                        go_wp2_with (first | (go_at_call 11; (with_reducible refine (lane_May.calls _ _ x4_2 true _ ?side1 ?side2 A27.out).mono ?_); (case side1 => repeat (first | exact (Kd.S_reads' HO_4.out).2.2 | (with_reducible refine Kd.C_alloc ?_ _) | (with_reducible refine Kd.C_drewN ?_ _) | (with_reducible refine Kd.C_drew ?_))); (case side2 => exact (Kd.S_reads' HO_4.out).2.1); rintro e w31 ⟨rfl, hb⟩; have n0_ := Aside0.mk (Kd.S_below (by (with_reducible repeat (first | apply Kd.S_alloc | apply Kd.S_drewN | apply Kd.S_drew)); exact HO_4.out) hb); have n1_ := Aside0.mk (below_step (by repeat (first | (with_reducible first | exact HB.out | apply below_alloc | apply pw_below_drewN | apply below_drew1) | exact HB.out)) hb); clear HO_4; clear HB; have HO_4 := n0_; have HB := n1_; clear n0_ n1_; (try clear hb); (try clear hb2); (try clear hk); (try clear hi)))
                        repeat (go_quiet (first | (go_at_call 11; (with_reducible refine (lane_May.calls _ _ x4_2 true _ ?side1 ?side2 A27.out).mono ?_); (case side1 => repeat (first | exact (Kd.S_reads' HO_4.out).2.2 | (with_reducible refine Kd.C_alloc ?_ _) | (with_reducible refine Kd.C_drewN ?_ _) | (with_reducible refine Kd.C_drew ?_))); (case side2 => exact (Kd.S_reads' HO_4.out).2.1); rintro e w31 ⟨rfl, hb⟩; have n0_ := Aside0.mk (Kd.S_below (by (with_reducible repeat (first | apply Kd.S_alloc | apply Kd.S_drewN | apply Kd.S_drew)); exact HO_4.out) hb); have n1_ := Aside0.mk (below_step (by repeat (first | (with_reducible first | exact HB.out | apply below_alloc | apply pw_below_drewN | apply below_drew1) | exact HB.out)) hb); clear HO_4; clear HB; have HO_4 := n0_; have HB := n1_; clear n0_ n1_; (try clear hb); (try clear hb2); (try clear hk); (try clear hi))); try go_wp2_with (first | (go_at_call 11; (with_reducible refine (lane_May.calls _ _ x4_2 true _ ?side1 ?side2 A27.out).mono ?_); (case side1 => repeat (first | exact (Kd.S_reads' HO_4.out).2.2 | (with_reducible refine Kd.C_alloc ?_ _) | (with_reducible refine Kd.C_drewN ?_ _) | (with_reducible refine Kd.C_drew ?_))); (case side2 => exact (Kd.S_reads' HO_4.out).2.1); rintro e w31 ⟨rfl, hb⟩; have n0_ := Aside0.mk (Kd.S_below (by (with_reducible repeat (first | apply Kd.S_alloc | apply Kd.S_drewN | apply Kd.S_drew)); exact HO_4.out) hb); have n1_ := Aside0.mk (below_step (by repeat (first | (with_reducible first | exact HB.out | apply below_alloc | apply pw_below_drewN | apply below_drew1) | exact HB.out)) hb); clear HO_4; clear HB; have HO_4 := n0_; have HB := n1_; clear n0_ n1_; (try clear hb); (try clear hb2); (try clear hk); (try clear hi))))
                        go_ret
                        exact ⟨by first | rfl | (simp [errW_none, errW_some] <;> rfl) | (simp [*, errW_none, errW_some] <;> rfl), by repeat (first | (with_reducible first | exact HB.out | apply below_alloc | apply pw_below_drewN | apply below_drew1) | exact HB.out)⟩
                      · rw [if_neg c29] at H
                        have c29b0 : ((x4_2.length : Int) == (l0.length : Int)) = false := beq_eq_false_iff_ne.mpr c29
                        have c29b1 : ((x4_2.length : Int) != (l0.length : Int)) = true := bne_iff_ne.mpr c29
                        have c29b2 : (x4_2.length == l0.length) = false := by first | simpa using c29 | (simp at c29 ⊢; omega)
                        by_cases c32 : (x4_2.length : Int) = 64
                        · rw [if_pos c32] at H
                          have c32b0 : ((x4_2.length : Int) == 64) = true := beq_iff_eq.mpr c32
                          have c32b1 : ((x4_2.length : Int) != 64) = false := bne_eq_false_iff_eq.mpr c32
                          clear c32
                          obtain rfl := Option.some.inj H
                          obtain ⟨Ao33, co33, eo33⟩ := Kd.S_slice HO_4.out
                          subst eo33
                          go_wp2_with (first | (go_at_call 11; (with_reducible refine (lane_May.calls _ _ x4_2 true _ ?side1 ?side2 A27.out).mono ?_); (case side1 => repeat (first | exact (Kd.S_reads' HO_4.out).2.2 | (with_reducible refine Kd.C_alloc ?_ _) | (with_reducible refine Kd.C_drewN ?_ _) | (with_reducible refine Kd.C_drew ?_))); (case side2 => exact (Kd.S_reads' HO_4.out).2.1); rintro e w34 ⟨rfl, hb⟩; have n0_ := Aside0.mk (Kd.S_below (by (with_reducible repeat (first | apply Kd.S_alloc | apply Kd.S_drewN | apply Kd.S_drew)); exact HO_4.out) hb); have n1_ := Aside0.mk (below_step (by repeat (first | (with_reducible first | exact HB.out | apply below_alloc | apply pw_below_drewN | apply below_drew1) | exact HB.out)) hb); clear HO_4; clear HB; have HO_4 := n0_; have HB := n1_; clear n0_ n1_; (try clear hb); (try clear hb2); (try clear hk); (try clear hi)))
                          repeat (go_quiet (first | (go_at_call 11; (with_reducible refine (lane_May.calls _ _ x4_2 true _ ?side1 ?side2 A27.out).mono ?_); (case side1 => repeat (first | exact (Kd.S_reads' HO_4.out).2.2 | (with_reducible refine Kd.C_alloc ?_ _) | (with_reducible refine Kd.C_drewN ?_ _) | (with_reducible refine Kd.C_drew ?_))); (case side2 => exact (Kd.S_reads' HO_4.out).2.1); rintro e w34 ⟨rfl, hb⟩; have n0_ := Aside0.mk (Kd.S_below (by (with_reducible repeat (first | apply Kd.S_alloc | apply Kd.S_drewN | apply Kd.S_drew)); exact HO_4.out) hb); have n1_ := Aside0.mk (below_step (by repeat (first | (with_reducible first | exact HB.out | apply below_alloc | apply pw_below_drewN | apply below_drew1) | exact HB.out)) hb); clear HO_4; clear HB; have HO_4 := n0_; have HB := n1_; clear n0_ n1_; (try clear hb); (try clear hb2); (try clear hk); (try clear hi))); try go_wp2_with (first | (go_at_call 11; (with_reducible refine (lane_May.calls _ _ x4_2 true _ ?side1 ?side2 A27.out).mono ?_); (case side1 => repeat (first | exact (Kd.S_reads' HO_4.out).2.2 | (with_reducible refine Kd.C_alloc ?_ _) | (with_reducible refine Kd.C_drewN ?_ _) | (with_reducible refine Kd.C_drew ?_))); (case side2 => exact (Kd.S_reads' HO_4.out).2.1); rintro e w34 ⟨rfl, hb⟩; have n0_ := Aside0.mk (Kd.S_below (by (with_reducible repeat (first | apply Kd.S_alloc | apply Kd.S_drewN | apply Kd.S_drew)); exact HO_4.out) hb); have n1_ := Aside0.mk (below_step (by repeat (first | (with_reducible first | exact HB.out | apply below_alloc | apply pw_below_drewN | apply below_drew1) | exact HB.out)) hb); clear HO_4; clear HB; have HO_4 := n0_; have HB := n1_; clear n0_ n1_; (try clear hb); (try clear hb2); (try clear hk); (try clear hi))))
                          go_ret
                          exact ⟨by first | rfl | (simp [errW_none, errW_some] <;> rfl) | (simp [*, errW_none, errW_some] <;> rfl), by repeat (first | (with_reducible first | exact HB.out | apply below_alloc | apply pw_below_drewN | apply below_drew1) | exact HB.out)⟩
                        · rw [if_neg c32] at H
                          have c32b0 : ((x4_2.length : Int) == 64) = false := beq_eq_false_iff_ne.mpr c32
                          have c32b1 : ((x4_2.length : Int) != 64) = true := bne_iff_ne.mpr c32
                          rw [htr1] at H
                          cases H
                    · replace c28 := Bool.eq_false_iff.mpr c28
                      subst c28
                      have H1 : (some false) = some r := by rw [if_neg (show ¬ (false = true) by decide)] at H; exact H
                      clear H
                      have H := H1
                      clear H1
                      rw [htr1] at H
                      cases H
/-! ### fourinhandref22_May: function 25 -/
def fourinhandref22_May.l0 : Nat → List (S29) → Int → Option (Bool)
  | 0, _, _ => none
  | k + 1, x0, x3 => if x3 < (x0.length : Int) then (if 0 ≤ x3 then (if (((rd_T29 x0 x3).f0).length : Int) > 2000 then (some false) else (fourinhandref22_May.l0 k x0 (wrap64 (x3 + 1)))) else (none)) else (some (decide ((x0.length : Int) ≤ 64)))
def fourinhandref22_May.f (k : Nat) (l0 : List (S29)) : Option (Bool) := fourinhandref22_May.l0 k l0 0
theorem fourinhandref22_May.mono_l : ∀ k, (∀ y0 y1, LeO (fourinhandref22_May.l0 k y0 y1) (fourinhandref22_May.l0 (k + 1) y0 y1))
  | 0 => fun _ _ r h => by simp [fourinhandref22_May.l0] at h
  | k + 1 => by
    have ih0 := fourinhandref22_May.mono_l k
    · intro y0 y1
      unfold fourinhandref22_May.l0
      repeat' first
      | (with_reducible exact ih0 _ _)
      | (with_reducible exact LeO.refl _)
      | (with_reducible exact LeO.none _)
      | (with_reducible refine LeO.ite ?_ ?_)
      | (with_reducible refine LeO.bind ?_ (fun _ => ?_))
      | exact ih0 _ _
      | exact LeO.none _
      | refine LeO.ite ?_ ?_
      | refine LeO.bind ?_ (fun _ => ?_)
theorem fourinhandref22_May.mono : ∀ a0 k, LeO (fourinhandref22_May.f k a0) (fourinhandref22_May.f (k + 1) a0) := by
  intro a0 k
  have ih0 := fourinhandref22_May.mono_l k
  unfold fourinhandref22_May.f
  repeat' first
      | (with_reducible exact ih0 _ _)
      | (with_reducible exact LeO.refl _)
      | (with_reducible exact LeO.none _)
      | (with_reducible refine LeO.ite ?_ ?_)
      | (with_reducible refine LeO.bind ?_ (fun _ => ?_))
      | exact ih0 _ _
      | exact LeO.none _
      | refine LeO.ite ?_ ?_
      | refine LeO.bind ?_ (fun _ => ?_)
set_option maxHeartbeats 8000000 in
set_option maxRecDepth 100000 in
theorem fourinhandref22_May.calls (k : Nat) (A0 : Option Addr) (c0 : Nat) (l0 : List (S29)) (r : Bool) (w : World) (hr0 : Kd.C k29 w A0 l0.length l0) (hc0 : l0.length ≤ c0) (h : fourinhandref22_May.f k l0 = some r) :
    Calls Try.prog 25 #[.slice A0 l0.length c0] w fun e w' => e = .returned (.bool r) ∧ Drawn0 w w' := by
  have HR0 := Aside0.mk hr0
  have HC0 := Aside0.mk hc0
  clear hr0 hc0
  have H : (fourinhandref22_May.l0 k l0 0) = some r := h
  clear h
  have H' := Aside0.mk H
  clear H
  go_enter Try.func25, Try.ntmps25
  go_wp2
  go_loopg [3] k (fun kq v3 w' => ∃ (x3_1 : Int), v3 = .int .i64 x3_1 ∧ Aside0 (fourinhandref22_May.l0 kq l0 x3_1 = some r) ∧ Aside0 (kq ≤ k) ∧ Drawn0 w w')
  case atStart => exact ⟨(0), (by first | rfl | (simp; done) | (simp [*]; done)), H', ⟨Nat.le_refl _⟩, by repeat (first | exact Drawn0.refl _ | apply Drawn0.step)⟩
  case round =>
    clear H'
    obtain ⟨x3_1, rfl, HA, HK1, ⟨m1, rfl⟩⟩ := hrel
    cases gk with
    | zero => exact absurd HA.out (by simp [fourinhandref22_May.l0])
    | succ k1 =>
      have H := HA.out
      clear HA
      simp only [fourinhandref22_May.l0] at H
      by_cases c2 : x3_1 < (l0.length : Int)
      · rw [if_pos c2] at H
        have c2b0 : decide (x3_1 < (l0.length : Int)) = true := decide_eq_true c2
        clear c2
        by_cases c3 : 0 ≤ x3_1
        · rw [if_pos c3] at H
          have c3b0 : decide (0 ≤ x3_1) = true := decide_eq_true c3
          clear c3
          by_cases c4 : (((rd_T29 l0 x3_1).f0).length : Int) > 2000
          · rw [if_pos c4] at H
            have c4b0 : decide (2000 < (((rd_T29 l0 x3_1).f0).length : Int)) = true := decide_eq_true c4
            have c4b1 : decide (2000 < ((rd_T29 l0 x3_1).f0).length) = true := decide_eq_true (by omega)
            clear c4
            obtain rfl := Option.some.inj H
            have p232 : 0 ≤ (x3_1 : Int) := of_decide_eq_true (by first | (with_reducible assumption) | assumption)
            have q232 : x3_1 < (l0.length : Int) := of_decide_eq_true (by first | (with_reducible assumption) | assumption)
            obtain ⟨ad232, A232_0, c232_0, e232, hx232_0, hx232_1, hl232_0, hi232_0⟩ := at_T29 HR0.out x3_1 p232 q232
            cases e232
            have HR232_0 := Aside0.mk hi232_0
            have HC232_0 := Aside0.mk hl232_0
            clear hi232_0 hl232_0
            replace p232 := eq_true p232
            replace q232 := eq_true q232
            go_wp2
            go_ret
            exact ⟨by first | rfl | (simp; done) | (simp [*]; done), by repeat (first | exact Drawn0.refl _ | apply Drawn0.step)⟩
          · rw [if_neg c4] at H
            have c4b0 : decide (2000 < (((rd_T29 l0 x3_1).f0).length : Int)) = false := decide_eq_false c4
            have c4b1 : decide (2000 < ((rd_T29 l0 x3_1).f0).length) = false := decide_eq_false (by omega)
            clear c4
            have H' := Aside0.mk H
            clear H
            have p232 : 0 ≤ (x3_1 : Int) := of_decide_eq_true (by first | (with_reducible assumption) | assumption)
            have q232 : x3_1 < (l0.length : Int) := of_decide_eq_true (by first | (with_reducible assumption) | assumption)
            obtain ⟨ad232, A232_0, c232_0, e232, hx232_0, hx232_1, hl232_0, hi232_0⟩ := at_T29 HR0.out x3_1 p232 q232
            cases e232
            have HR232_0 := Aside0.mk hi232_0
            have HC232_0 := Aside0.mk hl232_0
            clear hi232_0 hl232_0
            replace p232 := eq_true p232
            replace q232 := eq_true q232
            go_wp2
            go_roundg k1
            case measure => have := HK1.out; omega
            case rel => exact ⟨(wrap64 (x3_1 + 1)), (by first | rfl | (simp; done) | (simp [*]; done)), H', ⟨by have := HK1.out; omega⟩, by repeat (first | exact Drawn0.refl _ | apply Drawn0.step)⟩
        · rw [if_neg c3] at H
          exact absurd H (by simp)
      · rw [if_neg c2] at H
        have c2b0 : decide (x3_1 < (l0.length : Int)) = false := decide_eq_false c2
        clear c2
        obtain rfl := Option.some.inj H
        go_wp2
        go_ret
        exact ⟨by first | rfl | (simp; done) | (simp [*]; done), by repeat (first | exact Drawn0.refl _ | apply Drawn0.step)⟩

/-! ### fourinhandref22_Push: function 18 -/
def fourinhandref22_Push.j0 : Nat → List (S29) → List Int → Bool → Option ((List (S29)) × Bool)
  | 0, _, _, _ => none
  | k + 1, x0, x1, x20 => if x20 = true then ((fourinhandref22_Own.f k x0).bind fun t234 => (some (t234, false))) else ((fourinhandref22_Own.f k x0).bind fun t237 => (if ([] : List Int).length + x1.length < 140737488355328 then (if t237.length < 4398046511104 then (some ((t237 ++ [(⟨(([] : List Int) ++ x1), false⟩ : S29)]), true)) else (none)) else (none)))
def fourinhandref22_Push.f (k : Nat) (l0 : List (S29)) (l1 : List Int) : Option ((List (S29)) × Bool) := (fourinhandref22_May.f k l0).bind fun t233 => (if t233 = true then (if (l0.length : Int) ≥ 64 then (fourinhandref22_Push.j0 k l0 l1 true) else (fourinhandref22_Push.j0 k l0 l1 (decide ((l1.length : Int) > 2000)))) else (fourinhandref22_Push.j0 k l0 l1 true))
theorem fourinhandref22_Push.mono_l : ∀ k, (∀ y0 y1 y2, LeO (fourinhandref22_Push.j0 k y0 y1 y2) (fourinhandref22_Push.j0 (k + 1) y0 y1 y2))
  | 0 => fun _ _ _ r h => by simp [fourinhandref22_Push.j0] at h
  | k + 1 => by
    have ih0 := fourinhandref22_Push.mono_l k
    · intro y0 y1 y2
      unfold fourinhandref22_Push.j0
      repeat' first
      | (with_reducible exact ih0 _ _ _)
      | (with_reducible exact fourinhandref22_May.mono _ _)
      | (with_reducible exact fourinhandref22_Own.mono _ _)
      | (with_reducible exact LeO.refl _)
      | (with_reducible exact LeO.none _)
      | (with_reducible refine LeO.ite ?_ ?_)
      | (with_reducible refine LeO.bind ?_ (fun _ => ?_))
      | exact ih0 _ _ _
      | exact fourinhandref22_May.mono _ _
      | exact fourinhandref22_Own.mono _ _
      | exact LeO.none _
      | refine LeO.ite ?_ ?_
      | refine LeO.bind ?_ (fun _ => ?_)
theorem fourinhandref22_Push.mono : ∀ a0 a1 k, LeO (fourinhandref22_Push.f k a0 a1) (fourinhandref22_Push.f (k + 1) a0 a1) := by
  intro a0 a1 k
  have ih0 := fourinhandref22_Push.mono_l k
  unfold fourinhandref22_Push.f
  repeat' first
      | (with_reducible exact ih0 _ _ _)
      | (with_reducible exact fourinhandref22_May.mono _ _)
      | (with_reducible exact fourinhandref22_Own.mono _ _)
      | (with_reducible exact LeO.refl _)
      | (with_reducible exact LeO.none _)
      | (with_reducible refine LeO.ite ?_ ?_)
      | (with_reducible refine LeO.bind ?_ (fun _ => ?_))
      | exact ih0 _ _ _
      | exact fourinhandref22_May.mono _ _
      | exact fourinhandref22_Own.mono _ _
      | exact LeO.none _
      | refine LeO.ite ?_ ?_
      | refine LeO.bind ?_ (fun _ => ?_)
set_option maxHeartbeats 8000000 in
set_option maxRecDepth 100000 in
theorem fourinhandref22_Push.calls (k : Nat) (A0 : Option Addr) (c0 : Nat) (l0 : List (S29)) (A1 : Option Addr) (c1 : Nat) (l1 : List Int) (r1 : List (S29)) (r2 : Bool) (w : World) (hr0 : Kd.C k29 w A0 l0.length l0) (hc0 : l0.length ≤ c0) (hr1 : Kd.C (Kd.int .u8) w A1 l1.length l1) (hc1 : l1.length ≤ c1) (h : fourinhandref22_Push.f k l0 l1 = some (r1, r2)) :
    Calls Try.prog 18 #[.slice A0 l0.length c0, .slice A1 l1.length c1] w fun e w' => ∃ v0_ : Value, e = .returned (.tuple #[v0_, .bool r2]) ∧ Kd.S k29 29 w' w.heap.size (fun _ => True) v0_ r1 ∧ Below w.heap.size w w' := by
  have hu29 := Try.underlying29
  have HR0 := Aside0.mk hr0
  have HC0 := Aside0.mk hc0
  clear hr0 hc0
  have HR1 := Aside0.mk hr1
  have HC1 := Aside0.mk hc1
  clear hr1 hc1
  have HB := Aside0.mk (Below.refl w.heap.size w)
  have H : ((fourinhandref22_May.f k l0).bind fun t233 => (if t233 = true then (if (l0.length : Int) ≥ 64 then (fourinhandref22_Push.j0 k l0 l1 true) else (fourinhandref22_Push.j0 k l0 l1 (decide ((l1.length : Int) > 2000)))) else (fourinhandref22_Push.j0 k l0 l1 true))) = some (r1, r2) := h
  clear h
  replace H := Option.bind_eq_some_iff.mp H
  obtain ⟨t233, A30, H⟩ := H
  replace H : (if t233 = true then (if (l0.length : Int) ≥ 64 then (fourinhandref22_Push.j0 k l0 l1 true) else (fourinhandref22_Push.j0 k l0 l1 (decide ((l1.length : Int) > 2000)))) else (fourinhandref22_Push.j0 k l0 l1 true)) = some (r1, r2) := H
  have A3 := Aside0.mk A30
  clear A30
  have HC4 := Aside0.mk H
  clear H
  go_enter Try.func18, Try.ntmps18
  go_upto_region 2 with (first | ((with_reducible refine gate_callee (f := 25) rfl ?_); refine goesL_ (some 8) rfl rfl Try.func25 (by kernel_rfl) rfl #[.slice A0 l0.length c0] rfl (by (try simp only [List.map_toArray, List.map_cons, List.map_nil]); first | done | rfl | (simp only [List.length_drop, List.length_take]; rfl)) ?_; (with_reducible refine (fourinhandref22_May.calls k _ _ l0 t233 _ ?side1 ?side2 A3.out).mono ?_); (case side1 => repeat (first | exact HR0.out | (with_reducible refine Kd.C_alloc ?_ _) | (with_reducible refine Kd.C_drewN ?_ _) | (with_reducible refine Kd.C_drew ?_))); (case side2 => exact HC0.out); rintro e w' ⟨rfl, ⟨nd, rfl⟩⟩; refine ⟨_, rfl, ?_⟩))
  (try simp only [Act.put, List.setIfInBounds_toArray, List.set_cons_zero, List.set_cons_succ])
  go_cut [20] (fun v20 wc => ∃ (kq : Nat) (x20_3 : Bool), v20 = .bool x20_3 ∧ Aside0 (fourinhandref22_Push.j0 kq l0 l1 x20_3 = some (r1, r2)) ∧ Aside0 (kq ≤ k) ∧ Aside0 (Below w.heap.size w wc))
  case first =>
    have H := HC4.out
    clear HC4
    by_cases c5 : t233 = true
    · subst c5
      have H1 : (if (l0.length : Int) ≥ 64 then (fourinhandref22_Push.j0 k l0 l1 true) else (fourinhandref22_Push.j0 k l0 l1 (decide ((l1.length : Int) > 2000)))) = some (r1, r2) := by rw [if_pos rfl] at H; exact H
      clear H
      have H := H1
      clear H1
      by_cases c6 : (l0.length : Int) ≥ 64
      · rw [if_pos c6] at H
        have c6b0 : decide (64 ≤ (l0.length : Int)) = true := decide_eq_true c6
        have c6b1 : decide (64 ≤ l0.length) = true := decide_eq_true (by omega)
        clear c6
        (first | rw [c6b0] | (simp only [i64_w, i32_w]; rw [c6b0]) | skip)
        have H' := Aside0.mk H
        clear H
        go_wp2
        go_meet
        case rel => exact ⟨_, (true), (by first | rfl | (simp; done) | (simp [*]; done)), H', ⟨by first | omega | exact Nat.le_refl _⟩, ⟨by repeat (first | (with_reducible first | exact HB.out | apply below_alloc | apply pw_below_drewN | apply below_drew1) | exact HB.out)⟩⟩
      · rw [if_neg c6] at H
        have c6b0 : decide (64 ≤ (l0.length : Int)) = false := decide_eq_false c6
        have c6b1 : decide (64 ≤ l0.length) = false := decide_eq_false (by omega)
        clear c6
        (first | rw [c6b0] | (simp only [i64_w, i32_w]; rw [c6b0]) | skip)
        have H' := Aside0.mk H
        clear H
        go_wp2
        go_meet
        case rel => exact ⟨_, (decide ((l1.length : Int) > 2000)), (by first | rfl | (simp; done) | (simp [*]; done)), H', ⟨by first | omega | exact Nat.le_refl _⟩, ⟨by repeat (first | (with_reducible first | exact HB.out | apply below_alloc | apply pw_below_drewN | apply below_drew1) | exact HB.out)⟩⟩
    · replace c5 := Bool.eq_false_iff.mpr c5
      subst c5
      have H1 : (fourinhandref22_Push.j0 k l0 l1 true) = some (r1, r2) := by rw [if_neg (show ¬ (false = true) by decide)] at H; exact H
      clear H
      have H := H1
      clear H1
      have H' := Aside0.mk H
      clear H
      go_wp2
      go_meet
      case rel => exact ⟨_, (true), (by first | rfl | (simp; done) | (simp [*]; done)), H', ⟨by first | omega | exact Nat.le_refl _⟩, ⟨by repeat (first | (with_reducible first | exact HB.out | apply below_alloc | apply pw_below_drewN | apply below_drew1) | exact HB.out)⟩⟩
  case rest =>
    clear HC4
    try clear c1
    try clear c2
    try clear p2
    try clear c5
    try clear c6
    try clear c6b0
    try clear c6b1
    obtain ⟨kq, x20_3, rfl, HA, HJ3, HB⟩ := hcut
    cases kq with
    | zero => exact absurd HA.out (by simp [fourinhandref22_Push.j0])
    | succ kj3 =>
      have H := HA.out
      clear HA
      simp only [fourinhandref22_Push.j0] at H
      by_cases c7 : x20_3 = true
      · subst c7
        have H1 : ((fourinhandref22_Own.f kj3 l0).bind fun t234 => (some (t234, false))) = some (r1, r2) := by rw [if_pos rfl] at H; exact H
        clear H
        have H := H1
        clear H1
        replace H := Option.bind_eq_some_iff.mp H
        obtain ⟨t234, A80, H⟩ := H
        replace H : (some (t234, false)) = some (r1, r2) := H
        have A8 := Aside0.mk A80
        clear A80
        simp only [Option.some.injEq, Prod.mk.injEq] at H
        obtain ⟨rfl, rfl⟩ := H
        go_wp2_with (first | ((with_reducible refine gate_callee (f := 17) rfl ?_); refine goesL_ (some 22) rfl rfl Try.func17 (by kernel_rfl) rfl #[.slice A0 l0.length c0] rfl (by (try simp only [List.map_toArray, List.map_cons, List.map_nil]); first | done | rfl | (simp only [List.length_drop, List.length_take]; rfl)) ?_; (with_reducible refine (fourinhandref22_Own.calls kj3 _ _ l0 t234 _ ?side1 ?side2 A8.out).mono ?_); (case side1 => repeat (first | exact (Kd.C_below HR0.out HB.out) | (with_reducible refine Kd.C_alloc ?_ _) | (with_reducible refine Kd.C_drewN ?_ _) | (with_reducible refine Kd.C_drew ?_))); (case side2 => exact HC0.out); rintro e w9 ⟨v235, rfl, ho0, hb⟩; refine ⟨_, rfl, ?_⟩; have n0_ := Aside0.mk (Kd.S_lower ho0 (below_size (by repeat (first | (with_reducible first | exact HB.out | apply below_alloc | apply pw_below_drewN | apply below_drew1) | exact HB.out)))); have n1_ := Aside0.mk (below_step (by repeat (first | (with_reducible first | exact HB.out | apply below_alloc | apply pw_below_drewN | apply below_drew1) | exact HB.out)) hb); clear HB; have HO236 := n0_; have HB := n1_; clear n0_ n1_; (try clear hb); (try clear hb2); (try clear hk); (try clear hi); (try clear ho0)))
        go_ret2
        exact ⟨_, by first | rfl | (simp [errW_none, errW_some] <;> rfl) | (simp [*, errW_none, errW_some] <;> rfl), by (with_reducible repeat (first | apply Kd.S_alloc | apply Kd.S_drewN | apply Kd.S_drew)); exact HO236.out, by repeat (first | (with_reducible first | exact HB.out | apply below_alloc | apply pw_below_drewN | apply below_drew1) | exact HB.out)⟩
      · replace c7 := Bool.eq_false_iff.mpr c7
        subst c7
        have H1 : ((fourinhandref22_Own.f kj3 l0).bind fun t237 => (if ([] : List Int).length + l1.length < 140737488355328 then (if t237.length < 4398046511104 then (some ((t237 ++ [(⟨(([] : List Int) ++ l1), false⟩ : S29)]), true)) else (none)) else (none))) = some (r1, r2) := by rw [if_neg (show ¬ (false = true) by decide)] at H; exact H
        clear H
        have H := H1
        clear H1
        replace H := Option.bind_eq_some_iff.mp H
        obtain ⟨t237, A100, H⟩ := H
        replace H : (if ([] : List Int).length + l1.length < 140737488355328 then (if t237.length < 4398046511104 then (some ((t237 ++ [(⟨(([] : List Int) ++ l1), false⟩ : S29)]), true)) else (none)) else (none)) = some (r1, r2) := H
        have A10 := Aside0.mk A100
        clear A100
        by_cases c11 : ([] : List Int).length + l1.length < 140737488355328
        · rw [if_pos c11] at H
          have LMc11 := Aside0.mk c11
          clear c11
          obtain ⟨y240, hy240⟩ : ∃ y_ : List Int, y_ = (([] : List Int) ++ l1) := ⟨_, rfl⟩
          replace H : (if t237.length < 4398046511104 then (some ((t237 ++ [(⟨y240, false⟩ : S29)]), true)) else (none)) = some (r1, r2) := by first | (rw [hy240]; with_reducible exact H) | (have H2_ := (Option.bind_some _ _).symm.trans H; rw [hy240]; with_reducible exact H2_) | (have H2_ := (Option.bind_some _ _).symm.trans H; with_reducible exact H2_) | with_reducible exact H | (rw [hy240]; exact H) | exact H
          have Ny240 := Aside0.mk hy240
          clear hy240
          by_cases c12 : t237.length < 4398046511104
          · rw [if_pos c12] at H
            have LMc12 := Aside0.mk c12
            clear c12
            obtain ⟨y243, hy243⟩ : ∃ y_ : List (S29), y_ = (t237 ++ [(⟨y240, false⟩ : S29)]) := ⟨_, rfl⟩
            replace H : (some (y243, true)) = some (r1, r2) := by first | (rw [hy243]; with_reducible exact H) | (have H2_ := (Option.bind_some _ _).symm.trans H; rw [hy243]; with_reducible exact H2_) | (have H2_ := (Option.bind_some _ _).symm.trans H; with_reducible exact H2_) | with_reducible exact H | (rw [hy243]; exact H) | exact H
            have Ny243 := Aside0.mk hy243
            clear hy243
            simp only [Option.some.injEq, Prod.mk.injEq] at H
            obtain ⟨rfl, rfl⟩ := H
            go_wp2_with (first | ((with_reducible refine gate_callee (f := 17) rfl ?_); refine goesL_ (some 24) rfl rfl Try.func17 (by kernel_rfl) rfl #[.slice A0 l0.length c0] rfl (by (try simp only [List.map_toArray, List.map_cons, List.map_nil]); first | done | rfl | (simp only [List.length_drop, List.length_take]; rfl)) ?_; (with_reducible refine (fourinhandref22_Own.calls kj3 _ _ l0 t237 _ ?side1 ?side2 A10.out).mono ?_); (case side1 => repeat (first | exact (Kd.C_below HR0.out HB.out) | (with_reducible refine Kd.C_alloc ?_ _) | (with_reducible refine Kd.C_drewN ?_ _) | (with_reducible refine Kd.C_drew ?_))); (case side2 => exact HC0.out); rintro e w13 ⟨v238, rfl, ho0, hb⟩; refine ⟨_, rfl, ?_⟩; have n0_ := Aside0.mk (Kd.S_lower ho0 (below_size (by repeat (first | (with_reducible first | exact HB.out | apply below_alloc | apply pw_below_drewN | apply below_drew1) | exact HB.out)))); have n1_ := Aside0.mk (below_step (by repeat (first | (with_reducible first | exact HB.out | apply below_alloc | apply pw_below_drewN | apply below_drew1) | exact HB.out)) hb); clear HB; have HO239 := n0_; have HB := n1_; clear n0_ n1_; (try clear hb); (try clear hb2); (try clear hk); (try clear hi); (try clear ho0)) | ((with_reducible refine gate_builtin (b := .append) (xs := #[.const (.slice none 0 0), .tmp 25]) rfl ?_); (try (refine gate_guard (by rfl) ?_; dsimp only)); at_builtin; refine Kd.R_append_rows (Kd.int .u8) (w0 := w) w.heap.size rfl (.const (.slice none 0 0)) (.tmp 25) 23 5 (.int .u8 0) 1 rfl Try.underlying23 info5 rfl (by decide) (by omega) (.slice none 0 0) ([] : List Int) l1 _ _ _ (fun _ => True) (fun _ => False) rfl rfl ?aO ?aR (fun _ _ h => h) (fun _ h => h.elim) ?aF ?aB ?aS ?aL ?_; (case aR => repeat (first | exact (Kd.C_below HR1.out HB.out) | (with_reducible refine Kd.C_alloc ?_ _) | (with_reducible refine Kd.C_drewN ?_ _) | (with_reducible refine Kd.C_drew ?_))); (case aB => exact (by repeat (first | (with_reducible first | exact HB.out | apply below_alloc | apply pw_below_drewN | apply below_drew1) | exact HB.out))); (case aF => exact (fun _ _ => trivial)); (case aO => exact ((Kd.R_nil _ _ _ _ (fun _ => True)))); (case aS => exact (below_size (by repeat (first | (with_reducible first | exact HB.out | apply below_alloc | apply pw_below_drewN | apply below_drew1) | exact HB.out)))); (case aL => have := LMc11.out; omega); intro v241 w14 ho hb hg hat; rw [← Ny240.out] at ho; have n0_ := Aside0.mk (Kd.S_after (Kd.S_apart_nil (by (with_reducible repeat (first | apply Kd.S_alloc | apply Kd.S_drewN | apply Kd.S_drew)); exact HO239.out)) hg hat); have n1_ := Aside0.mk (hb); have n2_ := Aside0.mk (ho); clear HO239; clear HB; have HO239 := n0_; have HB := n1_; have HO242 := n2_; clear n0_ n1_ n2_; clear ho hb hg hat; obtain ⟨Ao15, co15, eo15⟩ := Kd.R_slice HO242.out; subst eo15) | ((with_reducible refine gate_builtin (b := .append) (xs := #[.tmp 24, .tmp 28]) rfl ?_); (try (refine gate_guard (by rfl) ?_; dsimp only)); at_builtin; refine Kd.S_append k29 (w0 := w) w.heap.size rfl (.tmp 24) (.tmp 28) 22 29 (.agg #[(.slice none 0 0), (.bool false)]) 32 rfl Try.underlying22 info29 rfl (by decide) (by omega) v238 t237 (⟨y240, false⟩ : S29) [.slice Ao15 y240.length co15, .bool false] (fun _ => True) (fun k_ => some k_ = (.slice Ao15 y240.length co15 : Value).ownBlock) rfl rfl ?aP (fun k_ hk_ => ((Kd.R_mono (ok' := fun k_ => ((fun _ => True)) k_ ∧ some k_ ≠ (v238 : Value).ownBlock) (Kd.R_apart' (HO242.out) (Kd.S_typed HO239.out) (by decide)) (fun k_ hk => ⟨trivial, hk.2⟩))).1 k_ hk_.symm) ?aF ?aO ?aB ?aS ?aL ?_; (case aP => exact k29_mkM _ _ _ (⟨y240, false⟩ : S29) (Kd.R_mono (Kd.R_tight rfl (Kd.R_mono (ok' := fun k_ => ((fun _ => True)) k_ ∧ some k_ ≠ (v238 : Value).ownBlock) (Kd.R_apart' (HO242.out) (Kd.S_typed HO239.out) (by decide)) (fun k_ hk => ⟨trivial, hk.2⟩))) (fun _ h_ => h_))); (case aB => exact (by repeat (first | (with_reducible first | exact HB.out | apply below_alloc | apply pw_below_drewN | apply below_drew1) | exact HB.out))); (case aF => exact (fun _ _ => trivial)); (case aO => exact (by (with_reducible repeat (first | apply Kd.S_alloc | apply Kd.S_drewN | apply Kd.S_drew)); exact Kd.S_mono HO239.out (fun k_ hk => ⟨trivial, fun e_ => hk.2 e_⟩))); (case aS => exact (below_size (by repeat (first | (with_reducible first | exact HB.out | apply below_alloc | apply pw_below_drewN | apply below_drew1) | exact HB.out)))); (case aL => have := LMc12.out; omega); intro v244 w16 ho hb hg hat; rw [← Ny243.out] at ho; have n0_ := Aside0.mk (hb); have n1_ := Aside0.mk (ho); clear HB; clear HO239; clear HO242; have HB := n0_; have HO245 := n1_; clear n0_ n1_; clear ho hb hg hat))
            go_ret2
            exact ⟨_, by first | rfl | (simp [errW_none, errW_some] <;> rfl) | (simp [*, errW_none, errW_some] <;> rfl), by (with_reducible repeat (first | apply Kd.S_alloc | apply Kd.S_drewN | apply Kd.S_drew)); exact HO245.out, by repeat (first | (with_reducible first | exact HB.out | apply below_alloc | apply pw_below_drewN | apply below_drew1) | exact HB.out)⟩
          · rw [if_neg c12] at H
            exact absurd H (by simp)
        · rw [if_neg c11] at H
          exact absurd H (by simp)

/-! ### fourinhandref22_has: function 33 -/
def fourinhandref22_has.f (k : Nat) (l0 : List (S29)) (a1 : Int) : Option (Bool) := (fourinhandref22_May.f k l0).bind fun t246 => (if t246 = true then (if a1 ≥ 0 then (some (decide (a1 < (l0.length : Int)))) else (some false)) else (some false))
theorem fourinhandref22_has.mono : ∀ a0 a1 k, LeO (fourinhandref22_has.f k a0 a1) (fourinhandref22_has.f (k + 1) a0 a1) := by
  intro a0 a1 k
  unfold fourinhandref22_has.f
  repeat' first
      | (with_reducible exact fourinhandref22_May.mono _ _)
      | (with_reducible exact LeO.refl _)
      | (with_reducible exact LeO.none _)
      | (with_reducible refine LeO.ite ?_ ?_)
      | (with_reducible refine LeO.bind ?_ (fun _ => ?_))
      | exact fourinhandref22_May.mono _ _
      | exact LeO.none _
      | refine LeO.ite ?_ ?_
      | refine LeO.bind ?_ (fun _ => ?_)
set_option maxHeartbeats 8000000 in
set_option maxRecDepth 100000 in
theorem fourinhandref22_has.calls (k : Nat) (A0 : Option Addr) (c0 : Nat) (l0 : List (S29)) (a1 : Int) (r : Bool) (w : World) (hr0 : Kd.C k29 w A0 l0.length l0) (hc0 : l0.length ≤ c0) (h : fourinhandref22_has.f k l0 a1 = some r) :
    Calls Try.prog 33 #[.slice A0 l0.length c0, .int .i64 a1] w fun e w' => e = .returned (.bool r) ∧ Drawn0 w w' := by
  have HR0 := Aside0.mk hr0
  have HC0 := Aside0.mk hc0
  clear hr0 hc0
  have H : ((fourinhandref22_May.f k l0).bind fun t246 => (if t246 = true then (if a1 ≥ 0 then (some (decide (a1 < (l0.length : Int)))) else (some false)) else (some false))) = some r := h
  clear h
  replace H := Option.bind_eq_some_iff.mp H
  obtain ⟨t246, A30, H⟩ := H
  replace H : (if t246 = true then (if a1 ≥ 0 then (some (decide (a1 < (l0.length : Int)))) else (some false)) else (some false)) = some r := H
  have A3 := Aside0.mk A30
  clear A30
  by_cases c4 : t246 = true
  · subst c4
    have H1 : (if a1 ≥ 0 then (some (decide (a1 < (l0.length : Int)))) else (some false)) = some r := by rw [if_pos rfl] at H; exact H
    clear H
    have H := H1
    clear H1
    by_cases c5 : a1 ≥ 0
    · rw [if_pos c5] at H
      have c5b0 : decide (0 ≤ a1) = true := decide_eq_true c5
      clear c5
      obtain rfl := Option.some.inj H
      go_enter Try.func33, Try.ntmps33
      go_wp2_with (first | ((with_reducible refine gate_callee (f := 25) rfl ?_); refine goesL_ (some 6) rfl rfl Try.func25 (by kernel_rfl) rfl #[.slice A0 l0.length c0] rfl (by (try simp only [List.map_toArray, List.map_cons, List.map_nil]); first | done | rfl | (simp only [List.length_drop, List.length_take]; rfl)) ?_; (with_reducible refine (fourinhandref22_May.calls k _ _ l0 true _ ?side1 ?side2 A3.out).mono ?_); (case side1 => repeat (first | exact HR0.out | (with_reducible refine Kd.C_alloc ?_ _) | (with_reducible refine Kd.C_drewN ?_ _) | (with_reducible refine Kd.C_drew ?_))); (case side2 => exact HC0.out); rintro e w' ⟨rfl, ⟨nd, rfl⟩⟩; refine ⟨_, rfl, ?_⟩))
      go_ret
      exact ⟨by first | rfl | (simp; done) | (simp [*]; done), by repeat (first | exact Drawn0.refl _ | apply Drawn0.step)⟩
    · rw [if_neg c5] at H
      have c5b0 : decide (0 ≤ a1) = false := decide_eq_false c5
      clear c5
      obtain rfl := Option.some.inj H
      go_enter Try.func33, Try.ntmps33
      go_wp2_with (first | ((with_reducible refine gate_callee (f := 25) rfl ?_); refine goesL_ (some 6) rfl rfl Try.func25 (by kernel_rfl) rfl #[.slice A0 l0.length c0] rfl (by (try simp only [List.map_toArray, List.map_cons, List.map_nil]); first | done | rfl | (simp only [List.length_drop, List.length_take]; rfl)) ?_; (with_reducible refine (fourinhandref22_May.calls k _ _ l0 true _ ?side1 ?side2 A3.out).mono ?_); (case side1 => repeat (first | exact HR0.out | (with_reducible refine Kd.C_alloc ?_ _) | (with_reducible refine Kd.C_drewN ?_ _) | (with_reducible refine Kd.C_drew ?_))); (case side2 => exact HC0.out); rintro e w' ⟨rfl, ⟨nd, rfl⟩⟩; refine ⟨_, rfl, ?_⟩))
      go_ret
      exact ⟨by first | rfl | (simp; done) | (simp [*]; done), by repeat (first | exact Drawn0.refl _ | apply Drawn0.step)⟩
  · replace c4 := Bool.eq_false_iff.mpr c4
    subst c4
    have H1 : (some false) = some r := by rw [if_neg (show ¬ (false = true) by decide)] at H; exact H
    clear H
    have H := H1
    clear H1
    obtain rfl := Option.some.inj H
    go_enter Try.func33, Try.ntmps33
    go_wp2_with (first | ((with_reducible refine gate_callee (f := 25) rfl ?_); refine goesL_ (some 6) rfl rfl Try.func25 (by kernel_rfl) rfl #[.slice A0 l0.length c0] rfl (by (try simp only [List.map_toArray, List.map_cons, List.map_nil]); first | done | rfl | (simp only [List.length_drop, List.length_take]; rfl)) ?_; (with_reducible refine (fourinhandref22_May.calls k _ _ l0 false _ ?side1 ?side2 A3.out).mono ?_); (case side1 => repeat (first | exact HR0.out | (with_reducible refine Kd.C_alloc ?_ _) | (with_reducible refine Kd.C_drewN ?_ _) | (with_reducible refine Kd.C_drew ?_))); (case side2 => exact HC0.out); rintro e w' ⟨rfl, ⟨nd, rfl⟩⟩; refine ⟨_, rfl, ?_⟩))
    go_ret
    exact ⟨by first | rfl | (simp; done) | (simp [*]; done), by repeat (first | exact Drawn0.refl _ | apply Drawn0.step)⟩

end Go.Proofs.Ytnfgcjeenjomgaa.S
