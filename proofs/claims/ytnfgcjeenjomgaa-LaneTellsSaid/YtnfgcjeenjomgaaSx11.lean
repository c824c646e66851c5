/- What the program's functions compute, as plain functions, and that they do: walks laid by a program of the session's. -/
import Derived.Test.YtnfgcjeenjomgaaSx0
import Derived.Test.YtnfgcjeenjomgaaSx6
import Derived.Test.YtnfgcjeenjomgaaSx8
namespace Go.Proofs.Ytnfgcjeenjomgaa.S
open Go.RowKit Go.Proofs.YtnfgcjeenjomgaaW.PrintWords Go.Proofs.YtnfgcjeenjomgaaW.PrintLast Go.Proofs.YtnfgcjeenjomgaaW.PrintMore
open Go.Proofs.Ytnfgcjeenjomgaa.Given
attribute [local go_sem] max2_int min2_int max_two min_two max_three min_three max_four min_four   -- for this text's walks alone
set_option linter.unusedVariables false
set_option linter.unusedSimpArgs false

-- GIVEN*: function 23 (lane_Spoil)

/-! ### fourinhandref22_Spoil: function 24 -/
def fourinhandref22_Spoil.f (k : Nat) (l0 : List (S29)) (a1 : Int) (a2 : Int) (a3 : Int) : Option ((List (S29)) × Bool) := (fourinhandref22_Own.f k l0).bind fun t276 => ((fourinhandref22_has.f k l0 a1).bind fun t279 => (if t279 = true then (if a2 < 0 then (some (t276, false)) else (if 0 ≤ a1 then (if a1 < (l0.length : Int) then (if a2 ≥ (((rd_T29 l0 a1).f0).length : Int) then (some (t276, false)) else (if a1 < (t276.length : Int) then (if 0 ≤ a2 then (if a2 < (((rd_T29 t276 a1).f0).length : Int) then (some ((t276.set (a1 : Int).toNat (⟨(((rd_T29 t276 a1).f0).set (a2 : Int).toNat (Go.bits .xor .u8 (rd ((rd_T29 t276 a1).f0) a2) a3)), (rd_T29 t276 a1).f1⟩ : S29)), true)) else (none)) else (none)) else (none))) else (none)) else (none))) else (some (t276, false))))
theorem fourinhandref22_Spoil.mono : ∀ a0 a1 a2 a3 k, LeO (fourinhandref22_Spoil.f k a0 a1 a2 a3) (fourinhandref22_Spoil.f (k + 1) a0 a1 a2 a3) := by
  intro a0 a1 a2 a3 k
  unfold fourinhandref22_Spoil.f
  repeat' first
      | (with_reducible exact fourinhandref22_Own.mono _ _)
      | (with_reducible exact fourinhandref22_has.mono _ _ _)
      | (with_reducible exact LeO.refl _)
      | (with_reducible exact LeO.none _)
      | (with_reducible refine LeO.ite ?_ ?_)
      | (with_reducible refine LeO.bind ?_ (fun _ => ?_))
      | exact fourinhandref22_Own.mono _ _
      | exact fourinhandref22_has.mono _ _ _
      | exact LeO.none _
      | refine LeO.ite ?_ ?_
      | refine LeO.bind ?_ (fun _ => ?_)
def fourinhandref22_Spoil.T4 : Bool × List (List Nat × List Nat) := (true, [([], []), ([], []), ([0, 1], [0, 1]), ([2], [2]), ([3], [3]), ([], []), ([], []), ([], []), ([6, 7], [6, 7]), ([8], [8]), ([9], [9]), ([], []), ([10, 11], [10, 11]), ([12], [12]), ([], []), ([13, 14], [13, 14]), ([4, 5, 0, 1, 2, 3, 4, 5, 6, 7, 8, 9, 10, 11, 12, 13, 14, 15], [4, 5]), ([16, 15, 0, 1, 2, 3, 4, 5, 6, 7, 8, 9, 10, 11, 12, 13, 14, 15], [15, 16])])
def fourinhandref22_Spoil.B4 : List Nat := [0, 0, 3, 7, 15, 0, 0, 0, 192, 448, 960, 0, 4032, 8128, 0, 32704, 65535, 131071]
theorem fourinhandref22_Spoil.tab4 : rtab .any (opsOf Try.f24 4) = fourinhandref22_Spoil.T4 := by kernel_rfl
theorem fourinhandref22_Spoil.bits4 : waitsOk fourinhandref22_Spoil.T4.2 fourinhandref22_Spoil.B4 = true := by kernel_rfl
set_option maxHeartbeats 8000000 in
set_option maxRecDepth 100000 in
theorem fourinhandref22_Spoil.calls (k : Nat) (A0 : Option Addr) (c0 : Nat) (l0 : List (S29)) (a1 : Int) (a2 : Int) (a3 : Int) (r1 : List (S29)) (r2 : Bool) (w : World) (hr0 : Kd.C k29 w A0 l0.length l0) (hc0 : l0.length ≤ c0) (h : fourinhandref22_Spoil.f k l0 a1 a2 a3 = some (r1, r2)) :
    Calls Try.prog 24 #[.slice A0 l0.length c0, .int .i64 a1, .int .i64 a2, .int .u8 a3] w fun e w' => ∃ v0_ : Value, e = .returned (.tuple #[v0_, .bool r2]) ∧ Kd.S k29 29 w' w.heap.size (fun _ => True) v0_ r1 ∧ Below w.heap.size w w' := by
  have HR0 := Aside0.mk hr0
  have HC0 := Aside0.mk hc0
  clear hr0 hc0
  have HB := Aside0.mk (Below.refl w.heap.size w)
  have H : ((fourinhandref22_Own.f k l0).bind fun t276 => ((fourinhandref22_has.f k l0 a1).bind fun t279 => (if t279 = true then (if a2 < 0 then (some (t276, false)) else (if 0 ≤ a1 then (if a1 < (l0.length : Int) then (if a2 ≥ (((rd_T29 l0 a1).f0).length : Int) then (some (t276, false)) else (if a1 < (t276.length : Int) then (if 0 ≤ a2 then (if a2 < (((rd_T29 t276 a1).f0).length : Int) then (some ((t276.set (a1 : Int).toNat (⟨(((rd_T29 t276 a1).f0).set (a2 : Int).toNat (Go.bits .xor .u8 (rd ((rd_T29 t276 a1).f0) a2) a3)), (rd_T29 t276 a1).f1⟩ : S29)), true)) else (none)) else (none)) else (none))) else (none)) else (none))) else (some (t276, false))))) = some (r1, r2) := h
  clear h
  replace H := Option.bind_eq_some_iff.mp H
  obtain ⟨t276, A50, H⟩ := H
  replace H : ((fourinhandref22_has.f k l0 a1).bind fun t279 => (if t279 = true then (if a2 < 0 then (some (t276, false)) else (if 0 ≤ a1 then (if a1 < (l0.length : Int) then (if a2 ≥ (((rd_T29 l0 a1).f0).length : Int) then (some (t276, false)) else (if a1 < (t276.length : Int) then (if 0 ≤ a2 then (if a2 < (((rd_T29 t276 a1).f0).length : Int) then (some ((t276.set (a1 : Int).toNat (⟨(((rd_T29 t276 a1).f0).set (a2 : Int).toNat (Go.bits .xor .u8 (rd ((rd_T29 t276 a1).f0) a2) a3)), (rd_T29 t276 a1).f1⟩ : S29)), true)) else (none)) else (none)) else (none))) else (none)) else (none))) else (some (t276, false)))) = some (r1, r2) := H
  have A5 := Aside0.mk A50
  clear A50
  replace H := Option.bind_eq_some_iff.mp H
  obtain ⟨t279, A60, H⟩ := H
  replace H : (if t279 = true then (if a2 < 0 then (some (t276, false)) else (if 0 ≤ a1 then (if a1 < (l0.length : Int) then (if a2 ≥ (((rd_T29 l0 a1).f0).length : Int) then (some (t276, false)) else (if a1 < (t276.length : Int) then (if 0 ≤ a2 then (if a2 < (((rd_T29 t276 a1).f0).length : Int) then (some ((t276.set (a1 : Int).toNat (⟨(((rd_T29 t276 a1).f0).set (a2 : Int).toNat (Go.bits .xor .u8 (rd ((rd_T29 t276 a1).f0) a2) a3)), (rd_T29 t276 a1).f1⟩ : S29)), true)) else (none)) else (none)) else (none))) else (none)) else (none))) else (some (t276, false))) = some (r1, r2) := H
  have A6 := Aside0.mk A60
  clear A60
  by_cases c7 : t279 = true
  · subst c7
    have H1 : (if a2 < 0 then (some (t276, false)) else (if 0 ≤ a1 then (if a1 < (l0.length : Int) then (if a2 ≥ (((rd_T29 l0 a1).f0).length : Int) then (some (t276, false)) else (if a1 < (t276.length : Int) then (if 0 ≤ a2 then (if a2 < (((rd_T29 t276 a1).f0).length : Int) then (some ((t276.set (a1 : Int).toNat (⟨(((rd_T29 t276 a1).f0).set (a2 : Int).toNat (Go.bits .xor .u8 (rd ((rd_T29 t276 a1).f0) a2) a3)), (rd_T29 t276 a1).f1⟩ : S29)), true)) else (none)) else (none)) else (none))) else (none)) else (none))) = some (r1, r2) := by rw [if_pos rfl] at H; exact H
    clear H
    have H := H1
    clear H1
    by_cases c8 : a2 < 0
    · rw [if_pos c8] at H
      have c8b0 : decide (a2 < 0) = true := decide_eq_true c8
      clear c8
      simp only [Option.some.injEq, Prod.mk.injEq] at H
      obtain ⟨rfl, rfl⟩ := H
      go_enter Try.func24, Try.ntmps24
      go_wp2_with (first | ((with_reducible refine gate_callee (f := 17) rfl ?_); refine goesL_ (some 12) rfl rfl Try.func17 (by kernel_rfl) rfl #[.slice A0 l0.length c0] rfl (by (try simp only [List.map_toArray, List.map_cons, List.map_nil]); first | done | rfl | (simp only [List.length_drop, List.length_take]; rfl)) ?_; (with_reducible refine (fourinhandref22_Own.calls k _ _ l0 t276 _ ?side1 ?side2 A5.out).mono ?_); (case side1 => repeat (first | exact HR0.out | (with_reducible refine Kd.C_alloc ?_ _) | (with_reducible refine Kd.C_drewN ?_ _) | (with_reducible refine Kd.C_drew ?_))); (case side2 => exact HC0.out); rintro e w9 ⟨v277, rfl, ho0, hb⟩; refine ⟨_, rfl, ?_⟩; have n0_ := Aside0.mk (Kd.S_lower ho0 (below_size (by repeat (first | (with_reducible first | exact HB.out | apply below_alloc | apply pw_below_drewN | apply below_drew1) | exact HB.out)))); have n1_ := Aside0.mk (below_step (by repeat (first | (with_reducible first | exact HB.out | apply below_alloc | apply pw_below_drewN | apply below_drew1) | exact HB.out)) hb); clear HB; have HO278 := n0_; have HB := n1_; clear n0_ n1_; (try clear hb); (try clear hb2); (try clear hk); (try clear hi); (try clear ho0)) | ((with_reducible refine gate_callee (f := 33) rfl ?_); refine goesL_ (some 15) rfl rfl Try.func33 (by kernel_rfl) rfl #[.slice A0 l0.length c0, .int .i64 a1] rfl (by (try simp only [List.map_toArray, List.map_cons, List.map_nil]); first | done | rfl | (simp only [List.length_drop, List.length_take]; rfl)) ?_; (with_reducible refine (fourinhandref22_has.calls k _ _ l0 a1 true _ ?side1 ?side2 A6.out).mono ?_); (case side1 => repeat (first | exact (Kd.C_below HR0.out HB.out) | (with_reducible refine Kd.C_alloc ?_ _) | (with_reducible refine Kd.C_drewN ?_ _) | (with_reducible refine Kd.C_drew ?_))); (case side2 => exact HC0.out); rintro e w' ⟨rfl, ⟨nd, rfl⟩⟩; refine ⟨_, rfl, ?_⟩))
      go_ret2
      exact ⟨_, by first | rfl | (simp [errW_none, errW_some] <;> rfl) | (simp [*, errW_none, errW_some] <;> rfl), by (with_reducible repeat (first | apply Kd.S_alloc | apply Kd.S_drewN | apply Kd.S_drew)); exact HO278.out, by repeat (first | (with_reducible first | exact HB.out | apply below_alloc | apply pw_below_drewN | apply below_drew1) | exact HB.out)⟩
    · rw [if_neg c8] at H
      have c8b0 : decide (a2 < 0) = false := decide_eq_false c8
      clear c8
      by_cases c10 : 0 ≤ a1
      · rw [if_pos c10] at H
        have c10b0 : decide (0 ≤ a1) = true := decide_eq_true c10
        clear c10
        by_cases c11 : a1 < (l0.length : Int)
        · rw [if_pos c11] at H
          have c11b0 : decide (a1 < (l0.length : Int)) = true := decide_eq_true c11
          clear c11
          by_cases c12 : a2 ≥ (((rd_T29 l0 a1).f0).length : Int)
          · rw [if_pos c12] at H
            have c12b0 : decide ((((rd_T29 l0 a1).f0).length : Int) ≤ a2) = true := decide_eq_true c12
            clear c12
            simp only [Option.some.injEq, Prod.mk.injEq] at H
            obtain ⟨rfl, rfl⟩ := H
            go_enter Try.func24, Try.ntmps24
            go_wp2_with (first | ((with_reducible refine gate_callee (f := 17) rfl ?_); refine goesL_ (some 12) rfl rfl Try.func17 (by kernel_rfl) rfl #[.slice A0 l0.length c0] rfl (by (try simp only [List.map_toArray, List.map_cons, List.map_nil]); first | done | rfl | (simp only [List.length_drop, List.length_take]; rfl)) ?_; (with_reducible refine (fourinhandref22_Own.calls k _ _ l0 t276 _ ?side1 ?side2 A5.out).mono ?_); (case side1 => repeat (first | exact HR0.out | (with_reducible refine Kd.C_alloc ?_ _) | (with_reducible refine Kd.C_drewN ?_ _) | (with_reducible refine Kd.C_drew ?_))); (case side2 => exact HC0.out); rintro e w13 ⟨v277, rfl, ho0, hb⟩; refine ⟨_, rfl, ?_⟩; have n0_ := Aside0.mk (Kd.S_lower ho0 (below_size (by repeat (first | (with_reducible first | exact HB.out | apply below_alloc | apply pw_below_drewN | apply below_drew1) | exact HB.out)))); have n1_ := Aside0.mk (below_step (by repeat (first | (with_reducible first | exact HB.out | apply below_alloc | apply pw_below_drewN | apply below_drew1) | exact HB.out)) hb); clear HB; have HO278 := n0_; have HB := n1_; clear n0_ n1_; (try clear hb); (try clear hb2); (try clear hk); (try clear hi); (try clear ho0)) | ((with_reducible refine gate_callee (f := 33) rfl ?_); refine goesL_ (some 15) rfl rfl Try.func33 (by kernel_rfl) rfl #[.slice A0 l0.length c0, .int .i64 a1] rfl (by (try simp only [List.map_toArray, List.map_cons, List.map_nil]); first | done | rfl | (simp only [List.length_drop, List.length_take]; rfl)) ?_; (with_reducible refine (fourinhandref22_has.calls k _ _ l0 a1 true _ ?side1 ?side2 A6.out).mono ?_); (case side1 => repeat (first | exact (Kd.C_below HR0.out HB.out) | (with_reducible refine Kd.C_alloc ?_ _) | (with_reducible refine Kd.C_drewN ?_ _) | (with_reducible refine Kd.C_drew ?_))); (case side2 => exact HC0.out); rintro e w' ⟨rfl, ⟨nd, rfl⟩⟩; refine ⟨_, rfl, ?_⟩; have p280 : 0 ≤ (a1 : Int) := of_decide_eq_true (by first | (with_reducible assumption) | assumption); have q280 : a1 < (l0.length : Int) := of_decide_eq_true (by first | (with_reducible assumption) | assumption); obtain ⟨ad280, A280_0, c280_0, e280, hx280_0, hx280_1, hl280_0, hi280_0⟩ := at_T29 HR0.out a1 p280 q280; cases e280; replace hx280_0 := (HB.out.cell (World.block_lt_of_cell? w _ hx280_0)).trans hx280_0; replace hx280_1 := (HB.out.cell (World.block_lt_of_cell? w _ hx280_1)).trans hx280_1; have HR280_0 := Aside0.mk hi280_0; have HC280_0 := Aside0.mk hl280_0; clear hi280_0 hl280_0; replace p280 := eq_true p280; replace q280 := eq_true q280))
            go_ret2
            exact ⟨_, by first | rfl | (simp [errW_none, errW_some] <;> rfl) | (simp [*, errW_none, errW_some] <;> rfl), by (with_reducible repeat (first | apply Kd.S_alloc | apply Kd.S_drewN | apply Kd.S_drew)); exact HO278.out, by repeat (first | (with_reducible first | exact HB.out | apply below_alloc | apply pw_below_drewN | apply below_drew1) | exact HB.out)⟩
          · rw [if_neg c12] at H
            have c12b0 : decide ((((rd_T29 l0 a1).f0).length : Int) ≤ a2) = false := decide_eq_false c12
            clear c12
            by_cases c14 : a1 < (t276.length : Int)
            · rw [if_pos c14] at H
              have c14b0 : decide (a1 < (t276.length : Int)) = true := decide_eq_true c14
              clear c14
              by_cases c15 : 0 ≤ a2
              · rw [if_pos c15] at H
                have c15b0 : decide (0 ≤ a2) = true := decide_eq_true c15
                clear c15
                by_cases c16 : a2 < (((rd_T29 t276 a1).f0).length : Int)
                · rw [if_pos c16] at H
                  have c16b0 : decide (a2 < (((rd_T29 t276 a1).f0).length : Int)) = true := decide_eq_true c16
                  clear c16
                  obtain ⟨y284, hy284⟩ : ∃ y_ : List Int, y_ = (((rd_T29 t276 a1).f0).set (a2 : Int).toNat (Go.bits .xor .u8 (rd ((rd_T29 t276 a1).f0) a2) a3)) := ⟨_, rfl⟩
                  replace H : (some ((t276.set (a1 : Int).toNat (⟨y284, (rd_T29 t276 a1).f1⟩ : S29)), true)) = some (r1, r2) := by first | (rw [hy284]; with_reducible exact H) | (have H2_ := (Option.bind_some _ _).symm.trans H; rw [hy284]; with_reducible exact H2_) | (have H2_ := (Option.bind_some _ _).symm.trans H; with_reducible exact H2_) | with_reducible exact H | (rw [hy284]; exact H) | exact H
                  have Ny284 := Aside0.mk hy284
                  clear hy284
                  obtain ⟨y286, hy286⟩ : ∃ y_ : List (S29), y_ = (t276.set (a1 : Int).toNat (⟨y284, (rd_T29 t276 a1).f1⟩ : S29)) := ⟨_, rfl⟩
                  replace H : (some (y286, true)) = some (r1, r2) := by first | (rw [hy286]; with_reducible exact H) | (have H2_ := (Option.bind_some _ _).symm.trans H; rw [hy286]; with_reducible exact H2_) | (have H2_ := (Option.bind_some _ _).symm.trans H; with_reducible exact H2_) | with_reducible exact H | (rw [hy286]; exact H) | exact H
                  have Ny286 := Aside0.mk hy286
                  clear hy286
                  simp only [Option.some.injEq, Prod.mk.injEq] at H
                  obtain ⟨rfl, rfl⟩ := H
                  go_enter Try.func24, Try.ntmps24
                  try go_wp2_with (first | ((with_reducible refine gate_callee (f := 17) rfl ?_); refine goesL_ (some 12) rfl rfl Try.func17 (by kernel_rfl) rfl #[.slice A0 l0.length c0] rfl (by (try simp only [List.map_toArray, List.map_cons, List.map_nil]); first | done | rfl | (simp only [List.length_drop, List.length_take]; rfl)) ?_; (with_reducible refine (fourinhandref22_Own.calls k _ _ l0 t276 _ ?side1 ?side2 A5.out).mono ?_); (case side1 => repeat (first | exact HR0.out | (with_reducible refine Kd.C_alloc ?_ _) | (with_reducible refine Kd.C_drewN ?_ _) | (with_reducible refine Kd.C_drew ?_))); (case side2 => exact HC0.out); rintro e w18 ⟨v277, rfl, ho0, hb⟩; refine ⟨_, rfl, ?_⟩; have n0_ := Aside0.mk (Kd.S_lower ho0 (below_size (by repeat (first | (with_reducible first | exact HB.out | apply below_alloc | apply pw_below_drewN | apply below_drew1) | exact HB.out)))); have n1_ := Aside0.mk (below_step (by repeat (first | (with_reducible first | exact HB.out | apply below_alloc | apply pw_below_drewN | apply below_drew1) | exact HB.out)) hb); clear HB; have HO278 := n0_; have HB := n1_; clear n0_ n1_; (try clear hb); (try clear hb2); (try clear hk); (try clear hi); (try clear ho0)) | ((with_reducible refine gate_callee (f := 33) rfl ?_); refine goesL_ (some 15) rfl rfl Try.func33 (by kernel_rfl) rfl #[.slice A0 l0.length c0, .int .i64 a1] rfl (by (try simp only [List.map_toArray, List.map_cons, List.map_nil]); first | done | rfl | (simp only [List.length_drop, List.length_take]; rfl)) ?_; (with_reducible refine (fourinhandref22_has.calls k _ _ l0 a1 true _ ?side1 ?side2 A6.out).mono ?_); (case side1 => repeat (first | exact (Kd.C_below HR0.out HB.out) | (with_reducible refine Kd.C_alloc ?_ _) | (with_reducible refine Kd.C_drewN ?_ _) | (with_reducible refine Kd.C_drew ?_))); (case side2 => exact HC0.out); rintro e w' ⟨rfl, ⟨nd, rfl⟩⟩; refine ⟨_, rfl, ?_⟩; (try (rw [drewN_self w18]; generalize hq_ : World.drewN w18 _ = w18; have n0_ : Aside0 (Kd.S k29 29 w18 w.heap.size (fun _ => True) v277 t276) := ⟨by rw [← hq_]; exact (by (with_reducible repeat (first | apply Kd.S_alloc | apply Kd.S_drewN | apply Kd.S_drew)); exact HO278.out)⟩; have n1_ : Aside0 (Below w.heap.size w w18) := ⟨by rw [← hq_]; exact (by repeat (first | (with_reducible first | exact HB.out | apply below_alloc | apply pw_below_drewN | apply below_drew1) | exact HB.out))⟩; clear HO278 HB hq_; have HO278 := n0_; have HB := n1_; clear n0_ n1_)); have p280 : 0 ≤ (a1 : Int) := of_decide_eq_true (by first | (with_reducible assumption) | assumption); have q280 : a1 < (l0.length : Int) := of_decide_eq_true (by first | (with_reducible assumption) | assumption); obtain ⟨ad280, A280_0, c280_0, e280, hx280_0, hx280_1, hl280_0, hi280_0⟩ := at_T29 HR0.out a1 p280 q280; cases e280; replace hx280_0 := (HB.out.cell (World.block_lt_of_cell? w _ hx280_0)).trans hx280_0; replace hx280_1 := (HB.out.cell (World.block_lt_of_cell? w _ hx280_1)).trans hx280_1; have HR280_0 := Aside0.mk hi280_0; have HC280_0 := Aside0.mk hl280_0; clear hi280_0 hl280_0; replace p280 := eq_true p280; replace q280 := eq_true q280))
                  have n0_ := Aside0.mk (Kd.S_drew HO278.out)
                  have n1_ := Aside0.mk (below_drew1 HB.out)
                  clear HO278
                  clear HB
                  have HO278 := n0_
                  have HB := n1_
                  clear n0_ n1_
                  obtain ⟨Ao20, co20, eo20⟩ := Kd.S_slice HO278.out
                  (first | subst eo20 | (injection eo20 with f1_ f2_ f3_; have f4_ := f1_.symm; have f5_ := f3_.symm; clear f1_ f2_ f3_; subst f4_; subst f5_))
                  have p281 : 0 ≤ (a1 : Int) := of_decide_eq_true (by first | (with_reducible assumption) | assumption)
                  have q281 : a1 < (t276.length : Int) := of_decide_eq_true (by first | (with_reducible assumption) | assumption)
                  obtain ⟨ad281, A281_0, c281_0, e281, hx281_0, hx281_1, hl281_0, hi281_0⟩ := at_T29 (Kd.S_reads' HO278.out).2.2 a1 p281 q281
                  cases e281
                  obtain ⟨ce281, hce281, hMe281, hcc281⟩ := Kd.S_get HO278.out z29 a1 p281 (by first | exact q281 | exact of_decide_eq_true (by first | (with_reducible assumption) | assumption) | (have e_ := (Kd.S_reads' HO278.out).1; omega))
                  obtain ⟨ve281_0, rfl, ge281_0⟩ := k29_openM hMe281
                  have hv281_0 := hcc281 0 _ rfl
                  rw [Nat.add_zero] at hv281_0
                  replace hv281_0 := Option.some.inj (hv281_0.symm.trans hx281_0)
                  rw [hv281_0] at ge281_0
                  have HL281_0 := Aside0.mk (show Kd.R (Kd.int .u8) 5 _ _ _ _ ((rd_T29 t276 a1).f0) from ge281_0)
                  clear hv281_0 ge281_0
                  have HX281_0 := Aside0.mk hx281_0
                  clear hcc281 hce281
                  have HR281_0 := Aside0.mk hi281_0
                  have HC281_0 := Aside0.mk hl281_0
                  clear hi281_0 hl281_0
                  replace p281 := eq_true p281
                  replace q281 := eq_true q281
                  have p282 : 0 ≤ (a1 : Int) := of_decide_eq_true (by first | (with_reducible assumption) | assumption)
                  have q282 : a1 < (t276.length : Int) := of_decide_eq_true (by first | (with_reducible assumption) | assumption)
                  obtain ⟨ad282, A282_0, c282_0, e282, hx282_0, hx282_1, hl282_0, hi282_0⟩ := at_T29 (Kd.S_reads' HO278.out).2.2 a1 p282 q282
                  obtain rfl : ad281 = ad282 := (by injection e282)
                  obtain ⟨ce282, hce282, hMe282, hcc282⟩ := Kd.S_get HO278.out z29 a1 p282 (by first | exact q282 | exact of_decide_eq_true (by first | (with_reducible assumption) | assumption) | (have e_ := (Kd.S_reads' HO278.out).1; omega))
                  obtain ⟨ve282_0, rfl, ge282_0⟩ := k29_openM hMe282
                  have hv282_0 := hcc282 0 _ rfl
                  rw [Nat.add_zero] at hv282_0
                  replace hv282_0 := Option.some.inj (hv282_0.symm.trans hx282_0)
                  rw [hv282_0] at ge282_0
                  have HL282_0 := Aside0.mk (show Kd.R (Kd.int .u8) 5 _ _ _ _ ((rd_T29 t276 a1).f0) from ge282_0)
                  clear hv282_0 ge282_0
                  have HX282_0 := Aside0.mk hx282_0
                  clear hcc282 hce282
                  have HR282_0 := Aside0.mk hi282_0
                  have HC282_0 := Aside0.mk hl282_0
                  clear hi282_0 hl282_0
                  replace p282 := eq_true p282
                  replace q282 := eq_true q282
                  have ea_ := Option.some.inj (hx281_0.symm.trans hx282_0)
                  injection ea_ with ea_ en_ ec_
                  subst ea_
                  subst ec_
                  clear en_
                  have p283 : 0 ≤ (a2 : Int) := of_decide_eq_true (by first | (with_reducible assumption) | assumption)
                  have q283 : a2 < (((rd_T29 t276 a1).f0).length : Int) := of_decide_eq_true (by first | (with_reducible assumption) | assumption)
                  obtain ⟨ad283, e283, hx283_0⟩ := Kd.at_int (by repeat (first | (with_reducible exact HR282_0.out) | (with_reducible refine Kd.C_alloc ?_ _) | (with_reducible refine Kd.C_drewN ?_ _) | (with_reducible refine Kd.C_drew ?_) | exact HR282_0.out)) a2 p283 q283
                  cases e283
                  replace p283 := eq_true p283
                  replace q283 := eq_true q283
                  have p17 : 0 ≤ (a2 : Int) := of_decide_eq_true (by first | (with_reducible assumption) | assumption)
                  have q17 : (a2 : Int) < ((((rd_T29 t276 a1).f0).length : Int) : Int) := of_decide_eq_true (by first | (with_reducible assumption) | assumption)
                  obtain ⟨go17, co17, eo17, gb17, gl17, cl17, HG17⟩ := Kd.R_form HL281_0.out (by omega)
                  (first | cases eo17 | (injection eo17 with ea_ en_ ec_; (first | subst ea_ | (injection ea_ with ea_; subst ea_)); subst ec_; clear en_))
                  have GB17 := Aside0.mk gb17
                  have GG17 := Aside0.mk HG17
                  clear gb17 gl17 HG17
                  (first | simp only [add_plain] at hx283_0 | skip)
                  obtain ⟨hx17_0, hf17_0⟩ := Kd.R_celln 0 HL281_0.out (a2 : Int) p17 q17
                  replace p17 := eq_true p17
                  replace q17 := eq_true q17
                  have hq21 : (a1 : Int) < (t276.length : Int) := (by have h_ : (a1 : Int) < ((t276.length : Int) : Int) := of_decide_eq_true (by first | (with_reducible assumption) | assumption); first | exact h_ | (have e_ := (Kd.S_reads' HO278.out).1; omega) | simpa only [List.length_set, List.length_set] using h_)
                  obtain ⟨oki21, ce21, hcl21, hM21, hcc21, hok21, hbk21⟩ := Kd.S_borrow HO278.out z29 (a1 : Int) (of_decide_eq_true (by first | (with_reducible assumption) | assumption)) hq21
                  obtain ⟨ve21_0, rfl, ge21_0⟩ := k29_openM hM21
                  have hv21 := hcc21 0 _ rfl
                  rw [Nat.add_zero] at hv21
                  replace hv21 := Option.some.inj (hv21.symm.trans HX281_0.out)
                  subst hv21
                  clear hcc21 hcl21
                  replace ge21_0 := (show Kd.R (Kd.int .u8) 5 _ _ _ _ ((rd_T29 t276 a1).f0) from ge21_0)
                  have HP21 := Kd.R_putg ge21_0 (a2 : Int) (Go.bits .xor .u8 (rd ((rd_T29 t276 a1).f0) a2) a3)
                  rw [← Ny284.out] at HP21
                  have HS21 := hbk21 HP21.2 (fun k_ e_ => by injection e_ with e_; subst e_; exact ge21_0.1 _ rfl) (x' := (⟨y284, (rd_T29 t276 a1).f1⟩ : S29)) (k29_mkM _ _ _ (⟨y284, (rd_T29 t276 a1).f1⟩ : S29) HP21.1)
                  rw [← Ny286.out] at HS21
                  have HQ21 := Aside0.mk HS21
                  clear HP21 HS21 hbk21 hok21
                  refine start_ (n := 18) (S := fun w' => w'.cell? (ad281.add ((a1).toNat * 2)) = some (.slice (some ⟨go17, 0, none⟩) ((rd_T29 t276 a1).f0).length c281_0) ∧ w'.cell? ⟨(ad281.add ((a1).toNat * 2)).block, (ad281.add ((a1).toNat * 2)).off + 1, none⟩ = some (.bool ((rd_T29 t276 a1).f1)) ∧ w'.cell? (ad281.add ((a1).toNat * 2)) = some (.slice (some ⟨go17, 0, none⟩) ((rd_T29 t276 a1).f0).length c281_0) ∧ w'.cell? ⟨(ad281.add ((a1).toNat * 2)).block, (ad281.add ((a1).toNat * 2)).off + 1, none⟩ = some (.bool ((rd_T29 t276 a1).f1)) ∧ w'.cell? ⟨go17, (a2).toNat, none⟩ = some (.int .u8 (rd ((rd_T29 t276 a1).f0) a2))) (ds := [17]) #[false, false, false, false, false, false, false, false, false, false, false, false, false, false, false, false, false, false] (by kernel_rfl) rfl rfl ⟨hx281_0, hx281_1, hx282_0, hx282_1, hx283_0⟩ (fun hHeld => ?_); refine with_tabW fourinhandref22_Spoil.tab4 fourinhandref22_Spoil.bits4 (fun HT_ HW_ => ?_)
                  generalize w18.drew = w19 at HO278 HB GG17 HL281_0 HL282_0 HQ21 HR281_0 HR282_0 HX281_0 HX282_0 hf17_0 hx17_0 hx281_0 hx281_1 hx282_0 hx282_1 hx283_0 hHeld ⊢
                  refine pure_ (i := 0) (N := some 32) (v := ?_) (a' := ?_) #[true, false, false, false, false, false, false, false, false, false, false, false, false, false, false, false, false, false] rfl rfl (any_of HT_.out (by kernel_rfl)) (fun _ _ _ h => h) (Or.inl ⟨by rfl, ?_⟩) ?_ ?_
                  rotate_left
                  · intro w'
                    go_simp
                    with_reducible rfl
                  rotate_left
                  · simp only [Act.put, List.setIfInBounds_toArray, List.set_cons_zero, List.set_cons_succ, i64_w, i32_w]
                    rfl
                  refine pure_ (i := 1) (N := some 33) (v := ?_) (a' := ?_) #[true, true, false, false, false, false, false, false, false, false, false, false, false, false, false, false, false, false] rfl rfl (any_of HT_.out (by kernel_rfl)) (fun _ _ _ h => h) (Or.inl ⟨by rfl, ?_⟩) ?_ ?_
                  rotate_left
                  · intro w'
                    go_simp
                    with_reducible rfl
                  rotate_left
                  · simp only [Act.put, List.setIfInBounds_toArray, List.set_cons_zero, List.set_cons_succ, i64_w, i32_w]
                    rfl
                  refine pure_ (i := 2) (N := some 34) (v := ?_) (a' := ?_) #[true, true, true, false, false, false, false, false, false, false, false, false, false, false, false, false, false, false] rfl rfl (any_of HT_.out (by kernel_rfl)) (fun _ _ _ h => h) (Or.inl ⟨by rfl, ?_⟩) ?_ ?_
                  rotate_left
                  · intro w'
                    go_simp
                    with_reducible rfl
                  rotate_left
                  · simp only [Act.put, List.setIfInBounds_toArray, List.set_cons_zero, List.set_cons_succ, i64_w, i32_w]
                    rfl
                  refine pure_ (i := 3) (N := some 35) (v := ?_) (a' := ?_) #[true, true, true, true, false, false, false, false, false, false, false, false, false, false, false, false, false, false] rfl rfl (any_of HT_.out (by kernel_rfl)) (fun _ _ _ h => h) (Or.inl ⟨by rfl, ?_⟩) ?_ ?_
                  rotate_left
                  · intro w'
                    go_simp
                    with_reducible rfl
                  rotate_left
                  · simp only [Act.put, List.setIfInBounds_toArray, List.set_cons_zero, List.set_cons_succ, i64_w, i32_w]
                    rfl
                  refine pure_ (i := 5) (N := some 37) (v := ?_) (a' := ?_) #[true, true, true, true, false, true, false, false, false, false, false, false, false, false, false, false, false, false] rfl rfl (any_of HT_.out (by kernel_rfl)) (fun _ _ _ h => h) (Or.inl ⟨by rfl, ?_⟩) ?_ ?_
                  rotate_left
                  · intro w'
                    go_simp
                    with_reducible rfl
                  rotate_left
                  · simp only [Act.put, List.setIfInBounds_toArray, List.set_cons_zero, List.set_cons_succ, i64_w, i32_w]
                    rfl
                  refine pure_ (i := 6) (N := some 38) (v := ?_) (a' := ?_) #[true, true, true, true, false, true, true, false, false, false, false, false, false, false, false, false, false, false] rfl rfl (any_of HT_.out (by kernel_rfl)) (fun _ _ _ h => h) (Or.inl ⟨by rfl, ?_⟩) ?_ ?_
                  rotate_left
                  · intro w'
                    go_simp
                    with_reducible rfl
                  rotate_left
                  · simp only [Act.put, List.setIfInBounds_toArray, List.set_cons_zero, List.set_cons_succ, i64_w, i32_w]
                    rfl
                  refine pure_ (i := 7) (N := some 39) (v := ?_) (a' := ?_) #[true, true, true, true, false, true, true, true, false, false, false, false, false, false, false, false, false, false] rfl rfl (any_of HT_.out (by kernel_rfl)) (fun _ _ _ h => h) (Or.inl ⟨by rfl, ?_⟩) ?_ ?_
                  rotate_left
                  · intro w'
                    go_simp
                    with_reducible rfl
                  rotate_left
                  · simp only [Act.put, List.setIfInBounds_toArray, List.set_cons_zero, List.set_cons_succ, i64_w, i32_w]
                    rfl
                  refine pure_ (i := 8) (N := some 40) (v := ?_) (a' := ?_) #[true, true, true, true, false, true, true, true, true, false, false, false, false, false, false, false, false, false] rfl rfl (any_of HT_.out (by kernel_rfl)) (fun _ _ _ h => h) (Or.inl ⟨by rfl, ?_⟩) ?_ ?_
                  rotate_left
                  · intro w'
                    go_simp
                    with_reducible rfl
                  rotate_left
                  · simp only [Act.put, List.setIfInBounds_toArray, List.set_cons_zero, List.set_cons_succ, i64_w, i32_w]
                    rfl
                  refine pure_ (i := 9) (N := some 41) (v := ?_) (a' := ?_) #[true, true, true, true, false, true, true, true, true, true, false, false, false, false, false, false, false, false] rfl rfl (any_of HT_.out (by kernel_rfl)) (fun _ _ _ h => h) (Or.inl ⟨by rfl, ?_⟩) ?_ ?_
                  rotate_left
                  · intro w'
                    go_simp
                    with_reducible rfl
                  rotate_left
                  · simp only [Act.put, List.setIfInBounds_toArray, List.set_cons_zero, List.set_cons_succ, i64_w, i32_w]
                    rfl
                  refine pure_ (i := 11) (N := some 43) (v := ?_) (a' := ?_) #[true, true, true, true, false, true, true, true, true, true, false, true, false, false, false, false, false, false] rfl rfl (any_of HT_.out (by kernel_rfl)) (fun _ _ _ h => h) (Or.inl ⟨by rfl, ?_⟩) ?_ ?_
                  rotate_left
                  · intro w'
                    go_simp
                    with_reducible rfl
                  rotate_left
                  · simp only [Act.put, List.setIfInBounds_toArray, List.set_cons_zero, List.set_cons_succ, i64_w, i32_w]
                    rfl
                  refine pure_ (i := 14) (N := some 46) (v := ?_) (a' := ?_) #[true, true, true, true, false, true, true, true, true, true, false, true, false, false, true, false, false, false] rfl rfl (any_of HT_.out (by kernel_rfl)) (fun _ _ _ h => h) (Or.inl ⟨by rfl, ?_⟩) ?_ ?_
                  rotate_left
                  · intro w'
                    go_simp
                    with_reducible rfl
                  rotate_left
                  · simp only [Act.put, List.setIfInBounds_toArray, List.set_cons_zero, List.set_cons_succ, i64_w, i32_w]
                    rfl
                  refine take_ (i := 4) (N := some 36) (v := ?_) (a' := ?_) #[true, true, true, true, true, true, true, true, true, true, false, true, false, false, true, false, false, false] rfl rfl (take_ofW HT_.out HW_.out (by kernel_rfl)) (fun _ _ _ h => h) (Or.inl ⟨by rfl, ?_⟩) hHeld ?_ ?_
                  rotate_left
                  · rintro w' ⟨s0, s1, s2, s3, s4⟩
                    go_simp
                    with_reducible rfl
                  rotate_left
                  · simp only [Act.put, List.setIfInBounds_toArray, List.set_cons_zero, List.set_cons_succ, i64_w, i32_w]
                    rfl
                  refine take_ (i := 10) (N := some 42) (v := ?_) (a' := ?_) #[true, true, true, true, true, true, true, true, true, true, true, true, false, false, true, false, false, false] rfl rfl (take_ofW HT_.out HW_.out (by kernel_rfl)) (fun _ _ _ h => h) (Or.inl ⟨by rfl, ?_⟩) hHeld ?_ ?_
                  rotate_left
                  · rintro w' ⟨s0, s1, s2, s3, s4⟩
                    go_simp
                    with_reducible rfl
                  rotate_left
                  · simp only [Act.put, List.setIfInBounds_toArray, List.set_cons_zero, List.set_cons_succ, i64_w, i32_w]
                    rfl
                  refine pure_ (i := 12) (N := some 44) (v := ?_) (a' := ?_) #[true, true, true, true, true, true, true, true, true, true, true, true, true, false, true, false, false, false] rfl rfl (any_of HT_.out (by kernel_rfl)) (fun _ _ _ h => h) (Or.inl ⟨by rfl, ?_⟩) ?_ ?_
                  rotate_left
                  · intro w'
                    go_simp
                    with_reducible rfl
                  rotate_left
                  · simp only [Act.put, List.setIfInBounds_toArray, List.set_cons_zero, List.set_cons_succ, i64_w, i32_w]
                    rfl
                  refine take_ (i := 13) (N := some 45) (v := ?_) (a' := ?_) #[true, true, true, true, true, true, true, true, true, true, true, true, true, true, true, false, false, false] rfl rfl (take_ofW HT_.out HW_.out (by kernel_rfl)) (fun _ _ _ h => h) (Or.inl ⟨by rfl, ?_⟩) hHeld ?_ ?_
                  rotate_left
                  · rintro w' ⟨s0, s1, s2, s3, s4⟩
                    go_simp
                    with_reducible rfl
                  rotate_left
                  · simp only [Act.put, List.setIfInBounds_toArray, List.set_cons_zero, List.set_cons_succ, i64_w, i32_w]
                    rfl
                  refine pure_ (i := 15) (N := some 47) (v := ?_) (a' := ?_) #[true, true, true, true, true, true, true, true, true, true, true, true, true, true, true, true, false, false] rfl rfl (any_of HT_.out (by kernel_rfl)) (fun _ _ _ h => h) (Or.inl ⟨by rfl, ?_⟩) ?_ ?_
                  rotate_left
                  · intro w'
                    go_simp
                    with_reducible rfl
                  rotate_left
                  · simp only [Act.put, List.setIfInBounds_toArray, List.set_cons_zero, List.set_cons_succ, i64_w, i32_w]
                    rfl
                  refine pure_ (i := 16) (N := some 48) (v := ?_) (a' := ?_) #[true, true, true, true, true, true, true, true, true, true, true, true, true, true, true, true, true, false] rfl rfl (any_of HT_.out (by kernel_rfl)) (fun _ _ _ h => h) (Or.inl ⟨by rfl, ?_⟩) ?_ ?_
                  rotate_left
                  · intro w'
                    go_simp
                    with_reducible rfl
                  rotate_left
                  · simp only [Act.put, List.setIfInBounds_toArray, List.set_cons_zero, List.set_cons_succ, i64_w, i32_w]
                    rfl
                  refine last_ (i := 17) (N := none) #[true, true, true, true, true, true, true, true, true, true, true, true, true, true, true, true, true, true] rfl rfl (one_of HT_.out (by kernel_rfl)) (by decide) (fun K hK => ?_)
                  refine skip_ (w1 := ?_) (by rfl) rfl ?_ ?_
                  rotate_left
                  · go_simp
                    rfl
                  refine hK.out _ _ ?_
                  clear hK K
                  refine done_ (done_of HT_.out (by kernel_rfl)) ?_
                  try go_wp2
                  go_ret2
                  exact ⟨_, by first | rfl | (simp [errW_none, errW_some] <;> rfl) | (simp [*, errW_none, errW_some] <;> rfl), by (with_reducible repeat (first | apply Kd.S_alloc | apply Kd.S_drewN | apply Kd.S_drew)); exact HQ21.out, by repeat (first | (with_reducible first | exact HB.out | apply below_alloc | apply pw_below_drewN | apply below_drew1 | refine below_set ?_ GB17.out) | exact HB.out)⟩
                · rw [if_neg c16] at H
                  exact absurd H (by simp)
              · rw [if_neg c15] at H
                exact absurd H (by simp)
            · rw [if_neg c14] at H
              exact absurd H (by simp)
        · rw [if_neg c11] at H
          exact absurd H (by simp)
      · rw [if_neg c10] at H
        exact absurd H (by simp)
  · replace c7 := Bool.eq_false_iff.mpr c7
    subst c7
    have H1 : (some (t276, false)) = some (r1, r2) := by rw [if_neg (show ¬ (false = true) by decide)] at H; exact H
    clear H
    have H := H1
    clear H1
    simp only [Option.some.injEq, Prod.mk.injEq] at H
    obtain ⟨rfl, rfl⟩ := H
    go_enter Try.func24, Try.ntmps24
    go_wp2_with (first | ((with_reducible refine gate_callee (f := 17) rfl ?_); refine goesL_ (some 12) rfl rfl Try.func17 (by kernel_rfl) rfl #[.slice A0 l0.length c0] rfl (by (try simp only [List.map_toArray, List.map_cons, List.map_nil]); first | done | rfl | (simp only [List.length_drop, List.length_take]; rfl)) ?_; (with_reducible refine (fourinhandref22_Own.calls k _ _ l0 t276 _ ?side1 ?side2 A5.out).mono ?_); (case side1 => repeat (first | exact HR0.out | (with_reducible refine Kd.C_alloc ?_ _) | (with_reducible refine Kd.C_drewN ?_ _) | (with_reducible refine Kd.C_drew ?_))); (case side2 => exact HC0.out); rintro e w23 ⟨v277, rfl, ho0, hb⟩; refine ⟨_, rfl, ?_⟩; have n0_ := Aside0.mk (Kd.S_lower ho0 (below_size (by repeat (first | (with_reducible first | exact HB.out | apply below_alloc | apply pw_below_drewN | apply below_drew1) | exact HB.out)))); have n1_ := Aside0.mk (below_step (by repeat (first | (with_reducible first | exact HB.out | apply below_alloc | apply pw_below_drewN | apply below_drew1) | exact HB.out)) hb); clear HB; have HO278 := n0_; have HB := n1_; clear n0_ n1_; (try clear hb); (try clear hb2); (try clear hk); (try clear hi); (try clear ho0)) | ((with_reducible refine gate_callee (f := 33) rfl ?_); refine goesL_ (some 15) rfl rfl Try.func33 (by kernel_rfl) rfl #[.slice A0 l0.length c0, .int .i64 a1] rfl (by (try simp only [List.map_toArray, List.map_cons, List.map_nil]); first | done | rfl | (simp only [List.length_drop, List.length_take]; rfl)) ?_; (with_reducible refine (fourinhandref22_has.calls k _ _ l0 a1 false _ ?side1 ?side2 A6.out).mono ?_); (case side1 => repeat (first | exact (Kd.C_below HR0.out HB.out) | (with_reducible refine Kd.C_alloc ?_ _) | (with_reducible refine Kd.C_drewN ?_ _) | (with_reducible refine Kd.C_drew ?_))); (case side2 => exact HC0.out); rintro e w' ⟨rfl, ⟨nd, rfl⟩⟩; refine ⟨_, rfl, ?_⟩))
    go_ret2
    exact ⟨_, by first | rfl | (simp [errW_none, errW_some] <;> rfl) | (simp [*, errW_none, errW_some] <;> rfl), by (with_reducible repeat (first | apply Kd.S_alloc | apply Kd.S_drewN | apply Kd.S_drew)); exact HO278.out, by repeat (first | (with_reducible first | exact HB.out | apply below_alloc | apply pw_below_drewN | apply below_drew1) | exact HB.out)⟩

-- NOT PRINTED: function 6 (fourinhandlaw22_LaneTells)

end Go.Proofs.Ytnfgcjeenjomgaa.S
