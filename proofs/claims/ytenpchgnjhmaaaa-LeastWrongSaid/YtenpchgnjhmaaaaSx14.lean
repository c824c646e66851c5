/- What the program's functions compute, as plain functions, and that they do: walks laid by a program of the session's. -/
import Derived.Test.YtenpchgnjhmaaaaSx0
import Derived.Test.YtenpchgnjhmaaaaSx2
import Derived.Test.YtenpchgnjhmaaaaSx6
import Derived.Test.YtenpchgnjhmaaaaGLeast
namespace Go.Proofs.Ytenpchgnjhmaaaa.S
open Go.RowKit Go.Proofs.YtenpchgnjhmaaaaW.PrintWords Go.Proofs.YtenpchgnjhmaaaaW.PrintLast Go.Proofs.YtenpchgnjhmaaaaW.PrintMore
open Go.Proofs.Ytenpchgnjhmaaaa.Given
attribute [local go_sem] max2_int min2_int max_two min_two max_three min_three max_four min_four   -- for this text's walks alone
set_option linter.unusedVariables false
set_option linter.unusedSimpArgs false

/-! ### fourinhandlaw09_LeastWrong: function 7 -/
def fourinhandlaw09_LeastWrong.j0 : Nat → Int → Int → Bool → Bool → Int → List (S38) → Int → Option (Bool)
  | 0, _, _, _, _, _, _, _ => none
  | k + 1, x1, x2, x7, x21, x259000, x259001, x259002 => if x21 = true then (some x7) else ((least_Met.f x259000 x259001 x259002 x1 x2).bind fun bt260 => ((least_May.f k x259000 x259001 x259002).bind fun t268 => (if t268 = true then (if x1 ≥ 0 then (if x1 ≤ 1152921504606846976 then (if x2 ≥ 0 then (if x2 ≤ 1152921504606846976 then (if (x259001.length : Int) = 0 then (if ((bt260.2.2.2.2 == 0) == true) = true then (some true) else (some false)) else (if 0 ≤ (wrap64 ((x259001.length : Int) - 1)) then (if (wrap64 ((x259001.length : Int) - 1)) < (x259001.length : Int) then (if ((bt260.2.2.2.2 == 0) == (decide (((rd_T38 x259001 (wrap64 ((x259001.length : Int) - 1))).f0) ≤ x1))) = true then (if ((rd_T38 x259001 (wrap64 ((x259001.length : Int) - 1))).f0) ≤ x1 then (some true) else (if bt260.2.2.2.2 = 1 then (if bt260.2.2.2.1 = true then (some false) else (if bt260.1 = 0 then (some ((bt260.2.1.length : Int) == 0)) else (some false))) else (some false))) else (some false)) else (none)) else (none))) else (if ((bt260.2.2.2.2 == 0) == false) = true then (if bt260.2.2.2.2 = 1 then (if bt260.2.2.2.1 = true then (some false) else (if bt260.1 = 0 then (some ((bt260.2.1.length : Int) == 0)) else (some false))) else (some false)) else (some false))) else (if ((bt260.2.2.2.2 == 0) == false) = true then (if bt260.2.2.2.2 = 1 then (if bt260.2.2.2.1 = true then (some false) else (if bt260.1 = 0 then (some ((bt260.2.1.length : Int) == 0)) else (some false))) else (some false)) else (some false))) else (if ((bt260.2.2.2.2 == 0) == false) = true then (if bt260.2.2.2.2 = 1 then (if bt260.2.2.2.1 = true then (some false) else (if bt260.1 = 0 then (some ((bt260.2.1.length : Int) == 0)) else (some false))) else (some false)) else (some false))) else (if ((bt260.2.2.2.2 == 0) == false) = true then (if bt260.2.2.2.2 = 1 then (if bt260.2.2.2.1 = true then (some false) else (if bt260.1 = 0 then (some ((bt260.2.1.length : Int) == 0)) else (some false))) else (some false)) else (some false))) else (if ((bt260.2.2.2.2 == 0) == false) = true then (if bt260.2.2.2.2 = 1 then (if bt260.2.2.2.1 = true then (some false) else (if bt260.1 = 0 then (some ((bt260.2.1.length : Int) == 0)) else (some false))) else (some false)) else (some false)))))
def fourinhandlaw09_LeastWrong.f (k : Nat) (a0_0 : Int) (l0_1 : List (S38)) (a0_2 : Int) (a1 : Int) (a2 : Int) : Option (Bool) := (fourinhandlaw09_awake.f k).bind fun t259 => (if t259 = true then (fourinhandlaw09_LeastWrong.j0 k a1 a2 t259 (decide ((l0_1.length : Int) > 200)) a0_0 l0_1 a0_2) else (fourinhandlaw09_LeastWrong.j0 k a1 a2 t259 true a0_0 l0_1 a0_2))
theorem fourinhandlaw09_LeastWrong.mono_l : ∀ k, (∀ y0 y1 y2 y3 y4 y5 y6, LeO (fourinhandlaw09_LeastWrong.j0 k y0 y1 y2 y3 y4 y5 y6) (fourinhandlaw09_LeastWrong.j0 (k + 1) y0 y1 y2 y3 y4 y5 y6))
  | 0 => fun _ _ _ _ _ _ _ r h => by simp [fourinhandlaw09_LeastWrong.j0] at h
  | k + 1 => by
    have ih0 := fourinhandlaw09_LeastWrong.mono_l k
    · intro y0 y1 y2 y3 y4 y5 y6
      unfold fourinhandlaw09_LeastWrong.j0
      repeat' first
      | (with_reducible exact ih0 _ _ _ _ _ _ _)
      | (with_reducible exact fourinhandlaw09_awake.mono _)
      | (with_reducible exact least_May.mono _ _ _ _)
      | (with_reducible exact LeO.refl _)
      | (with_reducible exact LeO.none _)
      | (with_reducible refine LeO.ite ?_ ?_)
      | (with_reducible refine LeO.bind ?_ (fun _ => ?_))
      | exact ih0 _ _ _ _ _ _ _
      | exact fourinhandlaw09_awake.mono _
      | exact least_May.mono _ _ _ _
      | exact LeO.none _
      | refine LeO.ite ?_ ?_
      | refine LeO.bind ?_ (fun _ => ?_)
theorem fourinhandlaw09_LeastWrong.mono : ∀ a0 a1 a2 a3 a4 k, LeO (fourinhandlaw09_LeastWrong.f k a0 a1 a2 a3 a4) (fourinhandlaw09_LeastWrong.f (k + 1) a0 a1 a2 a3 a4) := by
  intro a0 a1 a2 a3 a4 k
  have ih0 := fourinhandlaw09_LeastWrong.mono_l k
  unfold fourinhandlaw09_LeastWrong.f
  repeat' first
      | (with_reducible exact ih0 _ _ _ _ _ _ _)
      | (with_reducible exact fourinhandlaw09_awake.mono _)
      | (with_reducible exact least_May.mono _ _ _ _)
      | (with_reducible exact LeO.refl _)
      | (with_reducible exact LeO.none _)
      | (with_reducible refine LeO.ite ?_ ?_)
      | (with_reducible refine LeO.bind ?_ (fun _ => ?_))
      | exact ih0 _ _ _ _ _ _ _
      | exact fourinhandlaw09_awake.mono _
      | exact least_May.mono _ _ _ _
      | exact LeO.none _
      | refine LeO.ite ?_ ?_
      | refine LeO.bind ?_ (fun _ => ?_)
set_option maxHeartbeats 8000000 in
set_option maxRecDepth 100000 in
theorem fourinhandlaw09_LeastWrong.calls (k : Nat) (a0_0 : Int) (A0_1 : Option Addr) (c0_1 : Nat) (l0_1 : List (S38)) (a0_2 : Int) (a1 : Int) (a2 : Int) (r : Bool) (w : World) (hr0_1 : Kd.C k38 w A0_1 l0_1.length l0_1) (hc0_1 : l0_1.length ≤ c0_1) (h : fourinhandlaw09_LeastWrong.f k a0_0 l0_1 a0_2 a1 a2 = some r) (hr1 : r = true) :
    Calls Try.prog 7 #[.agg #[.int .i64 a0_0, .slice A0_1 l0_1.length c0_1, .int .i64 a0_2], .int .i64 a1, .int .i64 a2] w fun e w' => e = .returned (.bool r) ∧ Below w.heap.size w w' := by
  have hu24 := Try.underlying24
  have HR0_1 := Aside0.mk hr0_1
  have HC0_1 := Aside0.mk hc0_1
  clear hr0_1 hc0_1
  have HB := Aside0.mk (Below.refl w.heap.size w)
  have H : ((fourinhandlaw09_awake.f k).bind fun t259 => (if t259 = true then (fourinhandlaw09_LeastWrong.j0 k a1 a2 t259 (decide ((l0_1.length : Int) > 200)) a0_0 l0_1 a0_2) else (fourinhandlaw09_LeastWrong.j0 k a1 a2 t259 true a0_0 l0_1 a0_2))) = some r := h
  clear h
  replace H := Option.bind_eq_some_iff.mp H
  obtain ⟨t259, A40, H⟩ := H
  replace H : (if t259 = true then (fourinhandlaw09_LeastWrong.j0 k a1 a2 t259 (decide ((l0_1.length : Int) > 200)) a0_0 l0_1 a0_2) else (fourinhandlaw09_LeastWrong.j0 k a1 a2 t259 true a0_0 l0_1 a0_2)) = some r := H
  have A4 := Aside0.mk A40
  clear A40
  have HC5 := Aside0.mk H
  clear H
  go_enter Try.func7, Try.ntmps7
  go_upto_region 2 with (first | ((with_reducible refine gate_dst (N := 3) rfl ?_); (try (refine gate_guard (by rfl) ?_; dsimp only)); refine box_event ?hg (N := 3) ?hd (cs := #[.int .i64 a0_0, .slice A0_1 l0_1.length c0_1, .int .i64 a0_2]) (t := 24) ?hr ?_; (case hd => rfl); (case hg => rfl); (case hr => first | (go_simp; done) | (go_simp; rfl)); intro gb258 hg w6 hbox hb; have n0_ := Aside0.mk (below_step (by repeat (first | (with_reducible first | exact HB.out | apply below_alloc | apply pw_below_drewN | apply below_drew1) | exact HB.out)) hb); have n1_ := Aside0.mk (hbox); have n2_ := Aside0.mk ((by rw [hg]; exact (below_size (by repeat (first | (with_reducible first | exact HB.out | apply below_alloc | apply pw_below_drewN | apply below_drew1) | exact HB.out))) : w.heap.size ≤ gb258)); have n3_ := Aside0.mk ((by rw [hg]; exact (below_size (by repeat (first | (with_reducible first | exact HB.out | apply below_alloc | apply pw_below_drewN | apply below_drew1) | exact HB.out))) : w.heap.size ≤ gb258)); clear HB; have HB := n0_; have BK258 := n1_; have GW258 := n2_; have GE258 := n3_; clear n0_ n1_ n2_ n3_; clear hb hbox hg) | ((with_reducible refine gate_callee (f := 8) rfl ?_); refine goesL_ (some 13) rfl rfl Try.func8 (by kernel_rfl) rfl #[] rfl (by (try simp only [List.map_toArray, List.map_cons, List.map_nil]); first | done | rfl | (simp only [List.length_drop, List.length_take]; rfl)) ?_; (with_reducible refine (fourinhandlaw09_awake.calls k  t259 _ A4.out).mono ?_); rintro e w7 ⟨rfl, hb⟩; refine ⟨_, rfl, ?_⟩; have n0_ := Aside0.mk (blk_below (g := gb258) (o := .cells #[.int .i64 a0_0, .slice A0_1 l0_1.length c0_1, .int .i64 a0_2] 24 (0, 0)) (by (with_reducible repeat (first | refine blk_drewN ?_ _ | refine blk_drew ?_ | refine blk_alloc ?_ _)); exact BK258.out) hb); have n1_ := Aside0.mk (below_step (by repeat (first | (with_reducible first | exact HB.out | apply below_alloc | apply pw_below_drewN | apply below_drew1 | refine below_set ?_ GE258.out) | exact HB.out)) hb); clear BK258; clear HB; have BK258 := n0_; have HB := n1_; clear n0_ n1_; (try clear hb); (try clear hb2); (try clear hk); (try clear hi)))
  (try simp only [Act.put, List.setIfInBounds_toArray, List.set_cons_zero, List.set_cons_succ])
  go_cut [21] (fun v21 wc => ∃ (kq : Nat) (x21_4 : Bool), v21 = .bool x21_4 ∧ Aside0 (fourinhandlaw09_LeastWrong.j0 kq a1 a2 t259 x21_4 a0_0 l0_1 a0_2 = some r) ∧ Aside0 (kq ≤ k) ∧ Aside0 (wc.heap[gb258]? = some (.cells #[.int .i64 a0_0, (.slice A0_1 l0_1.length c0_1), .int .i64 a0_2] 24 (0, 0))) ∧ Aside0 (Below w.heap.size w wc))
  case first =>
    have H := HC5.out
    clear HC5
    by_cases c8 : t259 = true
    · subst c8
      have H1 : (fourinhandlaw09_LeastWrong.j0 k a1 a2 true (decide ((l0_1.length : Int) > 200)) a0_0 l0_1 a0_2) = some r := by rw [if_pos rfl] at H; exact H
      clear H
      have H := H1
      clear H1
      have H' := Aside0.mk H
      clear H
      have hcz9_0 : w7.cell? ⟨gb258, 0, none⟩ = some (.int .i64 a0_0) := (blk_cell BK258.out 0).trans rfl
      have hcz9_1 : w7.cell? ⟨gb258, 1, none⟩ = some (.slice A0_1 l0_1.length c0_1) := (blk_cell BK258.out 1).trans rfl
      have hcz9_2 : w7.cell? ⟨gb258, 2, none⟩ = some (.int .i64 a0_2) := (blk_cell BK258.out 2).trans rfl
      have hfz9_0 := blk_frozen BK258.out 0
      have hfz9_1 := blk_frozen BK258.out 1
      have hfz9_2 := blk_frozen BK258.out 2
      go_wp2
      go_meet
      case rel => exact ⟨_, (decide ((l0_1.length : Int) > 200)), (by first | rfl | (simp; done) | (simp [*]; done)), H', ⟨by first | omega | exact Nat.le_refl _⟩, ⟨by (with_reducible repeat (first | refine blk_drewN ?_ _ | refine blk_drew ?_ | refine blk_alloc ?_ _)); exact BK258.out⟩, ⟨by repeat (first | (with_reducible first | exact HB.out | apply below_alloc | apply pw_below_drewN | apply below_drew1 | refine below_set ?_ GE258.out) | exact HB.out)⟩⟩
    · replace c8 := Bool.eq_false_iff.mpr c8
      subst c8
      have H1 : (fourinhandlaw09_LeastWrong.j0 k a1 a2 false true a0_0 l0_1 a0_2) = some r := by rw [if_neg (show ¬ (false = true) by decide)] at H; exact H
      clear H
      have H := H1
      clear H1
      have H' := Aside0.mk H
      clear H
      go_wp2
      go_meet
      case rel => exact ⟨_, (true), (by first | rfl | (simp; done) | (simp [*]; done)), H', ⟨by first | omega | exact Nat.le_refl _⟩, ⟨by (with_reducible repeat (first | refine blk_drewN ?_ _ | refine blk_drew ?_ | refine blk_alloc ?_ _)); exact BK258.out⟩, ⟨by repeat (first | (with_reducible first | exact HB.out | apply below_alloc | apply pw_below_drewN | apply below_drew1 | refine below_set ?_ GE258.out) | exact HB.out)⟩⟩
  case rest =>
    clear HC5
    try clear p2
    try clear c7
    try clear c8
    try clear hcz9_0
    try clear hcz9_1
    try clear hcz9_2
    try clear hfz9_0
    try clear hfz9_1
    try clear hfz9_2
    obtain ⟨kq, x21_4, rfl, HA, HJ4, BK258, HB⟩ := hcut
    cases kq with
    | zero => exact absurd HA.out (by simp [fourinhandlaw09_LeastWrong.j0])
    | succ kj4 =>
      have H := HA.out
      clear HA
      simp only [fourinhandlaw09_LeastWrong.j0] at H
      by_cases c10 : x21_4 = true
      · subst c10
        have H1 : (some t259) = some r := by rw [if_pos rfl] at H; exact H
        clear H
        have H := H1
        clear H1
        obtain rfl := Option.some.inj H
        go_wp2
        go_ret
        exact ⟨by first | rfl | (simp [errW_none, errW_some] <;> rfl) | (simp [*, errW_none, errW_some] <;> rfl), by repeat (first | (with_reducible first | exact HB.out | apply below_alloc | apply pw_below_drewN | apply below_drew1 | refine below_set ?_ GE258.out) | exact HB.out)⟩
      · replace c10 := Bool.eq_false_iff.mpr c10
        subst c10
        have H1 : ((least_Met.f a0_0 l0_1 a0_2 a1 a2).bind fun bt260 => ((least_May.f kj4 a0_0 l0_1 a0_2).bind fun t268 => (if t268 = true then (if a1 ≥ 0 then (if a1 ≤ 1152921504606846976 then (if a2 ≥ 0 then (if a2 ≤ 1152921504606846976 then (if (l0_1.length : Int) = 0 then (if ((bt260.2.2.2.2 == 0) == true) = true then (some true) else (some false)) else (if 0 ≤ (wrap64 ((l0_1.length : Int) - 1)) then (if (wrap64 ((l0_1.length : Int) - 1)) < (l0_1.length : Int) then (if ((bt260.2.2.2.2 == 0) == (decide (((rd_T38 l0_1 (wrap64 ((l0_1.length : Int) - 1))).f0) ≤ a1))) = true then (if ((rd_T38 l0_1 (wrap64 ((l0_1.length : Int) - 1))).f0) ≤ a1 then (some true) else (if bt260.2.2.2.2 = 1 then (if bt260.2.2.2.1 = true then (some false) else (if bt260.1 = 0 then (some ((bt260.2.1.length : Int) == 0)) else (some false))) else (some false))) else (some false)) else (none)) else (none))) else (if ((bt260.2.2.2.2 == 0) == false) = true then (if bt260.2.2.2.2 = 1 then (if bt260.2.2.2.1 = true then (some false) else (if bt260.1 = 0 then (some ((bt260.2.1.length : Int) == 0)) else (some false))) else (some false)) else (some false))) else (if ((bt260.2.2.2.2 == 0) == false) = true then (if bt260.2.2.2.2 = 1 then (if bt260.2.2.2.1 = true then (some false) else (if bt260.1 = 0 then (some ((bt260.2.1.length : Int) == 0)) else (some false))) else (some false)) else (some false))) else (if ((bt260.2.2.2.2 == 0) == false) = true then (if bt260.2.2.2.2 = 1 then (if bt260.2.2.2.1 = true then (some false) else (if bt260.1 = 0 then (some ((bt260.2.1.length : Int) == 0)) else (some false))) else (some false)) else (some false))) else (if ((bt260.2.2.2.2 == 0) == false) = true then (if bt260.2.2.2.2 = 1 then (if bt260.2.2.2.1 = true then (some false) else (if bt260.1 = 0 then (some ((bt260.2.1.length : Int) == 0)) else (some false))) else (some false)) else (some false))) else (if ((bt260.2.2.2.2 == 0) == false) = true then (if bt260.2.2.2.2 = 1 then (if bt260.2.2.2.1 = true then (some false) else (if bt260.1 = 0 then (some ((bt260.2.1.length : Int) == 0)) else (some false))) else (some false)) else (some false))))) = some r := by rw [if_neg (show ¬ (false = true) by decide)] at H; exact H
        clear H
        have H := H1
        clear H1
        replace H := Option.bind_eq_some_iff.mp H
        obtain ⟨⟨t260, t261, t264, t265, t266⟩, A110, H⟩ := H
        replace H : ((least_May.f kj4 a0_0 l0_1 a0_2).bind fun t268 => (if t268 = true then (if a1 ≥ 0 then (if a1 ≤ 1152921504606846976 then (if a2 ≥ 0 then (if a2 ≤ 1152921504606846976 then (if (l0_1.length : Int) = 0 then (if ((t266 == 0) == true) = true then (some true) else (some false)) else (if 0 ≤ (wrap64 ((l0_1.length : Int) - 1)) then (if (wrap64 ((l0_1.length : Int) - 1)) < (l0_1.length : Int) then (if ((t266 == 0) == (decide (((rd_T38 l0_1 (wrap64 ((l0_1.length : Int) - 1))).f0) ≤ a1))) = true then (if ((rd_T38 l0_1 (wrap64 ((l0_1.length : Int) - 1))).f0) ≤ a1 then (some true) else (if t266 = 1 then (if t265 = true then (some false) else (if t260 = 0 then (some ((t261.length : Int) == 0)) else (some false))) else (some false))) else (some false)) else (none)) else (none))) else (if ((t266 == 0) == false) = true then (if t266 = 1 then (if t265 = true then (some false) else (if t260 = 0 then (some ((t261.length : Int) == 0)) else (some false))) else (some false)) else (some false))) else (if ((t266 == 0) == false) = true then (if t266 = 1 then (if t265 = true then (some false) else (if t260 = 0 then (some ((t261.length : Int) == 0)) else (some false))) else (some false)) else (some false))) else (if ((t266 == 0) == false) = true then (if t266 = 1 then (if t265 = true then (some false) else (if t260 = 0 then (some ((t261.length : Int) == 0)) else (some false))) else (some false)) else (some false))) else (if ((t266 == 0) == false) = true then (if t266 = 1 then (if t265 = true then (some false) else (if t260 = 0 then (some ((t261.length : Int) == 0)) else (some false))) else (some false)) else (some false))) else (if ((t266 == 0) == false) = true then (if t266 = 1 then (if t265 = true then (some false) else (if t260 = 0 then (some ((t261.length : Int) == 0)) else (some false))) else (some false)) else (some false)))) = some r := H
        have A11 := Aside0.mk A110
        clear A110
        replace H := Option.bind_eq_some_iff.mp H
        obtain ⟨t268, A120, H⟩ := H
        replace H : (if t268 = true then (if a1 ≥ 0 then (if a1 ≤ 1152921504606846976 then (if a2 ≥ 0 then (if a2 ≤ 1152921504606846976 then (if (l0_1.length : Int) = 0 then (if ((t266 == 0) == true) = true then (some true) else (some false)) else (if 0 ≤ (wrap64 ((l0_1.length : Int) - 1)) then (if (wrap64 ((l0_1.length : Int) - 1)) < (l0_1.length : Int) then (if ((t266 == 0) == (decide (((rd_T38 l0_1 (wrap64 ((l0_1.length : Int) - 1))).f0) ≤ a1))) = true then (if ((rd_T38 l0_1 (wrap64 ((l0_1.length : Int) - 1))).f0) ≤ a1 then (some true) else (if t266 = 1 then (if t265 = true then (some false) else (if t260 = 0 then (some ((t261.length : Int) == 0)) else (some false))) else (some false))) else (some false)) else (none)) else (none))) else (if ((t266 == 0) == false) = true then (if t266 = 1 then (if t265 = true then (some false) else (if t260 = 0 then (some ((t261.length : Int) == 0)) else (some false))) else (some false)) else (some false))) else (if ((t266 == 0) == false) = true then (if t266 = 1 then (if t265 = true then (some false) else (if t260 = 0 then (some ((t261.length : Int) == 0)) else (some false))) else (some false)) else (some false))) else (if ((t266 == 0) == false) = true then (if t266 = 1 then (if t265 = true then (some false) else (if t260 = 0 then (some ((t261.length : Int) == 0)) else (some false))) else (some false)) else (some false))) else (if ((t266 == 0) == false) = true then (if t266 = 1 then (if t265 = true then (some false) else (if t260 = 0 then (some ((t261.length : Int) == 0)) else (some false))) else (some false)) else (some false))) else (if ((t266 == 0) == false) = true then (if t266 = 1 then (if t265 = true then (some false) else (if t260 = 0 then (some ((t261.length : Int) == 0)) else (some false))) else (some false)) else (some false))) = some r := H
        have A12 := Aside0.mk A120
        clear A120
        by_cases c13 : t268 = true
        · subst c13
          have H1 : (if a1 ≥ 0 then (if a1 ≤ 1152921504606846976 then (if a2 ≥ 0 then (if a2 ≤ 1152921504606846976 then (if (l0_1.length : Int) = 0 then (if ((t266 == 0) == true) = true then (some true) else (some false)) else (if 0 ≤ (wrap64 ((l0_1.length : Int) - 1)) then (if (wrap64 ((l0_1.length : Int) - 1)) < (l0_1.length : Int) then (if ((t266 == 0) == (decide (((rd_T38 l0_1 (wrap64 ((l0_1.length : Int) - 1))).f0) ≤ a1))) = true then (if ((rd_T38 l0_1 (wrap64 ((l0_1.length : Int) - 1))).f0) ≤ a1 then (some true) else (if t266 = 1 then (if t265 = true then (some false) else (if t260 = 0 then (some ((t261.length : Int) == 0)) else (some false))) else (some false))) else (some false)) else (none)) else (none))) else (if ((t266 == 0) == false) = true then (if t266 = 1 then (if t265 = true then (some false) else (if t260 = 0 then (some ((t261.length : Int) == 0)) else (some false))) else (some false)) else (some false))) else (if ((t266 == 0) == false) = true then (if t266 = 1 then (if t265 = true then (some false) else (if t260 = 0 then (some ((t261.length : Int) == 0)) else (some false))) else (some false)) else (some false))) else (if ((t266 == 0) == false) = true then (if t266 = 1 then (if t265 = true then (some false) else (if t260 = 0 then (some ((t261.length : Int) == 0)) else (some false))) else (some false)) else (some false))) else (if ((t266 == 0) == false) = true then (if t266 = 1 then (if t265 = true then (some false) else (if t260 = 0 then (some ((t261.length : Int) == 0)) else (some false))) else (some false)) else (some false))) = some r := by rw [if_pos rfl] at H; exact H
          clear H
          have H := H1
          clear H1
          by_cases c14 : a1 ≥ 0
          · rw [if_pos c14] at H
            have c14b0 : decide (0 ≤ a1) = true := decide_eq_true c14
            clear c14
            by_cases c15 : a1 ≤ 1152921504606846976
            · rw [if_pos c15] at H
              have c15b0 : decide (a1 ≤ 1152921504606846976) = true := decide_eq_true c15
              clear c15
              by_cases c16 : a2 ≥ 0
              · rw [if_pos c16] at H
                have c16b0 : decide (0 ≤ a2) = true := decide_eq_true c16
                clear c16
                by_cases c17 : a2 ≤ 1152921504606846976
                · rw [if_pos c17] at H
                  have c17b0 : decide (a2 ≤ 1152921504606846976) = true := decide_eq_true c17
                  clear c17
                  by_cases c18 : (l0_1.length : Int) = 0
                  · rw [if_pos c18] at H
                    have c18b0 : ((l0_1.length : Int) == 0) = true := beq_iff_eq.mpr c18
                    have c18b1 : ((l0_1.length : Int) != 0) = false := bne_eq_false_iff_eq.mpr c18
                    clear c18
                    by_cases c19 : ((t266 == 0) == true) = true
                    · rw [if_pos c19] at H
                      have c19b0 : ((t266 == 0) == true) = true := c19
                      (try (have c19b1 : decide ((t266 == 0) = true) = true := by simpa using c19))
                      (try (have c19b2 : ((t266 == 0) == true) = true := by simpa using c19))
                      clear c19
                      obtain rfl := Option.some.inj H
                      have hcz20_0 : wc.cell? ⟨gb258, 0, none⟩ = some (.int .i64 a0_0) := (blk_cell BK258.out 0).trans rfl
                      have hcz20_1 : wc.cell? ⟨gb258, 1, none⟩ = some (.slice A0_1 l0_1.length c0_1) := (blk_cell BK258.out 1).trans rfl
                      have hcz20_2 : wc.cell? ⟨gb258, 2, none⟩ = some (.int .i64 a0_2) := (blk_cell BK258.out 2).trans rfl
                      have hfz20_0 := blk_frozen BK258.out 0
                      have hfz20_1 := blk_frozen BK258.out 1
                      have hfz20_2 := blk_frozen BK258.out 2
                      go_wp2_with (first | ((with_reducible refine gate_callee (f := 10) rfl ?_); refine goesL_ (some 27) rfl rfl Try.func10 (by kernel_rfl) rfl #[.agg #[.int .i64 a0_0, .slice A0_1 l0_1.length c0_1, .int .i64 a0_2], .int .i64 a1, .int .i64 a2] rfl (by (try simp only [List.map_toArray, List.map_cons, List.map_nil]); first | done | rfl | (simp only [List.length_drop, List.length_take]; rfl)) ?_; (with_reducible refine (least_Met.calls a0_0 _ _ l0_1 a0_2 a1 a2 t260 t261 t264 t265 t266 _ ?side1 ?side2 A11.out).mono ?_); (case side1 => repeat (first | exact (Kd.C_below HR0_1.out HB.out) | (with_reducible refine Kd.C_alloc ?_ _) | (with_reducible refine Kd.C_drewN ?_ _) | (with_reducible refine Kd.C_drew ?_))); (case side2 => exact HC0_1.out); rintro e w21 ⟨v262, rfl, ho0, hb⟩; refine ⟨_, rfl, ?_⟩; have n0_ := Aside0.mk (Kd.R_lower ho0 (below_size (by repeat (first | (with_reducible first | exact HB.out | apply below_alloc | apply pw_below_drewN | apply below_drew1 | refine below_set ?_ GE258.out) | exact HB.out)))); have n1_ := Aside0.mk (blk_below (g := gb258) (o := .cells #[.int .i64 a0_0, .slice A0_1 l0_1.length c0_1, .int .i64 a0_2] 24 (0, 0)) (by (with_reducible repeat (first | refine blk_drewN ?_ _ | refine blk_drew ?_ | refine blk_alloc ?_ _)); exact BK258.out) hb); have n2_ := Aside0.mk (below_step (by repeat (first | (with_reducible first | exact HB.out | apply below_alloc | apply pw_below_drewN | apply below_drew1 | refine below_set ?_ GE258.out) | exact HB.out)) hb); clear BK258; clear HB; have HO263 := n0_; have BK258 := n1_; have HB := n2_; clear n0_ n1_ n2_; (try clear hb); (try clear hb2); (try clear hk); (try clear hi); (try clear ho0)) | ((with_reducible refine gate_dst (N := 8) rfl ?_); (try (refine gate_guard (by rfl) ?_; dsimp only)); refine box_event ?hg (N := 8) ?hd (cs := #[.int .i64 0, .slice none 0 0, .int .i64 0]) (t := 24) ?hr ?_; (case hd => rfl); (case hg => rfl); (case hr => first | (go_simp; done) | (go_simp; rfl)); intro gb267 hg w22 hbox hb; have n0_ := Aside0.mk (Kd.R_below (by (with_reducible repeat (first | apply Kd.R_alloc | apply Kd.R_drewN | apply Kd.R_drew)); exact HO263.out) hb); have n1_ := Aside0.mk (blk_below (g := gb258) (o := .cells #[.int .i64 a0_0, .slice A0_1 l0_1.length c0_1, .int .i64 a0_2] 24 (0, 0)) (by (with_reducible repeat (first | refine blk_drewN ?_ _ | refine blk_drew ?_ | refine blk_alloc ?_ _)); exact BK258.out) hb); have n2_ := Aside0.mk (below_step (by repeat (first | (with_reducible first | exact HB.out | apply below_alloc | apply pw_below_drewN | apply below_drew1 | refine below_set ?_ GE258.out) | exact HB.out)) hb); have n3_ := Aside0.mk (hbox); have n4_ := Aside0.mk ((by rw [hg]; exact (below_size (by repeat (first | (with_reducible first | exact HB.out | apply below_alloc | apply pw_below_drewN | apply below_drew1 | refine below_set ?_ GE258.out) | exact HB.out))) : w.heap.size ≤ gb267)); have n5_ := Aside0.mk ((by rw [hg]; exact (below_size (by repeat (first | (with_reducible first | exact HB.out | apply below_alloc | apply pw_below_drewN | apply below_drew1 | refine below_set ?_ GE258.out) | exact HB.out))) : w.heap.size ≤ gb267)); have n6_ := Aside0.mk ((by rw [hg]; exact Nat.ne_of_lt (blk_lt (g := gb258) (o := .cells #[.int .i64 a0_0, .slice A0_1 l0_1.length c0_1, .int .i64 a0_2] 24 (0, 0)) (by (with_reducible repeat (first | refine blk_drewN ?_ _ | refine blk_drew ?_ | refine blk_alloc ?_ _)); exact BK258.out)) : gb258 ≠ gb267)); have n7_ := Aside0.mk ((by rw [hg]; exact Nat.ne_of_gt (blk_lt (g := gb258) (o := .cells #[.int .i64 a0_0, .slice A0_1 l0_1.length c0_1, .int .i64 a0_2] 24 (0, 0)) (by (with_reducible repeat (first | refine blk_drewN ?_ _ | refine blk_drew ?_ | refine blk_alloc ?_ _)); exact BK258.out)) : gb267 ≠ gb258)); clear HO263; clear BK258; clear HB; have HO263 := n0_; have BK258 := n1_; have HB := n2_; have BK267 := n3_; have GW267 := n4_; have GE267 := n5_; have NB258_267 := n6_; have NB267_258 := n7_; clear n0_ n1_ n2_ n3_ n4_ n5_ n6_ n7_; clear hb hbox hg; have hnb23 := NB267_258.out; have hnc23 := NB258_267.out; have hcz24_0 : w22.cell? ⟨gb267, 0, none⟩ = some (.int .i64 0) := (blk_cell BK267.out 0).trans rfl; have hcz24_1 : w22.cell? ⟨gb267, 1, none⟩ = some (.slice none 0 0) := (blk_cell BK267.out 1).trans rfl; have hcz24_2 : w22.cell? ⟨gb267, 2, none⟩ = some (.int .i64 0) := (blk_cell BK267.out 2).trans rfl; have hfz24_0 := blk_frozen BK267.out 0; have hfz24_1 := blk_frozen BK267.out 1; have hfz24_2 := blk_frozen BK267.out 2; obtain ⟨Ao25, co25, eo25⟩ := Kd.R_slice HO263.out; subst eo25; have hcz26_0 : w22.cell? ⟨gb258, 0, none⟩ = some (.int .i64 a0_0) := (blk_cell BK258.out 0).trans rfl; have hcz26_1 : w22.cell? ⟨gb258, 1, none⟩ = some (.slice A0_1 l0_1.length c0_1) := (blk_cell BK258.out 1).trans rfl; have hcz26_2 : w22.cell? ⟨gb258, 2, none⟩ = some (.int .i64 a0_2) := (blk_cell BK258.out 2).trans rfl; have hfz26_0 := blk_frozen BK258.out 0; have hfz26_1 := blk_frozen BK258.out 1; have hfz26_2 := blk_frozen BK258.out 2) | ((with_reducible refine gate_callee (f := 15) rfl ?_); refine goesL_ (some 35) rfl rfl Try.func15 (by kernel_rfl) rfl #[.agg #[.int .i64 a0_0, .slice A0_1 l0_1.length c0_1, .int .i64 a0_2]] rfl (by (try simp only [List.map_toArray, List.map_cons, List.map_nil]); first | done | rfl | (simp only [List.length_drop, List.length_take]; rfl)) ?_; (with_reducible refine (least_May.calls kj4 a0_0 _ _ l0_1 a0_2 true _ ?side1 ?side2 A12.out).mono ?_); (case side1 => exact Kd.C_below HR0_1.out (by repeat (first | (with_reducible first | exact HB.out | apply below_alloc | apply pw_below_drewN | apply below_drew1 | refine below_set ?_ GE258.out | refine below_set ?_ GE267.out) | exact HB.out))); (case side2 => exact HC0_1.out); rintro e w27 ⟨rfl, hb⟩; refine ⟨_, rfl, ?_⟩; have n0_ := Aside0.mk (Kd.R_below (by (with_reducible repeat (first | apply Kd.R_alloc | apply Kd.R_drewN | apply Kd.R_drew)); exact (Kd.R_mono (Kd.R_far (p := ⟨gb267, 2, none⟩) (Kd.R_far (p := ⟨gb267, 1, none⟩) (Kd.R_far (p := ⟨gb267, 0, none⟩) (Kd.R_types HO263.out BK267.out (by decide)) (fun _ hk => hk.2) (.int .i64 t260)) (fun _ hk => hk.2) (.slice Ao25 t261.length co25)) (fun _ hk => hk.2) (.int .i64 t264)) (fun _ h_ => h_.1))) hb); have n1_ := Aside0.mk (blk_below (g := gb258) (o := .cells #[.int .i64 a0_0, .slice A0_1 l0_1.length c0_1, .int .i64 a0_2] 24 (0, 0)) (by (with_reducible repeat (first | refine blk_drewN ?_ _ | refine blk_drew ?_ | refine blk_alloc ?_ _)); refine blk_far ?_ NB258_267.out _; (with_reducible repeat (first | refine blk_drewN ?_ _ | refine blk_drew ?_ | refine blk_alloc ?_ _)); refine blk_far ?_ NB258_267.out _; (with_reducible repeat (first | refine blk_drewN ?_ _ | refine blk_drew ?_ | refine blk_alloc ?_ _)); refine blk_far ?_ NB258_267.out _; (with_reducible repeat (first | refine blk_drewN ?_ _ | refine blk_drew ?_ | refine blk_alloc ?_ _)); exact BK258.out) hb); have n2_ := Aside0.mk (blk_below (g := gb267) (o := .cells #[.int .i64 t260, .slice Ao25 t261.length co25, .int .i64 t264] 24 (0, 0)) (by (with_reducible repeat (first | refine blk_drewN ?_ _ | refine blk_drew ?_ | refine blk_alloc ?_ _)); refine blk_put (cs := #[.int .i64 t260, .slice Ao25 t261.length co25, .int .i64 0]) ?_ 2 _ rfl; (with_reducible repeat (first | refine blk_drewN ?_ _ | refine blk_drew ?_ | refine blk_alloc ?_ _)); refine blk_put (cs := #[.int .i64 t260, .slice none 0 0, .int .i64 0]) ?_ 1 _ rfl; (with_reducible repeat (first | refine blk_drewN ?_ _ | refine blk_drew ?_ | refine blk_alloc ?_ _)); refine blk_put (cs := #[.int .i64 0, .slice none 0 0, .int .i64 0]) ?_ 0 _ rfl; (with_reducible repeat (first | refine blk_drewN ?_ _ | refine blk_drew ?_ | refine blk_alloc ?_ _)); exact BK267.out) hb); have n3_ := Aside0.mk (below_step (by repeat (first | (with_reducible first | exact HB.out | apply below_alloc | apply pw_below_drewN | apply below_drew1 | refine below_set ?_ GE258.out | refine below_set ?_ GE267.out) | exact HB.out)) hb); clear HO263; clear BK258; clear BK267; clear HB; have HO263 := n0_; have BK258 := n1_; have BK267 := n2_; have HB := n3_; clear n0_ n1_ n2_ n3_; (try clear hb); (try clear hb2); (try clear hk); (try clear hi)))
                      go_ret
                      exact ⟨by first | rfl | (simp [errW_none, errW_some] <;> rfl) | (simp [*, errW_none, errW_some] <;> rfl), by repeat (first | (with_reducible first | exact HB.out | apply below_alloc | apply pw_below_drewN | apply below_drew1 | refine below_set ?_ GE258.out | refine below_set ?_ GE267.out) | exact HB.out)⟩
                    · rw [if_neg c19] at H
                      have c19b0 : ((t266 == 0) == true) = false := by simpa using c19
                      (try (have c19b1 : decide ((t266 == 0) = true) = false := by simpa using c19))
                      (try (have c19b2 : ((t266 == 0) == true) = false := by simpa using c19))
                      (try (have c19b3 : ¬ ((t266 == 0) = true) := by simpa using c19))
                      clear c19
                      rw [hr1] at H
                      cases H
                  · rw [if_neg c18] at H
                    have c18b0 : ((l0_1.length : Int) == 0) = false := beq_eq_false_iff_ne.mpr c18
                    have c18b1 : ((l0_1.length : Int) != 0) = true := bne_iff_ne.mpr c18
                    have c18b2 : ¬ (l0_1 = []) := fun h_ => c18 (by rw [h_]; rfl)
                    obtain ⟨ji36, hji36⟩ : ∃ j_ : Int, (wrap64 ((l0_1.length : Int) - 1)) = j_ := ⟨_, rfl⟩
                    replace H : (if 0 ≤ (ji36) then (if (ji36) < (l0_1.length : Int) then (if ((t266 == 0) == (decide (((rd_T38 l0_1 (ji36)).f0) ≤ a1))) = true then (if ((rd_T38 l0_1 (ji36)).f0) ≤ a1 then (some true) else (if t266 = 1 then (if t265 = true then (some false) else (if t260 = 0 then (some ((t261.length : Int) == 0)) else (some false))) else (some false))) else (some false)) else (none)) else (none)) = some r := by first | (rw [hji36] at H; exact H) | (simp only [hji36] at H ⊢; exact H)
                    (try rw [hji36] at A11)
                    (try rw [hji36] at A12)
                    have hji36w : (IntKind.i64.wrap ((l0_1.length : Int) - 1)) = ji36 := (i64_w _).trans hji36
                    by_cases c37 : 0 ≤ (ji36)
                    · rw [if_pos c37] at H
                      have c37b0 : decide (0 ≤ (ji36)) = true := decide_eq_true c37
                      clear c37
                      by_cases c38 : (ji36) < (l0_1.length : Int)
                      · rw [if_pos c38] at H
                        have c38b0 : decide ((ji36) < (l0_1.length : Int)) = true := decide_eq_true c38
                        clear c38
                        by_cases c39 : ((t266 == 0) == (decide (((rd_T38 l0_1 (ji36)).f0) ≤ a1))) = true
                        · rw [if_pos c39] at H
                          have c39b0 : ((t266 == 0) == (decide (((rd_T38 l0_1 (ji36)).f0) ≤ a1))) = true := c39
                          (try (have c39b1 : decide ((t266 == 0) = (decide (((rd_T38 l0_1 (ji36)).f0) ≤ a1))) = true := by simpa using c39))
                          (try (have c39b2 : ((t266 == 0) == (decide (((rd_T38 l0_1 (ji36)).f0) ≤ a1))) = true := by simpa using c39))
                          clear c39
                          by_cases c40 : ((rd_T38 l0_1 (ji36)).f0) ≤ a1
                          · rw [if_pos c40] at H
                            have c40b0 : decide (((rd_T38 l0_1 (ji36)).f0) ≤ a1) = true := decide_eq_true c40
                            have c40z : (t266 == 0) = true := by simpa [c40b0] using c39b0
                            clear c40
                            obtain rfl := Option.some.inj H
                            have hcz41_0 : wc.cell? ⟨gb258, 0, none⟩ = some (.int .i64 a0_0) := (blk_cell BK258.out 0).trans rfl
                            have hcz41_1 : wc.cell? ⟨gb258, 1, none⟩ = some (.slice A0_1 l0_1.length c0_1) := (blk_cell BK258.out 1).trans rfl
                            have hcz41_2 : wc.cell? ⟨gb258, 2, none⟩ = some (.int .i64 a0_2) := (blk_cell BK258.out 2).trans rfl
                            have hfz41_0 := blk_frozen BK258.out 0
                            have hfz41_1 := blk_frozen BK258.out 1
                            have hfz41_2 := blk_frozen BK258.out 2
                            go_wp2_with (first | ((with_reducible refine gate_callee (f := 10) rfl ?_); refine goesL_ (some 27) rfl rfl Try.func10 (by kernel_rfl) rfl #[.agg #[.int .i64 a0_0, .slice A0_1 l0_1.length c0_1, .int .i64 a0_2], .int .i64 a1, .int .i64 a2] rfl (by (try simp only [List.map_toArray, List.map_cons, List.map_nil]); first | done | rfl | (simp only [List.length_drop, List.length_take]; rfl)) ?_; (with_reducible refine (least_Met.calls a0_0 _ _ l0_1 a0_2 a1 a2 t260 t261 t264 t265 t266 _ ?side1 ?side2 A11.out).mono ?_); (case side1 => repeat (first | exact (Kd.C_below HR0_1.out HB.out) | (with_reducible refine Kd.C_alloc ?_ _) | (with_reducible refine Kd.C_drewN ?_ _) | (with_reducible refine Kd.C_drew ?_))); (case side2 => exact HC0_1.out); rintro e w42 ⟨v262, rfl, ho0, hb⟩; refine ⟨_, rfl, ?_⟩; have n0_ := Aside0.mk (Kd.R_lower ho0 (below_size (by repeat (first | (with_reducible first | exact HB.out | apply below_alloc | apply pw_below_drewN | apply below_drew1 | refine below_set ?_ GE258.out) | exact HB.out)))); have n1_ := Aside0.mk (blk_below (g := gb258) (o := .cells #[.int .i64 a0_0, .slice A0_1 l0_1.length c0_1, .int .i64 a0_2] 24 (0, 0)) (by (with_reducible repeat (first | refine blk_drewN ?_ _ | refine blk_drew ?_ | refine blk_alloc ?_ _)); exact BK258.out) hb); have n2_ := Aside0.mk (below_step (by repeat (first | (with_reducible first | exact HB.out | apply below_alloc | apply pw_below_drewN | apply below_drew1 | refine below_set ?_ GE258.out) | exact HB.out)) hb); clear BK258; clear HB; have HO263 := n0_; have BK258 := n1_; have HB := n2_; clear n0_ n1_ n2_; (try clear hb); (try clear hb2); (try clear hk); (try clear hi); (try clear ho0)) | ((with_reducible refine gate_dst (N := 8) rfl ?_); (try (refine gate_guard (by rfl) ?_; dsimp only)); refine box_event ?hg (N := 8) ?hd (cs := #[.int .i64 0, .slice none 0 0, .int .i64 0]) (t := 24) ?hr ?_; (case hd => rfl); (case hg => rfl); (case hr => first | (go_simp; done) | (go_simp; rfl)); intro gb267 hg w43 hbox hb; have n0_ := Aside0.mk (Kd.R_below (by (with_reducible repeat (first | apply Kd.R_alloc | apply Kd.R_drewN | apply Kd.R_drew)); exact HO263.out) hb); have n1_ := Aside0.mk (blk_below (g := gb258) (o := .cells #[.int .i64 a0_0, .slice A0_1 l0_1.length c0_1, .int .i64 a0_2] 24 (0, 0)) (by (with_reducible repeat (first | refine blk_drewN ?_ _ | refine blk_drew ?_ | refine blk_alloc ?_ _)); exact BK258.out) hb); have n2_ := Aside0.mk (below_step (by repeat (first | (with_reducible first | exact HB.out | apply below_alloc | apply pw_below_drewN | apply below_drew1 | refine below_set ?_ GE258.out) | exact HB.out)) hb); have n3_ := Aside0.mk (hbox); have n4_ := Aside0.mk ((by rw [hg]; exact (below_size (by repeat (first | (with_reducible first | exact HB.out | apply below_alloc | apply pw_below_drewN | apply below_drew1 | refine below_set ?_ GE258.out) | exact HB.out))) : w.heap.size ≤ gb267)); have n5_ := Aside0.mk ((by rw [hg]; exact (below_size (by repeat (first | (with_reducible first | exact HB.out | apply below_alloc | apply pw_below_drewN | apply below_drew1 | refine below_set ?_ GE258.out) | exact HB.out))) : w.heap.size ≤ gb267)); have n6_ := Aside0.mk ((by rw [hg]; exact Nat.ne_of_lt (blk_lt (g := gb258) (o := .cells #[.int .i64 a0_0, .slice A0_1 l0_1.length c0_1, .int .i64 a0_2] 24 (0, 0)) (by (with_reducible repeat (first | refine blk_drewN ?_ _ | refine blk_drew ?_ | refine blk_alloc ?_ _)); exact BK258.out)) : gb258 ≠ gb267)); have n7_ := Aside0.mk ((by rw [hg]; exact Nat.ne_of_gt (blk_lt (g := gb258) (o := .cells #[.int .i64 a0_0, .slice A0_1 l0_1.length c0_1, .int .i64 a0_2] 24 (0, 0)) (by (with_reducible repeat (first | refine blk_drewN ?_ _ | refine blk_drew ?_ | refine blk_alloc ?_ _)); exact BK258.out)) : gb267 ≠ gb258)); clear HO263; clear BK258; clear HB; have HO263 := n0_; have BK258 := n1_; have HB := n2_; have BK267 := n3_; have GW267 := n4_; have GE267 := n5_; have NB258_267 := n6_; have NB267_258 := n7_; clear n0_ n1_ n2_ n3_ n4_ n5_ n6_ n7_; clear hb hbox hg; have hnb44 := NB267_258.out; have hnc44 := NB258_267.out; have hcz45_0 : w43.cell? ⟨gb267, 0, none⟩ = some (.int .i64 0) := (blk_cell BK267.out 0).trans rfl; have hcz45_1 : w43.cell? ⟨gb267, 1, none⟩ = some (.slice none 0 0) := (blk_cell BK267.out 1).trans rfl; have hcz45_2 : w43.cell? ⟨gb267, 2, none⟩ = some (.int .i64 0) := (blk_cell BK267.out 2).trans rfl; have hfz45_0 := blk_frozen BK267.out 0; have hfz45_1 := blk_frozen BK267.out 1; have hfz45_2 := blk_frozen BK267.out 2; obtain ⟨Ao46, co46, eo46⟩ := Kd.R_slice HO263.out; subst eo46; have hcz47_0 : w43.cell? ⟨gb258, 0, none⟩ = some (.int .i64 a0_0) := (blk_cell BK258.out 0).trans rfl; have hcz47_1 : w43.cell? ⟨gb258, 1, none⟩ = some (.slice A0_1 l0_1.length c0_1) := (blk_cell BK258.out 1).trans rfl; have hcz47_2 : w43.cell? ⟨gb258, 2, none⟩ = some (.int .i64 a0_2) := (blk_cell BK258.out 2).trans rfl; have hfz47_0 := blk_frozen BK258.out 0; have hfz47_1 := blk_frozen BK258.out 1; have hfz47_2 := blk_frozen BK258.out 2) | ((with_reducible refine gate_callee (f := 15) rfl ?_); refine goesL_ (some 35) rfl rfl Try.func15 (by kernel_rfl) rfl #[.agg #[.int .i64 a0_0, .slice A0_1 l0_1.length c0_1, .int .i64 a0_2]] rfl (by (try simp only [List.map_toArray, List.map_cons, List.map_nil]); first | done | rfl | (simp only [List.length_drop, List.length_take]; rfl)) ?_; (with_reducible refine (least_May.calls kj4 a0_0 _ _ l0_1 a0_2 true _ ?side1 ?side2 A12.out).mono ?_); (case side1 => exact Kd.C_below HR0_1.out (by repeat (first | (with_reducible first | exact HB.out | apply below_alloc | apply pw_below_drewN | apply below_drew1 | refine below_set ?_ GE258.out | refine below_set ?_ GE267.out) | exact HB.out))); (case side2 => exact HC0_1.out); rintro e w48 ⟨rfl, hb⟩; refine ⟨_, rfl, ?_⟩; have n0_ := Aside0.mk (Kd.R_below (by (with_reducible repeat (first | apply Kd.R_alloc | apply Kd.R_drewN | apply Kd.R_drew)); exact (Kd.R_mono (Kd.R_far (p := ⟨gb267, 2, none⟩) (Kd.R_far (p := ⟨gb267, 1, none⟩) (Kd.R_far (p := ⟨gb267, 0, none⟩) (Kd.R_types HO263.out BK267.out (by decide)) (fun _ hk => hk.2) (.int .i64 t260)) (fun _ hk => hk.2) (.slice Ao46 t261.length co46)) (fun _ hk => hk.2) (.int .i64 t264)) (fun _ h_ => h_.1))) hb); have n1_ := Aside0.mk (blk_below (g := gb258) (o := .cells #[.int .i64 a0_0, .slice A0_1 l0_1.length c0_1, .int .i64 a0_2] 24 (0, 0)) (by (with_reducible repeat (first | refine blk_drewN ?_ _ | refine blk_drew ?_ | refine blk_alloc ?_ _)); refine blk_far ?_ NB258_267.out _; (with_reducible repeat (first | refine blk_drewN ?_ _ | refine blk_drew ?_ | refine blk_alloc ?_ _)); refine blk_far ?_ NB258_267.out _; (with_reducible repeat (first | refine blk_drewN ?_ _ | refine blk_drew ?_ | refine blk_alloc ?_ _)); refine blk_far ?_ NB258_267.out _; (with_reducible repeat (first | refine blk_drewN ?_ _ | refine blk_drew ?_ | refine blk_alloc ?_ _)); exact BK258.out) hb); have n2_ := Aside0.mk (blk_below (g := gb267) (o := .cells #[.int .i64 t260, .slice Ao46 t261.length co46, .int .i64 t264] 24 (0, 0)) (by (with_reducible repeat (first | refine blk_drewN ?_ _ | refine blk_drew ?_ | refine blk_alloc ?_ _)); refine blk_put (cs := #[.int .i64 t260, .slice Ao46 t261.length co46, .int .i64 0]) ?_ 2 _ rfl; (with_reducible repeat (first | refine blk_drewN ?_ _ | refine blk_drew ?_ | refine blk_alloc ?_ _)); refine blk_put (cs := #[.int .i64 t260, .slice none 0 0, .int .i64 0]) ?_ 1 _ rfl; (with_reducible repeat (first | refine blk_drewN ?_ _ | refine blk_drew ?_ | refine blk_alloc ?_ _)); refine blk_put (cs := #[.int .i64 0, .slice none 0 0, .int .i64 0]) ?_ 0 _ rfl; (with_reducible repeat (first | refine blk_drewN ?_ _ | refine blk_drew ?_ | refine blk_alloc ?_ _)); exact BK267.out) hb); have n3_ := Aside0.mk (below_step (by repeat (first | (with_reducible first | exact HB.out | apply below_alloc | apply pw_below_drewN | apply below_drew1 | refine below_set ?_ GE258.out | refine below_set ?_ GE267.out) | exact HB.out)) hb); clear HO263; clear BK258; clear BK267; clear HB; have HO263 := n0_; have BK258 := n1_; have BK267 := n2_; have HB := n3_; clear n0_ n1_ n2_ n3_; (try clear hb); (try clear hb2); (try clear hk); (try clear hi); have hcz49_0 : w48.cell? ⟨gb258, 0, none⟩ = some (.int .i64 a0_0) := (blk_cell BK258.out 0).trans rfl; have hcz49_1 : w48.cell? ⟨gb258, 1, none⟩ = some (.slice A0_1 l0_1.length c0_1) := (blk_cell BK258.out 1).trans rfl; have hcz49_2 : w48.cell? ⟨gb258, 2, none⟩ = some (.int .i64 a0_2) := (blk_cell BK258.out 2).trans rfl; have hfz49_0 := blk_frozen BK258.out 0; have hfz49_1 := blk_frozen BK258.out 1; have hfz49_2 := blk_frozen BK258.out 2; have p269 : 0 ≤ ((ji36) : Int) := of_decide_eq_true (by first | (with_reducible assumption) | assumption); have q269 : (ji36) < (l0_1.length : Int) := of_decide_eq_true (by first | (with_reducible assumption) | assumption); obtain ⟨ad269, e269, hx269_0, hx269_1⟩ := at_T38 HR0_1.out (ji36) p269 q269; cases e269; replace hx269_0 := (HB.out.cell (World.block_lt_of_cell? w _ hx269_0)).trans hx269_0; replace hx269_1 := (HB.out.cell (World.block_lt_of_cell? w _ hx269_1)).trans hx269_1; replace p269 := eq_true p269; replace q269 := eq_true q269))
                            go_ret
                            exact ⟨by first | rfl | (simp [errW_none, errW_some] <;> rfl) | (simp only [← hji36]; first | rfl | (simp [errW_none, errW_some] <;> rfl)) | (simp [*, errW_none, errW_some] <;> rfl), by repeat (first | (with_reducible first | exact HB.out | apply below_alloc | apply pw_below_drewN | apply below_drew1 | refine below_set ?_ GE258.out | refine below_set ?_ GE267.out) | exact HB.out)⟩
                          · rw [if_neg c40] at H
                            have c40b0 : decide (((rd_T38 l0_1 (ji36)).f0) ≤ a1) = false := decide_eq_false c40
                            have c40z : (t266 == 0) = false := by simpa [c40b0] using c39b0
                            clear c40
                            by_cases c50 : t266 = 1
                            · rw [if_pos c50] at H
                              have c50b0 : (t266 == 1) = true := beq_iff_eq.mpr c50
                              have c50b1 : (t266 != 1) = false := bne_eq_false_iff_eq.mpr c50
                              clear c50
                              by_cases c51 : t265 = true
                              · subst c51
                                have H1 : (some false) = some r := by rw [if_pos rfl] at H; exact H
                                clear H
                                have H := H1
                                clear H1
                                rw [hr1] at H
                                cases H
                              · replace c51 := Bool.eq_false_iff.mpr c51
                                subst c51
                                have H1 : (if t260 = 0 then (some ((t261.length : Int) == 0)) else (some false)) = some r := by rw [if_neg (show ¬ (false = true) by decide)] at H; exact H
                                clear H
                                have H := H1
                                clear H1
                                by_cases c61 : t260 = 0
                                · rw [if_pos c61] at H
                                  have c61b0 : (t260 == 0) = true := beq_iff_eq.mpr c61
                                  have c61b1 : (t260 != 0) = false := bne_eq_false_iff_eq.mpr c61
                                  clear c61
                                  obtain rfl := Option.some.inj H
                                  have hcz62_0 : wc.cell? ⟨gb258, 0, none⟩ = some (.int .i64 a0_0) := (blk_cell BK258.out 0).trans rfl
                                  have hcz62_1 : wc.cell? ⟨gb258, 1, none⟩ = some (.slice A0_1 l0_1.length c0_1) := (blk_cell BK258.out 1).trans rfl
                                  have hcz62_2 : wc.cell? ⟨gb258, 2, none⟩ = some (.int .i64 a0_2) := (blk_cell BK258.out 2).trans rfl
                                  have hfz62_0 := blk_frozen BK258.out 0
                                  have hfz62_1 := blk_frozen BK258.out 1
                                  have hfz62_2 := blk_frozen BK258.out 2
                                  go_wp2_with (first | ((with_reducible refine gate_callee (f := 10) rfl ?_); refine goesL_ (some 27) rfl rfl Try.func10 (by kernel_rfl) rfl #[.agg #[.int .i64 a0_0, .slice A0_1 l0_1.length c0_1, .int .i64 a0_2], .int .i64 a1, .int .i64 a2] rfl (by (try simp only [List.map_toArray, List.map_cons, List.map_nil]); first | done | rfl | (simp only [List.length_drop, List.length_take]; rfl)) ?_; (with_reducible refine (least_Met.calls a0_0 _ _ l0_1 a0_2 a1 a2 t260 t261 t264 false t266 _ ?side1 ?side2 A11.out).mono ?_); (case side1 => repeat (first | exact (Kd.C_below HR0_1.out HB.out) | (with_reducible refine Kd.C_alloc ?_ _) | (with_reducible refine Kd.C_drewN ?_ _) | (with_reducible refine Kd.C_drew ?_))); (case side2 => exact HC0_1.out); rintro e w63 ⟨v262, rfl, ho0, hb⟩; refine ⟨_, rfl, ?_⟩; have n0_ := Aside0.mk (Kd.R_lower ho0 (below_size (by repeat (first | (with_reducible first | exact HB.out | apply below_alloc | apply pw_below_drewN | apply below_drew1 | refine below_set ?_ GE258.out) | exact HB.out)))); have n1_ := Aside0.mk (blk_below (g := gb258) (o := .cells #[.int .i64 a0_0, .slice A0_1 l0_1.length c0_1, .int .i64 a0_2] 24 (0, 0)) (by (with_reducible repeat (first | refine blk_drewN ?_ _ | refine blk_drew ?_ | refine blk_alloc ?_ _)); exact BK258.out) hb); have n2_ := Aside0.mk (below_step (by repeat (first | (with_reducible first | exact HB.out | apply below_alloc | apply pw_below_drewN | apply below_drew1 | refine below_set ?_ GE258.out) | exact HB.out)) hb); clear BK258; clear HB; have HO263 := n0_; have BK258 := n1_; have HB := n2_; clear n0_ n1_ n2_; (try clear hb); (try clear hb2); (try clear hk); (try clear hi); (try clear ho0)) | ((with_reducible refine gate_dst (N := 8) rfl ?_); (try (refine gate_guard (by rfl) ?_; dsimp only)); refine box_event ?hg (N := 8) ?hd (cs := #[.int .i64 0, .slice none 0 0, .int .i64 0]) (t := 24) ?hr ?_; (case hd => rfl); (case hg => rfl); (case hr => first | (go_simp; done) | (go_simp; rfl)); intro gb267 hg w64 hbox hb; have n0_ := Aside0.mk (Kd.R_below (by (with_reducible repeat (first | apply Kd.R_alloc | apply Kd.R_drewN | apply Kd.R_drew)); exact HO263.out) hb); have n1_ := Aside0.mk (blk_below (g := gb258) (o := .cells #[.int .i64 a0_0, .slice A0_1 l0_1.length c0_1, .int .i64 a0_2] 24 (0, 0)) (by (with_reducible repeat (first | refine blk_drewN ?_ _ | refine blk_drew ?_ | refine blk_alloc ?_ _)); exact BK258.out) hb); have n2_ := Aside0.mk (below_step (by repeat (first | (with_reducible first | exact HB.out | apply below_alloc | apply pw_below_drewN | apply below_drew1 | refine below_set ?_ GE258.out) | exact HB.out)) hb); have n3_ := Aside0.mk (hbox); have n4_ := Aside0.mk ((by rw [hg]; exact (below_size (by repeat (first | (with_reducible first | exact HB.out | apply below_alloc | apply pw_below_drewN | apply below_drew1 | refine below_set ?_ GE258.out) | exact HB.out))) : w.heap.size ≤ gb267)); have n5_ := Aside0.mk ((by rw [hg]; exact (below_size (by repeat (first | (with_reducible first | exact HB.out | apply below_alloc | apply pw_below_drewN | apply below_drew1 | refine below_set ?_ GE258.out) | exact HB.out))) : w.heap.size ≤ gb267)); have n6_ := Aside0.mk ((by rw [hg]; exact Nat.ne_of_lt (blk_lt (g := gb258) (o := .cells #[.int .i64 a0_0, .slice A0_1 l0_1.length c0_1, .int .i64 a0_2] 24 (0, 0)) (by (with_reducible repeat (first | refine blk_drewN ?_ _ | refine blk_drew ?_ | refine blk_alloc ?_ _)); exact BK258.out)) : gb258 ≠ gb267)); have n7_ := Aside0.mk ((by rw [hg]; exact Nat.ne_of_gt (blk_lt (g := gb258) (o := .cells #[.int .i64 a0_0, .slice A0_1 l0_1.length c0_1, .int .i64 a0_2] 24 (0, 0)) (by (with_reducible repeat (first | refine blk_drewN ?_ _ | refine blk_drew ?_ | refine blk_alloc ?_ _)); exact BK258.out)) : gb267 ≠ gb258)); clear HO263; clear BK258; clear HB; have HO263 := n0_; have BK258 := n1_; have HB := n2_; have BK267 := n3_; have GW267 := n4_; have GE267 := n5_; have NB258_267 := n6_; have NB267_258 := n7_; clear n0_ n1_ n2_ n3_ n4_ n5_ n6_ n7_; clear hb hbox hg; have hnb65 := NB267_258.out; have hnc65 := NB258_267.out; have hcz66_0 : w64.cell? ⟨gb267, 0, none⟩ = some (.int .i64 0) := (blk_cell BK267.out 0).trans rfl; have hcz66_1 : w64.cell? ⟨gb267, 1, none⟩ = some (.slice none 0 0) := (blk_cell BK267.out 1).trans rfl; have hcz66_2 : w64.cell? ⟨gb267, 2, none⟩ = some (.int .i64 0) := (blk_cell BK267.out 2).trans rfl; have hfz66_0 := blk_frozen BK267.out 0; have hfz66_1 := blk_frozen BK267.out 1; have hfz66_2 := blk_frozen BK267.out 2; obtain ⟨Ao67, co67, eo67⟩ := Kd.R_slice HO263.out; subst eo67; have hcz68_0 : w64.cell? ⟨gb258, 0, none⟩ = some (.int .i64 a0_0) := (blk_cell BK258.out 0).trans rfl; have hcz68_1 : w64.cell? ⟨gb258, 1, none⟩ = some (.slice A0_1 l0_1.length c0_1) := (blk_cell BK258.out 1).trans rfl; have hcz68_2 : w64.cell? ⟨gb258, 2, none⟩ = some (.int .i64 a0_2) := (blk_cell BK258.out 2).trans rfl; have hfz68_0 := blk_frozen BK258.out 0; have hfz68_1 := blk_frozen BK258.out 1; have hfz68_2 := blk_frozen BK258.out 2) | ((with_reducible refine gate_callee (f := 15) rfl ?_); refine goesL_ (some 35) rfl rfl Try.func15 (by kernel_rfl) rfl #[.agg #[.int .i64 a0_0, .slice A0_1 l0_1.length c0_1, .int .i64 a0_2]] rfl (by (try simp only [List.map_toArray, List.map_cons, List.map_nil]); first | done | rfl | (simp only [List.length_drop, List.length_take]; rfl)) ?_; (with_reducible refine (least_May.calls kj4 a0_0 _ _ l0_1 a0_2 true _ ?side1 ?side2 A12.out).mono ?_); (case side1 => exact Kd.C_below HR0_1.out (by repeat (first | (with_reducible first | exact HB.out | apply below_alloc | apply pw_below_drewN | apply below_drew1 | refine below_set ?_ GE258.out | refine below_set ?_ GE267.out) | exact HB.out))); (case side2 => exact HC0_1.out); rintro e w69 ⟨rfl, hb⟩; refine ⟨_, rfl, ?_⟩; have n0_ := Aside0.mk (Kd.R_below (by (with_reducible repeat (first | apply Kd.R_alloc | apply Kd.R_drewN | apply Kd.R_drew)); exact (Kd.R_mono (Kd.R_far (p := ⟨gb267, 2, none⟩) (Kd.R_far (p := ⟨gb267, 1, none⟩) (Kd.R_far (p := ⟨gb267, 0, none⟩) (Kd.R_types HO263.out BK267.out (by decide)) (fun _ hk => hk.2) (.int .i64 t260)) (fun _ hk => hk.2) (.slice Ao67 t261.length co67)) (fun _ hk => hk.2) (.int .i64 t264)) (fun _ h_ => h_.1))) hb); have n1_ := Aside0.mk (blk_below (g := gb258) (o := .cells #[.int .i64 a0_0, .slice A0_1 l0_1.length c0_1, .int .i64 a0_2] 24 (0, 0)) (by (with_reducible repeat (first | refine blk_drewN ?_ _ | refine blk_drew ?_ | refine blk_alloc ?_ _)); refine blk_far ?_ NB258_267.out _; (with_reducible repeat (first | refine blk_drewN ?_ _ | refine blk_drew ?_ | refine blk_alloc ?_ _)); refine blk_far ?_ NB258_267.out _; (with_reducible repeat (first | refine blk_drewN ?_ _ | refine blk_drew ?_ | refine blk_alloc ?_ _)); refine blk_far ?_ NB258_267.out _; (with_reducible repeat (first | refine blk_drewN ?_ _ | refine blk_drew ?_ | refine blk_alloc ?_ _)); exact BK258.out) hb); have n2_ := Aside0.mk (blk_below (g := gb267) (o := .cells #[.int .i64 t260, .slice Ao67 t261.length co67, .int .i64 t264] 24 (0, 0)) (by (with_reducible repeat (first | refine blk_drewN ?_ _ | refine blk_drew ?_ | refine blk_alloc ?_ _)); refine blk_put (cs := #[.int .i64 t260, .slice Ao67 t261.length co67, .int .i64 0]) ?_ 2 _ rfl; (with_reducible repeat (first | refine blk_drewN ?_ _ | refine blk_drew ?_ | refine blk_alloc ?_ _)); refine blk_put (cs := #[.int .i64 t260, .slice none 0 0, .int .i64 0]) ?_ 1 _ rfl; (with_reducible repeat (first | refine blk_drewN ?_ _ | refine blk_drew ?_ | refine blk_alloc ?_ _)); refine blk_put (cs := #[.int .i64 0, .slice none 0 0, .int .i64 0]) ?_ 0 _ rfl; (with_reducible repeat (first | refine blk_drewN ?_ _ | refine blk_drew ?_ | refine blk_alloc ?_ _)); exact BK267.out) hb); have n3_ := Aside0.mk (below_step (by repeat (first | (with_reducible first | exact HB.out | apply below_alloc | apply pw_below_drewN | apply below_drew1 | refine below_set ?_ GE258.out | refine below_set ?_ GE267.out) | exact HB.out)) hb); clear HO263; clear BK258; clear BK267; clear HB; have HO263 := n0_; have BK258 := n1_; have BK267 := n2_; have HB := n3_; clear n0_ n1_ n2_ n3_; (try clear hb); (try clear hb2); (try clear hk); (try clear hi); have hcz70_0 : w69.cell? ⟨gb258, 0, none⟩ = some (.int .i64 a0_0) := (blk_cell BK258.out 0).trans rfl; have hcz70_1 : w69.cell? ⟨gb258, 1, none⟩ = some (.slice A0_1 l0_1.length c0_1) := (blk_cell BK258.out 1).trans rfl; have hcz70_2 : w69.cell? ⟨gb258, 2, none⟩ = some (.int .i64 a0_2) := (blk_cell BK258.out 2).trans rfl; have hfz70_0 := blk_frozen BK258.out 0; have hfz70_1 := blk_frozen BK258.out 1; have hfz70_2 := blk_frozen BK258.out 2; have p269 : 0 ≤ ((ji36) : Int) := of_decide_eq_true (by first | (with_reducible assumption) | assumption); have q269 : (ji36) < (l0_1.length : Int) := of_decide_eq_true (by first | (with_reducible assumption) | assumption); obtain ⟨ad269, e269, hx269_0, hx269_1⟩ := at_T38 HR0_1.out (ji36) p269 q269; cases e269; replace hx269_0 := (HB.out.cell (World.block_lt_of_cell? w _ hx269_0)).trans hx269_0; replace hx269_1 := (HB.out.cell (World.block_lt_of_cell? w _ hx269_1)).trans hx269_1; replace p269 := eq_true p269; replace q269 := eq_true q269; have hcz71_0 : w69.cell? ⟨gb267, 0, none⟩ = some (.int .i64 t260) := (blk_cell BK267.out 0).trans rfl; have hcz71_1 : w69.cell? ⟨gb267, 1, none⟩ = some (.slice Ao67 t261.length co67) := (blk_cell BK267.out 1).trans rfl; have hcz71_2 : w69.cell? ⟨gb267, 2, none⟩ = some (.int .i64 t264) := (blk_cell BK267.out 2).trans rfl; have hfz71_0 := blk_frozen BK267.out 0; have hfz71_1 := blk_frozen BK267.out 1; have hfz71_2 := blk_frozen BK267.out 2))
                                  go_ret
                                  exact ⟨by first | rfl | (simp [errW_none, errW_some] <;> rfl) | (simp only [← hji36]; first | rfl | (simp [errW_none, errW_some] <;> rfl)) | (simp [*, errW_none, errW_some] <;> rfl), by repeat (first | (with_reducible first | exact HB.out | apply below_alloc | apply pw_below_drewN | apply below_drew1 | refine below_set ?_ GE258.out | refine below_set ?_ GE267.out) | exact HB.out)⟩
                                · rw [if_neg c61] at H
                                  have c61b0 : (t260 == 0) = false := beq_eq_false_iff_ne.mpr c61
                                  have c61b1 : (t260 != 0) = true := bne_iff_ne.mpr c61
                                  rw [hr1] at H
                                  cases H
                            · rw [if_neg c50] at H
                              have c50b0 : (t266 == 1) = false := beq_eq_false_iff_ne.mpr c50
                              have c50b1 : (t266 != 1) = true := bne_iff_ne.mpr c50
                              rw [hr1] at H
                              cases H
                        · rw [if_neg c39] at H
                          have c39b0 : ((t266 == 0) == (decide (((rd_T38 l0_1 (ji36)).f0) ≤ a1))) = false := by simpa using c39
                          (try (have c39b1 : decide ((t266 == 0) = (decide (((rd_T38 l0_1 (ji36)).f0) ≤ a1))) = false := by simpa using c39))
                          (try (have c39b2 : ((t266 == 0) == (decide (((rd_T38 l0_1 (ji36)).f0) ≤ a1))) = false := by simpa using c39))
                          (try (have c39b3 : ¬ ((t266 == 0) = (decide (((rd_T38 l0_1 (ji36)).f0) ≤ a1))) := by simpa using c39))
                          clear c39
                          rw [hr1] at H
                          cases H
                      · rw [if_neg c38] at H
                        exact absurd H (by simp)
                    · rw [if_neg c37] at H
                      exact absurd H (by simp)
                · rw [if_neg c17] at H
                  have c17b0 : decide (a2 ≤ 1152921504606846976) = false := decide_eq_false c17
                  clear c17
                  by_cases c100 : ((t266 == 0) == false) = true
                  · rw [if_pos c100] at H
                    have c100b0 : ((t266 == 0) == false) = true := c100
                    (try (have c100b1 : decide ((t266 == 0) = false) = true := by simpa using c100))
                    (try (have c100b2 : ((t266 == 0) == false) = true := by simpa using c100))
                    clear c100
                    by_cases c101 : t266 = 1
                    · rw [if_pos c101] at H
                      have c101b0 : (t266 == 1) = true := beq_iff_eq.mpr c101
                      have c101b1 : (t266 != 1) = false := bne_eq_false_iff_eq.mpr c101
                      clear c101
                      by_cases c102 : t265 = true
                      · subst c102
                        have H1 : (some false) = some r := by rw [if_pos rfl] at H; exact H
                        clear H
                        have H := H1
                        clear H1
                        rw [hr1] at H
                        cases H
                      · replace c102 := Bool.eq_false_iff.mpr c102
                        subst c102
                        have H1 : (if t260 = 0 then (some ((t261.length : Int) == 0)) else (some false)) = some r := by rw [if_neg (show ¬ (false = true) by decide)] at H; exact H
                        clear H
                        have H := H1
                        clear H1
                        by_cases c111 : t260 = 0
                        · rw [if_pos c111] at H
                          have c111b0 : (t260 == 0) = true := beq_iff_eq.mpr c111
                          have c111b1 : (t260 != 0) = false := bne_eq_false_iff_eq.mpr c111
                          clear c111
                          obtain rfl := Option.some.inj H
                          have hcz112_0 : wc.cell? ⟨gb258, 0, none⟩ = some (.int .i64 a0_0) := (blk_cell BK258.out 0).trans rfl
                          have hcz112_1 : wc.cell? ⟨gb258, 1, none⟩ = some (.slice A0_1 l0_1.length c0_1) := (blk_cell BK258.out 1).trans rfl
                          have hcz112_2 : wc.cell? ⟨gb258, 2, none⟩ = some (.int .i64 a0_2) := (blk_cell BK258.out 2).trans rfl
                          have hfz112_0 := blk_frozen BK258.out 0
                          have hfz112_1 := blk_frozen BK258.out 1
                          have hfz112_2 := blk_frozen BK258.out 2
                          go_wp2_with (first | ((with_reducible refine gate_callee (f := 10) rfl ?_); refine goesL_ (some 27) rfl rfl Try.func10 (by kernel_rfl) rfl #[.agg #[.int .i64 a0_0, .slice A0_1 l0_1.length c0_1, .int .i64 a0_2], .int .i64 a1, .int .i64 a2] rfl (by (try simp only [List.map_toArray, List.map_cons, List.map_nil]); first | done | rfl | (simp only [List.length_drop, List.length_take]; rfl)) ?_; (with_reducible refine (least_Met.calls a0_0 _ _ l0_1 a0_2 a1 a2 t260 t261 t264 false t266 _ ?side1 ?side2 A11.out).mono ?_); (case side1 => repeat (first | exact (Kd.C_below HR0_1.out HB.out) | (with_reducible refine Kd.C_alloc ?_ _) | (with_reducible refine Kd.C_drewN ?_ _) | (with_reducible refine Kd.C_drew ?_))); (case side2 => exact HC0_1.out); rintro e w113 ⟨v262, rfl, ho0, hb⟩; refine ⟨_, rfl, ?_⟩; have n0_ := Aside0.mk (Kd.R_lower ho0 (below_size (by repeat (first | (with_reducible first | exact HB.out | apply below_alloc | apply pw_below_drewN | apply below_drew1 | refine below_set ?_ GE258.out) | exact HB.out)))); have n1_ := Aside0.mk (blk_below (g := gb258) (o := .cells #[.int .i64 a0_0, .slice A0_1 l0_1.length c0_1, .int .i64 a0_2] 24 (0, 0)) (by (with_reducible repeat (first | refine blk_drewN ?_ _ | refine blk_drew ?_ | refine blk_alloc ?_ _)); exact BK258.out) hb); have n2_ := Aside0.mk (below_step (by repeat (first | (with_reducible first | exact HB.out | apply below_alloc | apply pw_below_drewN | apply below_drew1 | refine below_set ?_ GE258.out) | exact HB.out)) hb); clear BK258; clear HB; have HO263 := n0_; have BK258 := n1_; have HB := n2_; clear n0_ n1_ n2_; (try clear hb); (try clear hb2); (try clear hk); (try clear hi); (try clear ho0)) | ((with_reducible refine gate_dst (N := 8) rfl ?_); (try (refine gate_guard (by rfl) ?_; dsimp only)); refine box_event ?hg (N := 8) ?hd (cs := #[.int .i64 0, .slice none 0 0, .int .i64 0]) (t := 24) ?hr ?_; (case hd => rfl); (case hg => rfl); (case hr => first | (go_simp; done) | (go_simp; rfl)); intro gb267 hg w114 hbox hb; have n0_ := Aside0.mk (Kd.R_below (by (with_reducible repeat (first | apply Kd.R_alloc | apply Kd.R_drewN | apply Kd.R_drew)); exact HO263.out) hb); have n1_ := Aside0.mk (blk_below (g := gb258) (o := .cells #[.int .i64 a0_0, .slice A0_1 l0_1.length c0_1, .int .i64 a0_2] 24 (0, 0)) (by (with_reducible repeat (first | refine blk_drewN ?_ _ | refine blk_drew ?_ | refine blk_alloc ?_ _)); exact BK258.out) hb); have n2_ := Aside0.mk (below_step (by repeat (first | (with_reducible first | exact HB.out | apply below_alloc | apply pw_below_drewN | apply below_drew1 | refine below_set ?_ GE258.out) | exact HB.out)) hb); have n3_ := Aside0.mk (hbox); have n4_ := Aside0.mk ((by rw [hg]; exact (below_size (by repeat (first | (with_reducible first | exact HB.out | apply below_alloc | apply pw_below_drewN | apply below_drew1 | refine below_set ?_ GE258.out) | exact HB.out))) : w.heap.size ≤ gb267)); have n5_ := Aside0.mk ((by rw [hg]; exact (below_size (by repeat (first | (with_reducible first | exact HB.out | apply below_alloc | apply pw_below_drewN | apply below_drew1 | refine below_set ?_ GE258.out) | exact HB.out))) : w.heap.size ≤ gb267)); have n6_ := Aside0.mk ((by rw [hg]; exact Nat.ne_of_lt (blk_lt (g := gb258) (o := .cells #[.int .i64 a0_0, .slice A0_1 l0_1.length c0_1, .int .i64 a0_2] 24 (0, 0)) (by (with_reducible repeat (first | refine blk_drewN ?_ _ | refine blk_drew ?_ | refine blk_alloc ?_ _)); exact BK258.out)) : gb258 ≠ gb267)); have n7_ := Aside0.mk ((by rw [hg]; exact Nat.ne_of_gt (blk_lt (g := gb258) (o := .cells #[.int .i64 a0_0, .slice A0_1 l0_1.length c0_1, .int .i64 a0_2] 24 (0, 0)) (by (with_reducible repeat (first | refine blk_drewN ?_ _ | refine blk_drew ?_ | refine blk_alloc ?_ _)); exact BK258.out)) : gb267 ≠ gb258)); clear HO263; clear BK258; clear HB; have HO263 := n0_; have BK258 := n1_; have HB := n2_; have BK267 := n3_; have GW267 := n4_; have GE267 := n5_; have NB258_267 := n6_; have NB267_258 := n7_; clear n0_ n1_ n2_ n3_ n4_ n5_ n6_ n7_; clear hb hbox hg; have hnb115 := NB267_258.out; have hnc115 := NB258_267.out; have hcz116_0 : w114.cell? ⟨gb267, 0, none⟩ = some (.int .i64 0) := (blk_cell BK267.out 0).trans rfl; have hcz116_1 : w114.cell? ⟨gb267, 1, none⟩ = some (.slice none 0 0) := (blk_cell BK267.out 1).trans rfl; have hcz116_2 : w114.cell? ⟨gb267, 2, none⟩ = some (.int .i64 0) := (blk_cell BK267.out 2).trans rfl; have hfz116_0 := blk_frozen BK267.out 0; have hfz116_1 := blk_frozen BK267.out 1; have hfz116_2 := blk_frozen BK267.out 2; obtain ⟨Ao117, co117, eo117⟩ := Kd.R_slice HO263.out; subst eo117; have hcz118_0 : w114.cell? ⟨gb258, 0, none⟩ = some (.int .i64 a0_0) := (blk_cell BK258.out 0).trans rfl; have hcz118_1 : w114.cell? ⟨gb258, 1, none⟩ = some (.slice A0_1 l0_1.length c0_1) := (blk_cell BK258.out 1).trans rfl; have hcz118_2 : w114.cell? ⟨gb258, 2, none⟩ = some (.int .i64 a0_2) := (blk_cell BK258.out 2).trans rfl; have hfz118_0 := blk_frozen BK258.out 0; have hfz118_1 := blk_frozen BK258.out 1; have hfz118_2 := blk_frozen BK258.out 2) | ((with_reducible refine gate_callee (f := 15) rfl ?_); refine goesL_ (some 35) rfl rfl Try.func15 (by kernel_rfl) rfl #[.agg #[.int .i64 a0_0, .slice A0_1 l0_1.length c0_1, .int .i64 a0_2]] rfl (by (try simp only [List.map_toArray, List.map_cons, List.map_nil]); first | done | rfl | (simp only [List.length_drop, List.length_take]; rfl)) ?_; (with_reducible refine (least_May.calls kj4 a0_0 _ _ l0_1 a0_2 true _ ?side1 ?side2 A12.out).mono ?_); (case side1 => exact Kd.C_below HR0_1.out (by repeat (first | (with_reducible first | exact HB.out | apply below_alloc | apply pw_below_drewN | apply below_drew1 | refine below_set ?_ GE258.out | refine below_set ?_ GE267.out) | exact HB.out))); (case side2 => exact HC0_1.out); rintro e w119 ⟨rfl, hb⟩; refine ⟨_, rfl, ?_⟩; have n0_ := Aside0.mk (Kd.R_below (by (with_reducible repeat (first | apply Kd.R_alloc | apply Kd.R_drewN | apply Kd.R_drew)); exact (Kd.R_mono (Kd.R_far (p := ⟨gb267, 2, none⟩) (Kd.R_far (p := ⟨gb267, 1, none⟩) (Kd.R_far (p := ⟨gb267, 0, none⟩) (Kd.R_types HO263.out BK267.out (by decide)) (fun _ hk => hk.2) (.int .i64 t260)) (fun _ hk => hk.2) (.slice Ao117 t261.length co117)) (fun _ hk => hk.2) (.int .i64 t264)) (fun _ h_ => h_.1))) hb); have n1_ := Aside0.mk (blk_below (g := gb258) (o := .cells #[.int .i64 a0_0, .slice A0_1 l0_1.length c0_1, .int .i64 a0_2] 24 (0, 0)) (by (with_reducible repeat (first | refine blk_drewN ?_ _ | refine blk_drew ?_ | refine blk_alloc ?_ _)); refine blk_far ?_ NB258_267.out _; (with_reducible repeat (first | refine blk_drewN ?_ _ | refine blk_drew ?_ | refine blk_alloc ?_ _)); refine blk_far ?_ NB258_267.out _; (with_reducible repeat (first | refine blk_drewN ?_ _ | refine blk_drew ?_ | refine blk_alloc ?_ _)); refine blk_far ?_ NB258_267.out _; (with_reducible repeat (first | refine blk_drewN ?_ _ | refine blk_drew ?_ | refine blk_alloc ?_ _)); exact BK258.out) hb); have n2_ := Aside0.mk (blk_below (g := gb267) (o := .cells #[.int .i64 t260, .slice Ao117 t261.length co117, .int .i64 t264] 24 (0, 0)) (by (with_reducible repeat (first | refine blk_drewN ?_ _ | refine blk_drew ?_ | refine blk_alloc ?_ _)); refine blk_put (cs := #[.int .i64 t260, .slice Ao117 t261.length co117, .int .i64 0]) ?_ 2 _ rfl; (with_reducible repeat (first | refine blk_drewN ?_ _ | refine blk_drew ?_ | refine blk_alloc ?_ _)); refine blk_put (cs := #[.int .i64 t260, .slice none 0 0, .int .i64 0]) ?_ 1 _ rfl; (with_reducible repeat (first | refine blk_drewN ?_ _ | refine blk_drew ?_ | refine blk_alloc ?_ _)); refine blk_put (cs := #[.int .i64 0, .slice none 0 0, .int .i64 0]) ?_ 0 _ rfl; (with_reducible repeat (first | refine blk_drewN ?_ _ | refine blk_drew ?_ | refine blk_alloc ?_ _)); exact BK267.out) hb); have n3_ := Aside0.mk (below_step (by repeat (first | (with_reducible first | exact HB.out | apply below_alloc | apply pw_below_drewN | apply below_drew1 | refine below_set ?_ GE258.out | refine below_set ?_ GE267.out) | exact HB.out)) hb); clear HO263; clear BK258; clear BK267; clear HB; have HO263 := n0_; have BK258 := n1_; have BK267 := n2_; have HB := n3_; clear n0_ n1_ n2_ n3_; (try clear hb); (try clear hb2); (try clear hk); (try clear hi); have hcz120_0 : w119.cell? ⟨gb267, 0, none⟩ = some (.int .i64 t260) := (blk_cell BK267.out 0).trans rfl; have hcz120_1 : w119.cell? ⟨gb267, 1, none⟩ = some (.slice Ao117 t261.length co117) := (blk_cell BK267.out 1).trans rfl; have hcz120_2 : w119.cell? ⟨gb267, 2, none⟩ = some (.int .i64 t264) := (blk_cell BK267.out 2).trans rfl; have hfz120_0 := blk_frozen BK267.out 0; have hfz120_1 := blk_frozen BK267.out 1; have hfz120_2 := blk_frozen BK267.out 2))
                          go_ret
                          exact ⟨by first | rfl | (simp [errW_none, errW_some] <;> rfl) | (simp [*, errW_none, errW_some] <;> rfl), by repeat (first | (with_reducible first | exact HB.out | apply below_alloc | apply pw_below_drewN | apply below_drew1 | refine below_set ?_ GE258.out | refine below_set ?_ GE267.out) | exact HB.out)⟩
                        · rw [if_neg c111] at H
                          have c111b0 : (t260 == 0) = false := beq_eq_false_iff_ne.mpr c111
                          have c111b1 : (t260 != 0) = true := bne_iff_ne.mpr c111
                          rw [hr1] at H
                          cases H
                    · rw [if_neg c101] at H
                      have c101b0 : (t266 == 1) = false := beq_eq_false_iff_ne.mpr c101
                      have c101b1 : (t266 != 1) = true := bne_iff_ne.mpr c101
                      rw [hr1] at H
                      cases H
                  · rw [if_neg c100] at H
                    have c100b0 : ((t266 == 0) == false) = false := by simpa using c100
                    (try (have c100b1 : decide ((t266 == 0) = false) = false := by simpa using c100))
                    (try (have c100b2 : ((t266 == 0) == false) = false := by simpa using c100))
                    (try (have c100b3 : ¬ ((t266 == 0) = false) := by simpa using c100))
                    clear c100
                    rw [hr1] at H
                    cases H
              · rw [if_neg c16] at H
                have c16b0 : decide (0 ≤ a2) = false := decide_eq_false c16
                clear c16
                by_cases c146 : ((t266 == 0) == false) = true
                · rw [if_pos c146] at H
                  have c146b0 : ((t266 == 0) == false) = true := c146
                  (try (have c146b1 : decide ((t266 == 0) = false) = true := by simpa using c146))
                  (try (have c146b2 : ((t266 == 0) == false) = true := by simpa using c146))
                  clear c146
                  by_cases c147 : t266 = 1
                  · rw [if_pos c147] at H
                    have c147b0 : (t266 == 1) = true := beq_iff_eq.mpr c147
                    have c147b1 : (t266 != 1) = false := bne_eq_false_iff_eq.mpr c147
                    clear c147
                    by_cases c148 : t265 = true
                    · subst c148
                      have H1 : (some false) = some r := by rw [if_pos rfl] at H; exact H
                      clear H
                      have H := H1
                      clear H1
                      rw [hr1] at H
                      cases H
                    · replace c148 := Bool.eq_false_iff.mpr c148
                      subst c148
                      have H1 : (if t260 = 0 then (some ((t261.length : Int) == 0)) else (some false)) = some r := by rw [if_neg (show ¬ (false = true) by decide)] at H; exact H
                      clear H
                      have H := H1
                      clear H1
                      by_cases c157 : t260 = 0
                      · rw [if_pos c157] at H
                        have c157b0 : (t260 == 0) = true := beq_iff_eq.mpr c157
                        have c157b1 : (t260 != 0) = false := bne_eq_false_iff_eq.mpr c157
                        clear c157
                        obtain rfl := Option.some.inj H
                        have hcz158_0 : wc.cell? ⟨gb258, 0, none⟩ = some (.int .i64 a0_0) := (blk_cell BK258.out 0).trans rfl
                        have hcz158_1 : wc.cell? ⟨gb258, 1, none⟩ = some (.slice A0_1 l0_1.length c0_1) := (blk_cell BK258.out 1).trans rfl
                        have hcz158_2 : wc.cell? ⟨gb258, 2, none⟩ = some (.int .i64 a0_2) := (blk_cell BK258.out 2).trans rfl
                        have hfz158_0 := blk_frozen BK258.out 0
                        have hfz158_1 := blk_frozen BK258.out 1
                        have hfz158_2 := blk_frozen BK258.out 2
                        go_wp2_with (first | ((with_reducible refine gate_callee (f := 10) rfl ?_); refine goesL_ (some 27) rfl rfl Try.func10 (by kernel_rfl) rfl #[.agg #[.int .i64 a0_0, .slice A0_1 l0_1.length c0_1, .int .i64 a0_2], .int .i64 a1, .int .i64 a2] rfl (by (try simp only [List.map_toArray, List.map_cons, List.map_nil]); first | done | rfl | (simp only [List.length_drop, List.length_take]; rfl)) ?_; (with_reducible refine (least_Met.calls a0_0 _ _ l0_1 a0_2 a1 a2 t260 t261 t264 false t266 _ ?side1 ?side2 A11.out).mono ?_); (case side1 => repeat (first | exact (Kd.C_below HR0_1.out HB.out) | (with_reducible refine Kd.C_alloc ?_ _) | (with_reducible refine Kd.C_drewN ?_ _) | (with_reducible refine Kd.C_drew ?_))); (case side2 => exact HC0_1.out); rintro e w159 ⟨v262, rfl, ho0, hb⟩; refine ⟨_, rfl, ?_⟩; have n0_ := Aside0.mk (Kd.R_lower ho0 (below_size (by repeat (first | (with_reducible first | exact HB.out | apply below_alloc | apply pw_below_drewN | apply below_drew1 | refine below_set ?_ GE258.out) | exact HB.out)))); have n1_ := Aside0.mk (blk_below (g := gb258) (o := .cells #[.int .i64 a0_0, .slice A0_1 l0_1.length c0_1, .int .i64 a0_2] 24 (0, 0)) (by (with_reducible repeat (first | refine blk_drewN ?_ _ | refine blk_drew ?_ | refine blk_alloc ?_ _)); exact BK258.out) hb); have n2_ := Aside0.mk (below_step (by repeat (first | (with_reducible first | exact HB.out | apply below_alloc | apply pw_below_drewN | apply below_drew1 | refine below_set ?_ GE258.out) | exact HB.out)) hb); clear BK258; clear HB; have HO263 := n0_; have BK258 := n1_; have HB := n2_; clear n0_ n1_ n2_; (try clear hb); (try clear hb2); (try clear hk); (try clear hi); (try clear ho0)) | ((with_reducible refine gate_dst (N := 8) rfl ?_); (try (refine gate_guard (by rfl) ?_; dsimp only)); refine box_event ?hg (N := 8) ?hd (cs := #[.int .i64 0, .slice none 0 0, .int .i64 0]) (t := 24) ?hr ?_; (case hd => rfl); (case hg => rfl); (case hr => first | (go_simp; done) | (go_simp; rfl)); intro gb267 hg w160 hbox hb; have n0_ := Aside0.mk (Kd.R_below (by (with_reducible repeat (first | apply Kd.R_alloc | apply Kd.R_drewN | apply Kd.R_drew)); exact HO263.out) hb); have n1_ := Aside0.mk (blk_below (g := gb258) (o := .cells #[.int .i64 a0_0, .slice A0_1 l0_1.length c0_1, .int .i64 a0_2] 24 (0, 0)) (by (with_reducible repeat (first | refine blk_drewN ?_ _ | refine blk_drew ?_ | refine blk_alloc ?_ _)); exact BK258.out) hb); have n2_ := Aside0.mk (below_step (by repeat (first | (with_reducible first | exact HB.out | apply below_alloc | apply pw_below_drewN | apply below_drew1 | refine below_set ?_ GE258.out) | exact HB.out)) hb); have n3_ := Aside0.mk (hbox); have n4_ := Aside0.mk ((by rw [hg]; exact (below_size (by repeat (first | (with_reducible first | exact HB.out | apply below_alloc | apply pw_below_drewN | apply below_drew1 | refine below_set ?_ GE258.out) | exact HB.out))) : w.heap.size ≤ gb267)); have n5_ := Aside0.mk ((by rw [hg]; exact (below_size (by repeat (first | (with_reducible first | exact HB.out | apply below_alloc | apply pw_below_drewN | apply below_drew1 | refine below_set ?_ GE258.out) | exact HB.out))) : w.heap.size ≤ gb267)); have n6_ := Aside0.mk ((by rw [hg]; exact Nat.ne_of_lt (blk_lt (g := gb258) (o := .cells #[.int .i64 a0_0, .slice A0_1 l0_1.length c0_1, .int .i64 a0_2] 24 (0, 0)) (by (with_reducible repeat (first | refine blk_drewN ?_ _ | refine blk_drew ?_ | refine blk_alloc ?_ _)); exact BK258.out)) : gb258 ≠ gb267)); have n7_ := Aside0.mk ((by rw [hg]; exact Nat.ne_of_gt (blk_lt (g := gb258) (o := .cells #[.int .i64 a0_0, .slice A0_1 l0_1.length c0_1, .int .i64 a0_2] 24 (0, 0)) (by (with_reducible repeat (first | refine blk_drewN ?_ _ | refine blk_drew ?_ | refine blk_alloc ?_ _)); exact BK258.out)) : gb267 ≠ gb258)); clear HO263; clear BK258; clear HB; have HO263 := n0_; have BK258 := n1_; have HB := n2_; have BK267 := n3_; have GW267 := n4_; have GE267 := n5_; have NB258_267 := n6_; have NB267_258 := n7_; clear n0_ n1_ n2_ n3_ n4_ n5_ n6_ n7_; clear hb hbox hg; have hnb161 := NB267_258.out; have hnc161 := NB258_267.out; have hcz162_0 : w160.cell? ⟨gb267, 0, none⟩ = some (.int .i64 0) := (blk_cell BK267.out 0).trans rfl; have hcz162_1 : w160.cell? ⟨gb267, 1, none⟩ = some (.slice none 0 0) := (blk_cell BK267.out 1).trans rfl; have hcz162_2 : w160.cell? ⟨gb267, 2, none⟩ = some (.int .i64 0) := (blk_cell BK267.out 2).trans rfl; have hfz162_0 := blk_frozen BK267.out 0; have hfz162_1 := blk_frozen BK267.out 1; have hfz162_2 := blk_frozen BK267.out 2; obtain ⟨Ao163, co163, eo163⟩ := Kd.R_slice HO263.out; subst eo163; have hcz164_0 : w160.cell? ⟨gb258, 0, none⟩ = some (.int .i64 a0_0) := (blk_cell BK258.out 0).trans rfl; have hcz164_1 : w160.cell? ⟨gb258, 1, none⟩ = some (.slice A0_1 l0_1.length c0_1) := (blk_cell BK258.out 1).trans rfl; have hcz164_2 : w160.cell? ⟨gb258, 2, none⟩ = some (.int .i64 a0_2) := (blk_cell BK258.out 2).trans rfl; have hfz164_0 := blk_frozen BK258.out 0; have hfz164_1 := blk_frozen BK258.out 1; have hfz164_2 := blk_frozen BK258.out 2) | ((with_reducible refine gate_callee (f := 15) rfl ?_); refine goesL_ (some 35) rfl rfl Try.func15 (by kernel_rfl) rfl #[.agg #[.int .i64 a0_0, .slice A0_1 l0_1.length c0_1, .int .i64 a0_2]] rfl (by (try simp only [List.map_toArray, List.map_cons, List.map_nil]); first | done | rfl | (simp only [List.length_drop, List.length_take]; rfl)) ?_; (with_reducible refine (least_May.calls kj4 a0_0 _ _ l0_1 a0_2 true _ ?side1 ?side2 A12.out).mono ?_); (case side1 => exact Kd.C_below HR0_1.out (by repeat (first | (with_reducible first | exact HB.out | apply below_alloc | apply pw_below_drewN | apply below_drew1 | refine below_set ?_ GE258.out | refine below_set ?_ GE267.out) | exact HB.out))); (case side2 => exact HC0_1.out); rintro e w165 ⟨rfl, hb⟩; refine ⟨_, rfl, ?_⟩; have n0_ := Aside0.mk (Kd.R_below (by (with_reducible repeat (first | apply Kd.R_alloc | apply Kd.R_drewN | apply Kd.R_drew)); exact (Kd.R_mono (Kd.R_far (p := ⟨gb267, 2, none⟩) (Kd.R_far (p := ⟨gb267, 1, none⟩) (Kd.R_far (p := ⟨gb267, 0, none⟩) (Kd.R_types HO263.out BK267.out (by decide)) (fun _ hk => hk.2) (.int .i64 t260)) (fun _ hk => hk.2) (.slice Ao163 t261.length co163)) (fun _ hk => hk.2) (.int .i64 t264)) (fun _ h_ => h_.1))) hb); have n1_ := Aside0.mk (blk_below (g := gb258) (o := .cells #[.int .i64 a0_0, .slice A0_1 l0_1.length c0_1, .int .i64 a0_2] 24 (0, 0)) (by (with_reducible repeat (first | refine blk_drewN ?_ _ | refine blk_drew ?_ | refine blk_alloc ?_ _)); refine blk_far ?_ NB258_267.out _; (with_reducible repeat (first | refine blk_drewN ?_ _ | refine blk_drew ?_ | refine blk_alloc ?_ _)); refine blk_far ?_ NB258_267.out _; (with_reducible repeat (first | refine blk_drewN ?_ _ | refine blk_drew ?_ | refine blk_alloc ?_ _)); refine blk_far ?_ NB258_267.out _; (with_reducible repeat (first | refine blk_drewN ?_ _ | refine blk_drew ?_ | refine blk_alloc ?_ _)); exact BK258.out) hb); have n2_ := Aside0.mk (blk_below (g := gb267) (o := .cells #[.int .i64 t260, .slice Ao163 t261.length co163, .int .i64 t264] 24 (0, 0)) (by (with_reducible repeat (first | refine blk_drewN ?_ _ | refine blk_drew ?_ | refine blk_alloc ?_ _)); refine blk_put (cs := #[.int .i64 t260, .slice Ao163 t261.length co163, .int .i64 0]) ?_ 2 _ rfl; (with_reducible repeat (first | refine blk_drewN ?_ _ | refine blk_drew ?_ | refine blk_alloc ?_ _)); refine blk_put (cs := #[.int .i64 t260, .slice none 0 0, .int .i64 0]) ?_ 1 _ rfl; (with_reducible repeat (first | refine blk_drewN ?_ _ | refine blk_drew ?_ | refine blk_alloc ?_ _)); refine blk_put (cs := #[.int .i64 0, .slice none 0 0, .int .i64 0]) ?_ 0 _ rfl; (with_reducible repeat (first | refine blk_drewN ?_ _ | refine blk_drew ?_ | refine blk_alloc ?_ _)); exact BK267.out) hb); have n3_ := Aside0.mk (below_step (by repeat (first | (with_reducible first | exact HB.out | apply below_alloc | apply pw_below_drewN | apply below_drew1 | refine below_set ?_ GE258.out | refine below_set ?_ GE267.out) | exact HB.out)) hb); clear HO263; clear BK258; clear BK267; clear HB; have HO263 := n0_; have BK258 := n1_; have BK267 := n2_; have HB := n3_; clear n0_ n1_ n2_ n3_; (try clear hb); (try clear hb2); (try clear hk); (try clear hi); have hcz166_0 : w165.cell? ⟨gb267, 0, none⟩ = some (.int .i64 t260) := (blk_cell BK267.out 0).trans rfl; have hcz166_1 : w165.cell? ⟨gb267, 1, none⟩ = some (.slice Ao163 t261.length co163) := (blk_cell BK267.out 1).trans rfl; have hcz166_2 : w165.cell? ⟨gb267, 2, none⟩ = some (.int .i64 t264) := (blk_cell BK267.out 2).trans rfl; have hfz166_0 := blk_frozen BK267.out 0; have hfz166_1 := blk_frozen BK267.out 1; have hfz166_2 := blk_frozen BK267.out 2))
                        go_ret
                        exact ⟨by first | rfl | (simp [errW_none, errW_some] <;> rfl) | (simp [*, errW_none, errW_some] <;> rfl), by repeat (first | (with_reducible first | exact HB.out | apply below_alloc | apply pw_below_drewN | apply below_drew1 | refine below_set ?_ GE258.out | refine below_set ?_ GE267.out) | exact HB.out)⟩
                      · rw [if_neg c157] at H
                        have c157b0 : (t260 == 0) = false := beq_eq_false_iff_ne.mpr c157
                        have c157b1 : (t260 != 0) = true := bne_iff_ne.mpr c157
                        rw [hr1] at H
                        cases H
                  · rw [if_neg c147] at H
                    have c147b0 : (t266 == 1) = false := beq_eq_false_iff_ne.mpr c147
                    have c147b1 : (t266 != 1) = true := bne_iff_ne.mpr c147
                    rw [hr1] at H
                    cases H
                · rw [if_neg c146] at H
                  have c146b0 : ((t266 == 0) == false) = false := by simpa using c146
                  (try (have c146b1 : decide ((t266 == 0) = false) = false := by simpa using c146))
                  (try (have c146b2 : ((t266 == 0) == false) = false := by simpa using c146))
                  (try (have c146b3 : ¬ ((t266 == 0) = false) := by simpa using c146))
                  clear c146
                  rw [hr1] at H
                  cases H
            · rw [if_neg c15] at H
              have c15b0 : decide (a1 ≤ 1152921504606846976) = false := decide_eq_false c15
              clear c15
              by_cases c192 : ((t266 == 0) == false) = true
              · rw [if_pos c192] at H
                have c192b0 : ((t266 == 0) == false) = true := c192
                (try (have c192b1 : decide ((t266 == 0) = false) = true := by simpa using c192))
                (try (have c192b2 : ((t266 == 0) == false) = true := by simpa using c192))
                clear c192
                by_cases c193 : t266 = 1
                · rw [if_pos c193] at H
                  have c193b0 : (t266 == 1) = true := beq_iff_eq.mpr c193
                  have c193b1 : (t266 != 1) = false := bne_eq_false_iff_eq.mpr c193
                  clear c193
                  by_cases c194 : t265 = true
                  · subst c194
                    have H1 : (some false) = some r := by rw [if_pos rfl] at H; exact H
                    clear H
                    have H := H1
                    clear H1
                    rw [hr1] at H
                    cases H
                  · replace c194 := Bool.eq_false_iff.mpr c194
                    subst c194
                    have H1 : (if t260 = 0 then (some ((t261.length : Int) == 0)) else (some false)) = some r := by rw [if_neg (show ¬ (false = true) by decide)] at H; exact H
                    clear H
                    have H := H1
                    clear H1
                    by_cases c203 : t260 = 0
                    · rw [if_pos c203] at H
                      have c203b0 : (t260 == 0) = true := beq_iff_eq.mpr c203
                      have c203b1 : (t260 != 0) = false := bne_eq_false_iff_eq.mpr c203
                      clear c203
                      obtain rfl := Option.some.inj H
                      have hcz204_0 : wc.cell? ⟨gb258, 0, none⟩ = some (.int .i64 a0_0) := (blk_cell BK258.out 0).trans rfl
                      have hcz204_1 : wc.cell? ⟨gb258, 1, none⟩ = some (.slice A0_1 l0_1.length c0_1) := (blk_cell BK258.out 1).trans rfl
                      have hcz204_2 : wc.cell? ⟨gb258, 2, none⟩ = some (.int .i64 a0_2) := (blk_cell BK258.out 2).trans rfl
                      have hfz204_0 := blk_frozen BK258.out 0
                      have hfz204_1 := blk_frozen BK258.out 1
                      have hfz204_2 := blk_frozen BK258.out 2
                      go_wp2_with (first | ((with_reducible refine gate_callee (f := 10) rfl ?_); refine goesL_ (some 27) rfl rfl Try.func10 (by kernel_rfl) rfl #[.agg #[.int .i64 a0_0, .slice A0_1 l0_1.length c0_1, .int .i64 a0_2], .int .i64 a1, .int .i64 a2] rfl (by (try simp only [List.map_toArray, List.map_cons, List.map_nil]); first | done | rfl | (simp only [List.length_drop, List.length_take]; rfl)) ?_; (with_reducible refine (least_Met.calls a0_0 _ _ l0_1 a0_2 a1 a2 t260 t261 t264 false t266 _ ?side1 ?side2 A11.out).mono ?_); (case side1 => repeat (first | exact (Kd.C_below HR0_1.out HB.out) | (with_reducible refine Kd.C_alloc ?_ _) | (with_reducible refine Kd.C_drewN ?_ _) | (with_reducible refine Kd.C_drew ?_))); (case side2 => exact HC0_1.out); rintro e w205 ⟨v262, rfl, ho0, hb⟩; refine ⟨_, rfl, ?_⟩; have n0_ := Aside0.mk (Kd.R_lower ho0 (below_size (by repeat (first | (with_reducible first | exact HB.out | apply below_alloc | apply pw_below_drewN | apply below_drew1 | refine below_set ?_ GE258.out) | exact HB.out)))); have n1_ := Aside0.mk (blk_below (g := gb258) (o := .cells #[.int .i64 a0_0, .slice A0_1 l0_1.length c0_1, .int .i64 a0_2] 24 (0, 0)) (by (with_reducible repeat (first | refine blk_drewN ?_ _ | refine blk_drew ?_ | refine blk_alloc ?_ _)); exact BK258.out) hb); have n2_ := Aside0.mk (below_step (by repeat (first | (with_reducible first | exact HB.out | apply below_alloc | apply pw_below_drewN | apply below_drew1 | refine below_set ?_ GE258.out) | exact HB.out)) hb); clear BK258; clear HB; have HO263 := n0_; have BK258 := n1_; have HB := n2_; clear n0_ n1_ n2_; (try clear hb); (try clear hb2); (try clear hk); (try clear hi); (try clear ho0)) | ((with_reducible refine gate_dst (N := 8) rfl ?_); (try (refine gate_guard (by rfl) ?_; dsimp only)); refine box_event ?hg (N := 8) ?hd (cs := #[.int .i64 0, .slice none 0 0, .int .i64 0]) (t := 24) ?hr ?_; (case hd => rfl); (case hg => rfl); (case hr => first | (go_simp; done) | (go_simp; rfl)); intro gb267 hg w206 hbox hb; have n0_ := Aside0.mk (Kd.R_below (by (with_reducible repeat (first | apply Kd.R_alloc | apply Kd.R_drewN | apply Kd.R_drew)); exact HO263.out) hb); have n1_ := Aside0.mk (blk_below (g := gb258) (o := .cells #[.int .i64 a0_0, .slice A0_1 l0_1.length c0_1, .int .i64 a0_2] 24 (0, 0)) (by (with_reducible repeat (first | refine blk_drewN ?_ _ | refine blk_drew ?_ | refine blk_alloc ?_ _)); exact BK258.out) hb); have n2_ := Aside0.mk (below_step (by repeat (first | (with_reducible first | exact HB.out | apply below_alloc | apply pw_below_drewN | apply below_drew1 | refine below_set ?_ GE258.out) | exact HB.out)) hb); have n3_ := Aside0.mk (hbox); have n4_ := Aside0.mk ((by rw [hg]; exact (below_size (by repeat (first | (with_reducible first | exact HB.out | apply below_alloc | apply pw_below_drewN | apply below_drew1 | refine below_set ?_ GE258.out) | exact HB.out))) : w.heap.size ≤ gb267)); have n5_ := Aside0.mk ((by rw [hg]; exact (below_size (by repeat (first | (with_reducible first | exact HB.out | apply below_alloc | apply pw_below_drewN | apply below_drew1 | refine below_set ?_ GE258.out) | exact HB.out))) : w.heap.size ≤ gb267)); have n6_ := Aside0.mk ((by rw [hg]; exact Nat.ne_of_lt (blk_lt (g := gb258) (o := .cells #[.int .i64 a0_0, .slice A0_1 l0_1.length c0_1, .int .i64 a0_2] 24 (0, 0)) (by (with_reducible repeat (first | refine blk_drewN ?_ _ | refine blk_drew ?_ | refine blk_alloc ?_ _)); exact BK258.out)) : gb258 ≠ gb267)); have n7_ := Aside0.mk ((by rw [hg]; exact Nat.ne_of_gt (blk_lt (g := gb258) (o := .cells #[.int .i64 a0_0, .slice A0_1 l0_1.length c0_1, .int .i64 a0_2] 24 (0, 0)) (by (with_reducible repeat (first | refine blk_drewN ?_ _ | refine blk_drew ?_ | refine blk_alloc ?_ _)); exact BK258.out)) : gb267 ≠ gb258)); clear HO263; clear BK258; clear HB; have HO263 := n0_; have BK258 := n1_; have HB := n2_; have BK267 := n3_; have GW267 := n4_; have GE267 := n5_; have NB258_267 := n6_; have NB267_258 := n7_; clear n0_ n1_ n2_ n3_ n4_ n5_ n6_ n7_; clear hb hbox hg; have hnb207 := NB267_258.out; have hnc207 := NB258_267.out; have hcz208_0 : w206.cell? ⟨gb267, 0, none⟩ = some (.int .i64 0) := (blk_cell BK267.out 0).trans rfl; have hcz208_1 : w206.cell? ⟨gb267, 1, none⟩ = some (.slice none 0 0) := (blk_cell BK267.out 1).trans rfl; have hcz208_2 : w206.cell? ⟨gb267, 2, none⟩ = some (.int .i64 0) := (blk_cell BK267.out 2).trans rfl; have hfz208_0 := blk_frozen BK267.out 0; have hfz208_1 := blk_frozen BK267.out 1; have hfz208_2 := blk_frozen BK267.out 2; obtain ⟨Ao209, co209, eo209⟩ := Kd.R_slice HO263.out; subst eo209; have hcz210_0 : w206.cell? ⟨gb258, 0, none⟩ = some (.int .i64 a0_0) := (blk_cell BK258.out 0).trans rfl; have hcz210_1 : w206.cell? ⟨gb258, 1, none⟩ = some (.slice A0_1 l0_1.length c0_1) := (blk_cell BK258.out 1).trans rfl; have hcz210_2 : w206.cell? ⟨gb258, 2, none⟩ = some (.int .i64 a0_2) := (blk_cell BK258.out 2).trans rfl; have hfz210_0 := blk_frozen BK258.out 0; have hfz210_1 := blk_frozen BK258.out 1; have hfz210_2 := blk_frozen BK258.out 2) | ((with_reducible refine gate_callee (f := 15) rfl ?_); refine goesL_ (some 35) rfl rfl Try.func15 (by kernel_rfl) rfl #[.agg #[.int .i64 a0_0, .slice A0_1 l0_1.length c0_1, .int .i64 a0_2]] rfl (by (try simp only [List.map_toArray, List.map_cons, List.map_nil]); first | done | rfl | (simp only [List.length_drop, List.length_take]; rfl)) ?_; (with_reducible refine (least_May.calls kj4 a0_0 _ _ l0_1 a0_2 true _ ?side1 ?side2 A12.out).mono ?_); (case side1 => exact Kd.C_below HR0_1.out (by repeat (first | (with_reducible first | exact HB.out | apply below_alloc | apply pw_below_drewN | apply below_drew1 | refine below_set ?_ GE258.out | refine below_set ?_ GE267.out) | exact HB.out))); (case side2 => exact HC0_1.out); rintro e w211 ⟨rfl, hb⟩; refine ⟨_, rfl, ?_⟩; have n0_ := Aside0.mk (Kd.R_below (by (with_reducible repeat (first | apply Kd.R_alloc | apply Kd.R_drewN | apply Kd.R_drew)); exact (Kd.R_mono (Kd.R_far (p := ⟨gb267, 2, none⟩) (Kd.R_far (p := ⟨gb267, 1, none⟩) (Kd.R_far (p := ⟨gb267, 0, none⟩) (Kd.R_types HO263.out BK267.out (by decide)) (fun _ hk => hk.2) (.int .i64 t260)) (fun _ hk => hk.2) (.slice Ao209 t261.length co209)) (fun _ hk => hk.2) (.int .i64 t264)) (fun _ h_ => h_.1))) hb); have n1_ := Aside0.mk (blk_below (g := gb258) (o := .cells #[.int .i64 a0_0, .slice A0_1 l0_1.length c0_1, .int .i64 a0_2] 24 (0, 0)) (by (with_reducible repeat (first | refine blk_drewN ?_ _ | refine blk_drew ?_ | refine blk_alloc ?_ _)); refine blk_far ?_ NB258_267.out _; (with_reducible repeat (first | refine blk_drewN ?_ _ | refine blk_drew ?_ | refine blk_alloc ?_ _)); refine blk_far ?_ NB258_267.out _; (with_reducible repeat (first | refine blk_drewN ?_ _ | refine blk_drew ?_ | refine blk_alloc ?_ _)); refine blk_far ?_ NB258_267.out _; (with_reducible repeat (first | refine blk_drewN ?_ _ | refine blk_drew ?_ | refine blk_alloc ?_ _)); exact BK258.out) hb); have n2_ := Aside0.mk (blk_below (g := gb267) (o := .cells #[.int .i64 t260, .slice Ao209 t261.length co209, .int .i64 t264] 24 (0, 0)) (by (with_reducible repeat (first | refine blk_drewN ?_ _ | refine blk_drew ?_ | refine blk_alloc ?_ _)); refine blk_put (cs := #[.int .i64 t260, .slice Ao209 t261.length co209, .int .i64 0]) ?_ 2 _ rfl; (with_reducible repeat (first | refine blk_drewN ?_ _ | refine blk_drew ?_ | refine blk_alloc ?_ _)); refine blk_put (cs := #[.int .i64 t260, .slice none 0 0, .int .i64 0]) ?_ 1 _ rfl; (with_reducible repeat (first | refine blk_drewN ?_ _ | refine blk_drew ?_ | refine blk_alloc ?_ _)); refine blk_put (cs := #[.int .i64 0, .slice none 0 0, .int .i64 0]) ?_ 0 _ rfl; (with_reducible repeat (first | refine blk_drewN ?_ _ | refine blk_drew ?_ | refine blk_alloc ?_ _)); exact BK267.out) hb); have n3_ := Aside0.mk (below_step (by repeat (first | (with_reducible first | exact HB.out | apply below_alloc | apply pw_below_drewN | apply below_drew1 | refine below_set ?_ GE258.out | refine below_set ?_ GE267.out) | exact HB.out)) hb); clear HO263; clear BK258; clear BK267; clear HB; have HO263 := n0_; have BK258 := n1_; have BK267 := n2_; have HB := n3_; clear n0_ n1_ n2_ n3_; (try clear hb); (try clear hb2); (try clear hk); (try clear hi); have hcz212_0 : w211.cell? ⟨gb267, 0, none⟩ = some (.int .i64 t260) := (blk_cell BK267.out 0).trans rfl; have hcz212_1 : w211.cell? ⟨gb267, 1, none⟩ = some (.slice Ao209 t261.length co209) := (blk_cell BK267.out 1).trans rfl; have hcz212_2 : w211.cell? ⟨gb267, 2, none⟩ = some (.int .i64 t264) := (blk_cell BK267.out 2).trans rfl; have hfz212_0 := blk_frozen BK267.out 0; have hfz212_1 := blk_frozen BK267.out 1; have hfz212_2 := blk_frozen BK267.out 2))
                      go_ret
                      exact ⟨by first | rfl | (simp [errW_none, errW_some] <;> rfl) | (simp [*, errW_none, errW_some] <;> rfl), by repeat (first | (with_reducible first | exact HB.out | apply below_alloc | apply pw_below_drewN | apply below_drew1 | refine below_set ?_ GE258.out | refine below_set ?_ GE267.out) | exact HB.out)⟩
                    · rw [if_neg c203] at H
                      have c203b0 : (t260 == 0) = false := beq_eq_false_iff_ne.mpr c203
                      have c203b1 : (t260 != 0) = true := bne_iff_ne.mpr c203
                      rw [hr1] at H
                      cases H
                · rw [if_neg c193] at H
                  have c193b0 : (t266 == 1) = false := beq_eq_false_iff_ne.mpr c193
                  have c193b1 : (t266 != 1) = true := bne_iff_ne.mpr c193
                  rw [hr1] at H
                  cases H
              · rw [if_neg c192] at H
                have c192b0 : ((t266 == 0) == false) = false := by simpa using c192
                (try (have c192b1 : decide ((t266 == 0) = false) = false := by simpa using c192))
                (try (have c192b2 : ((t266 == 0) == false) = false := by simpa using c192))
                (try (have c192b3 : ¬ ((t266 == 0) = false) := by simpa using c192))
                clear c192
                rw [hr1] at H
                cases H
          · rw [if_neg c14] at H
            have c14b0 : decide (0 ≤ a1) = false := decide_eq_false c14
            clear c14
            by_cases c238 : ((t266 == 0) == false) = true
            · rw [if_pos c238] at H
              have c238b0 : ((t266 == 0) == false) = true := c238
              (try (have c238b1 : decide ((t266 == 0) = false) = true := by simpa using c238))
              (try (have c238b2 : ((t266 == 0) == false) = true := by simpa using c238))
              clear c238
              by_cases c239 : t266 = 1
              · rw [if_pos c239] at H
                have c239b0 : (t266 == 1) = true := beq_iff_eq.mpr c239
                have c239b1 : (t266 != 1) = false := bne_eq_false_iff_eq.mpr c239
                clear c239
                by_cases c240 : t265 = true
                · subst c240
                  have H1 : (some false) = some r := by rw [if_pos rfl] at H; exact H
                  clear H
                  have H := H1
                  clear H1
                  rw [hr1] at H
                  cases H
                · replace c240 := Bool.eq_false_iff.mpr c240
                  subst c240
                  have H1 : (if t260 = 0 then (some ((t261.length : Int) == 0)) else (some false)) = some r := by rw [if_neg (show ¬ (false = true) by decide)] at H; exact H
                  clear H
                  have H := H1
                  clear H1
                  by_cases c249 : t260 = 0
                  · rw [if_pos c249] at H
                    have c249b0 : (t260 == 0) = true := beq_iff_eq.mpr c249
                    have c249b1 : (t260 != 0) = false := bne_eq_false_iff_eq.mpr c249
                    clear c249
                    obtain rfl := Option.some.inj H
                    have hcz250_0 : wc.cell? ⟨gb258, 0, none⟩ = some (.int .i64 a0_0) := (blk_cell BK258.out 0).trans rfl
                    have hcz250_1 : wc.cell? ⟨gb258, 1, none⟩ = some (.slice A0_1 l0_1.length c0_1) := (blk_cell BK258.out 1).trans rfl
                    have hcz250_2 : wc.cell? ⟨gb258, 2, none⟩ = some (.int .i64 a0_2) := (blk_cell BK258.out 2).trans rfl
                    have hfz250_0 := blk_frozen BK258.out 0
                    have hfz250_1 := blk_frozen BK258.out 1
                    have hfz250_2 := blk_frozen BK258.out 2
                    go_wp2_with (first | ((with_reducible refine gate_callee (f := 10) rfl ?_); refine goesL_ (some 27) rfl rfl Try.func10 (by kernel_rfl) rfl #[.agg #[.int .i64 a0_0, .slice A0_1 l0_1.length c0_1, .int .i64 a0_2], .int .i64 a1, .int .i64 a2] rfl (by (try simp only [List.map_toArray, List.map_cons, List.map_nil]); first | done | rfl | (simp only [List.length_drop, List.length_take]; rfl)) ?_; (with_reducible refine (least_Met.calls a0_0 _ _ l0_1 a0_2 a1 a2 t260 t261 t264 false t266 _ ?side1 ?side2 A11.out).mono ?_); (case side1 => repeat (first | exact (Kd.C_below HR0_1.out HB.out) | (with_reducible refine Kd.C_alloc ?_ _) | (with_reducible refine Kd.C_drewN ?_ _) | (with_reducible refine Kd.C_drew ?_))); (case side2 => exact HC0_1.out); rintro e w251 ⟨v262, rfl, ho0, hb⟩; refine ⟨_, rfl, ?_⟩; have n0_ := Aside0.mk (Kd.R_lower ho0 (below_size (by repeat (first | (with_reducible first | exact HB.out | apply below_alloc | apply pw_below_drewN | apply below_drew1 | refine below_set ?_ GE258.out) | exact HB.out)))); have n1_ := Aside0.mk (blk_below (g := gb258) (o := .cells #[.int .i64 a0_0, .slice A0_1 l0_1.length c0_1, .int .i64 a0_2] 24 (0, 0)) (by (with_reducible repeat (first | refine blk_drewN ?_ _ | refine blk_drew ?_ | refine blk_alloc ?_ _)); exact BK258.out) hb); have n2_ := Aside0.mk (below_step (by repeat (first | (with_reducible first | exact HB.out | apply below_alloc | apply pw_below_drewN | apply below_drew1 | refine below_set ?_ GE258.out) | exact HB.out)) hb); clear BK258; clear HB; have HO263 := n0_; have BK258 := n1_; have HB := n2_; clear n0_ n1_ n2_; (try clear hb); (try clear hb2); (try clear hk); (try clear hi); (try clear ho0)) | ((with_reducible refine gate_dst (N := 8) rfl ?_); (try (refine gate_guard (by rfl) ?_; dsimp only)); refine box_event ?hg (N := 8) ?hd (cs := #[.int .i64 0, .slice none 0 0, .int .i64 0]) (t := 24) ?hr ?_; (case hd => rfl); (case hg => rfl); (case hr => first | (go_simp; done) | (go_simp; rfl)); intro gb267 hg w252 hbox hb; have n0_ := Aside0.mk (Kd.R_below (by (with_reducible repeat (first | apply Kd.R_alloc | apply Kd.R_drewN | apply Kd.R_drew)); exact HO263.out) hb); have n1_ := Aside0.mk (blk_below (g := gb258) (o := .cells #[.int .i64 a0_0, .slice A0_1 l0_1.length c0_1, .int .i64 a0_2] 24 (0, 0)) (by (with_reducible repeat (first | refine blk_drewN ?_ _ | refine blk_drew ?_ | refine blk_alloc ?_ _)); exact BK258.out) hb); have n2_ := Aside0.mk (below_step (by repeat (first | (with_reducible first | exact HB.out | apply below_alloc | apply pw_below_drewN | apply below_drew1 | refine below_set ?_ GE258.out) | exact HB.out)) hb); have n3_ := Aside0.mk (hbox); have n4_ := Aside0.mk ((by rw [hg]; exact (below_size (by repeat (first | (with_reducible first | exact HB.out | apply below_alloc | apply pw_below_drewN | apply below_drew1 | refine below_set ?_ GE258.out) | exact HB.out))) : w.heap.size ≤ gb267)); have n5_ := Aside0.mk ((by rw [hg]; exact (below_size (by repeat (first | (with_reducible first | exact HB.out | apply below_alloc | apply pw_below_drewN | apply below_drew1 | refine below_set ?_ GE258.out) | exact HB.out))) : w.heap.size ≤ gb267)); have n6_ := Aside0.mk ((by rw [hg]; exact Nat.ne_of_lt (blk_lt (g := gb258) (o := .cells #[.int .i64 a0_0, .slice A0_1 l0_1.length c0_1, .int .i64 a0_2] 24 (0, 0)) (by (with_reducible repeat (first | refine blk_drewN ?_ _ | refine blk_drew ?_ | refine blk_alloc ?_ _)); exact BK258.out)) : gb258 ≠ gb267)); have n7_ := Aside0.mk ((by rw [hg]; exact Nat.ne_of_gt (blk_lt (g := gb258) (o := .cells #[.int .i64 a0_0, .slice A0_1 l0_1.length c0_1, .int .i64 a0_2] 24 (0, 0)) (by (with_reducible repeat (first | refine blk_drewN ?_ _ | refine blk_drew ?_ | refine blk_alloc ?_ _)); exact BK258.out)) : gb267 ≠ gb258)); clear HO263; clear BK258; clear HB; have HO263 := n0_; have BK258 := n1_; have HB := n2_; have BK267 := n3_; have GW267 := n4_; have GE267 := n5_; have NB258_267 := n6_; have NB267_258 := n7_; clear n0_ n1_ n2_ n3_ n4_ n5_ n6_ n7_; clear hb hbox hg; have hnb253 := NB267_258.out; have hnc253 := NB258_267.out; have hcz254_0 : w252.cell? ⟨gb267, 0, none⟩ = some (.int .i64 0) := (blk_cell BK267.out 0).trans rfl; have hcz254_1 : w252.cell? ⟨gb267, 1, none⟩ = some (.slice none 0 0) := (blk_cell BK267.out 1).trans rfl; have hcz254_2 : w252.cell? ⟨gb267, 2, none⟩ = some (.int .i64 0) := (blk_cell BK267.out 2).trans rfl; have hfz254_0 := blk_frozen BK267.out 0; have hfz254_1 := blk_frozen BK267.out 1; have hfz254_2 := blk_frozen BK267.out 2; obtain ⟨Ao255, co255, eo255⟩ := Kd.R_slice HO263.out; subst eo255; have hcz256_0 : w252.cell? ⟨gb258, 0, none⟩ = some (.int .i64 a0_0) := (blk_cell BK258.out 0).trans rfl; have hcz256_1 : w252.cell? ⟨gb258, 1, none⟩ = some (.slice A0_1 l0_1.length c0_1) := (blk_cell BK258.out 1).trans rfl; have hcz256_2 : w252.cell? ⟨gb258, 2, none⟩ = some (.int .i64 a0_2) := (blk_cell BK258.out 2).trans rfl; have hfz256_0 := blk_frozen BK258.out 0; have hfz256_1 := blk_frozen BK258.out 1; have hfz256_2 := blk_frozen BK258.out 2) | ((with_reducible refine gate_callee (f := 15) rfl ?_); refine goesL_ (some 35) rfl rfl Try.func15 (by kernel_rfl) rfl #[.agg #[.int .i64 a0_0, .slice A0_1 l0_1.length c0_1, .int .i64 a0_2]] rfl (by (try simp only [List.map_toArray, List.map_cons, List.map_nil]); first | done | rfl | (simp only [List.length_drop, List.length_take]; rfl)) ?_; (with_reducible refine (least_May.calls kj4 a0_0 _ _ l0_1 a0_2 true _ ?side1 ?side2 A12.out).mono ?_); (case side1 => exact Kd.C_below HR0_1.out (by repeat (first | (with_reducible first | exact HB.out | apply below_alloc | apply pw_below_drewN | apply below_drew1 | refine below_set ?_ GE258.out | refine below_set ?_ GE267.out) | exact HB.out))); (case side2 => exact HC0_1.out); rintro e w257 ⟨rfl, hb⟩; refine ⟨_, rfl, ?_⟩; have n0_ := Aside0.mk (Kd.R_below (by (with_reducible repeat (first | apply Kd.R_alloc | apply Kd.R_drewN | apply Kd.R_drew)); exact (Kd.R_mono (Kd.R_far (p := ⟨gb267, 2, none⟩) (Kd.R_far (p := ⟨gb267, 1, none⟩) (Kd.R_far (p := ⟨gb267, 0, none⟩) (Kd.R_types HO263.out BK267.out (by decide)) (fun _ hk => hk.2) (.int .i64 t260)) (fun _ hk => hk.2) (.slice Ao255 t261.length co255)) (fun _ hk => hk.2) (.int .i64 t264)) (fun _ h_ => h_.1))) hb); have n1_ := Aside0.mk (blk_below (g := gb258) (o := .cells #[.int .i64 a0_0, .slice A0_1 l0_1.length c0_1, .int .i64 a0_2] 24 (0, 0)) (by (with_reducible repeat (first | refine blk_drewN ?_ _ | refine blk_drew ?_ | refine blk_alloc ?_ _)); refine blk_far ?_ NB258_267.out _; (with_reducible repeat (first | refine blk_drewN ?_ _ | refine blk_drew ?_ | refine blk_alloc ?_ _)); refine blk_far ?_ NB258_267.out _; (with_reducible repeat (first | refine blk_drewN ?_ _ | refine blk_drew ?_ | refine blk_alloc ?_ _)); refine blk_far ?_ NB258_267.out _; (with_reducible repeat (first | refine blk_drewN ?_ _ | refine blk_drew ?_ | refine blk_alloc ?_ _)); exact BK258.out) hb); have n2_ := Aside0.mk (blk_below (g := gb267) (o := .cells #[.int .i64 t260, .slice Ao255 t261.length co255, .int .i64 t264] 24 (0, 0)) (by (with_reducible repeat (first | refine blk_drewN ?_ _ | refine blk_drew ?_ | refine blk_alloc ?_ _)); refine blk_put (cs := #[.int .i64 t260, .slice Ao255 t261.length co255, .int .i64 0]) ?_ 2 _ rfl; (with_reducible repeat (first | refine blk_drewN ?_ _ | refine blk_drew ?_ | refine blk_alloc ?_ _)); refine blk_put (cs := #[.int .i64 t260, .slice none 0 0, .int .i64 0]) ?_ 1 _ rfl; (with_reducible repeat (first | refine blk_drewN ?_ _ | refine blk_drew ?_ | refine blk_alloc ?_ _)); refine blk_put (cs := #[.int .i64 0, .slice none 0 0, .int .i64 0]) ?_ 0 _ rfl; (with_reducible repeat (first | refine blk_drewN ?_ _ | refine blk_drew ?_ | refine blk_alloc ?_ _)); exact BK267.out) hb); have n3_ := Aside0.mk (below_step (by repeat (first | (with_reducible first | exact HB.out | apply below_alloc | apply pw_below_drewN | apply below_drew1 | refine below_set ?_ GE258.out | refine below_set ?_ GE267.out) | exact HB.out)) hb); clear HO263; clear BK258; clear BK267; clear HB; have HO263 := n0_; have BK258 := n1_; have BK267 := n2_; have HB := n3_; clear n0_ n1_ n2_ n3_; (try clear hb); (try clear hb2); (try clear hk); (try clear hi); have hcz258_0 : w257.cell? ⟨gb267, 0, none⟩ = some (.int .i64 t260) := (blk_cell BK267.out 0).trans rfl; have hcz258_1 : w257.cell? ⟨gb267, 1, none⟩ = some (.slice Ao255 t261.length co255) := (blk_cell BK267.out 1).trans rfl; have hcz258_2 : w257.cell? ⟨gb267, 2, none⟩ = some (.int .i64 t264) := (blk_cell BK267.out 2).trans rfl; have hfz258_0 := blk_frozen BK267.out 0; have hfz258_1 := blk_frozen BK267.out 1; have hfz258_2 := blk_frozen BK267.out 2))
                    go_ret
                    exact ⟨by first | rfl | (simp [errW_none, errW_some] <;> rfl) | (simp [*, errW_none, errW_some] <;> rfl), by repeat (first | (with_reducible first | exact HB.out | apply below_alloc | apply pw_below_drewN | apply below_drew1 | refine below_set ?_ GE258.out | refine below_set ?_ GE267.out) | exact HB.out)⟩
                  · rw [if_neg c249] at H
                    have c249b0 : (t260 == 0) = false := beq_eq_false_iff_ne.mpr c249
                    have c249b1 : (t260 != 0) = true := bne_iff_ne.mpr c249
                    rw [hr1] at H
                    cases H
              · rw [if_neg c239] at H
                have c239b0 : (t266 == 1) = false := beq_eq_false_iff_ne.mpr c239
                have c239b1 : (t266 != 1) = true := bne_iff_ne.mpr c239
                rw [hr1] at H
                cases H
            · rw [if_neg c238] at H
              have c238b0 : ((t266 == 0) == false) = false := by simpa using c238
              (try (have c238b1 : decide ((t266 == 0) = false) = false := by simpa using c238))
              (try (have c238b2 : ((t266 == 0) == false) = false := by simpa using c238))
              (try (have c238b3 : ¬ ((t266 == 0) = false) := by simpa using c238))
              clear c238
              rw [hr1] at H
              cases H
        · replace c13 := Bool.eq_false_iff.mpr c13
          subst c13
          have H1 : (if ((t266 == 0) == false) = true then (if t266 = 1 then (if t265 = true then (some false) else (if t260 = 0 then (some ((t261.length : Int) == 0)) else (some false))) else (some false)) else (some false)) = some r := by rw [if_neg (show ¬ (false = true) by decide)] at H; exact H
          clear H
          have H := H1
          clear H1
          by_cases c284 : ((t266 == 0) == false) = true
          · rw [if_pos c284] at H
            have c284b0 : ((t266 == 0) == false) = true := c284
            (try (have c284b1 : decide ((t266 == 0) = false) = true := by simpa using c284))
            (try (have c284b2 : ((t266 == 0) == false) = true := by simpa using c284))
            clear c284
            by_cases c285 : t266 = 1
            · rw [if_pos c285] at H
              have c285b0 : (t266 == 1) = true := beq_iff_eq.mpr c285
              have c285b1 : (t266 != 1) = false := bne_eq_false_iff_eq.mpr c285
              clear c285
              by_cases c286 : t265 = true
              · subst c286
                have H1 : (some false) = some r := by rw [if_pos rfl] at H; exact H
                clear H
                have H := H1
                clear H1
                rw [hr1] at H
                cases H
              · replace c286 := Bool.eq_false_iff.mpr c286
                subst c286
                have H1 : (if t260 = 0 then (some ((t261.length : Int) == 0)) else (some false)) = some r := by rw [if_neg (show ¬ (false = true) by decide)] at H; exact H
                clear H
                have H := H1
                clear H1
                by_cases c295 : t260 = 0
                · rw [if_pos c295] at H
                  have c295b0 : (t260 == 0) = true := beq_iff_eq.mpr c295
                  have c295b1 : (t260 != 0) = false := bne_eq_false_iff_eq.mpr c295
                  clear c295
                  obtain rfl := Option.some.inj H
                  have hcz296_0 : wc.cell? ⟨gb258, 0, none⟩ = some (.int .i64 a0_0) := (blk_cell BK258.out 0).trans rfl
                  have hcz296_1 : wc.cell? ⟨gb258, 1, none⟩ = some (.slice A0_1 l0_1.length c0_1) := (blk_cell BK258.out 1).trans rfl
                  have hcz296_2 : wc.cell? ⟨gb258, 2, none⟩ = some (.int .i64 a0_2) := (blk_cell BK258.out 2).trans rfl
                  have hfz296_0 := blk_frozen BK258.out 0
                  have hfz296_1 := blk_frozen BK258.out 1
                  have hfz296_2 := blk_frozen BK258.out 2
                  go_wp2_with (first | ((with_reducible refine gate_callee (f := 10) rfl ?_); refine goesL_ (some 27) rfl rfl Try.func10 (by kernel_rfl) rfl #[.agg #[.int .i64 a0_0, .slice A0_1 l0_1.length c0_1, .int .i64 a0_2], .int .i64 a1, .int .i64 a2] rfl (by (try simp only [List.map_toArray, List.map_cons, List.map_nil]); first | done | rfl | (simp only [List.length_drop, List.length_take]; rfl)) ?_; (with_reducible refine (least_Met.calls a0_0 _ _ l0_1 a0_2 a1 a2 t260 t261 t264 false t266 _ ?side1 ?side2 A11.out).mono ?_); (case side1 => repeat (first | exact (Kd.C_below HR0_1.out HB.out) | (with_reducible refine Kd.C_alloc ?_ _) | (with_reducible refine Kd.C_drewN ?_ _) | (with_reducible refine Kd.C_drew ?_))); (case side2 => exact HC0_1.out); rintro e w297 ⟨v262, rfl, ho0, hb⟩; refine ⟨_, rfl, ?_⟩; have n0_ := Aside0.mk (Kd.R_lower ho0 (below_size (by repeat (first | (with_reducible first | exact HB.out | apply below_alloc | apply pw_below_drewN | apply below_drew1 | refine below_set ?_ GE258.out) | exact HB.out)))); have n1_ := Aside0.mk (blk_below (g := gb258) (o := .cells #[.int .i64 a0_0, .slice A0_1 l0_1.length c0_1, .int .i64 a0_2] 24 (0, 0)) (by (with_reducible repeat (first | refine blk_drewN ?_ _ | refine blk_drew ?_ | refine blk_alloc ?_ _)); exact BK258.out) hb); have n2_ := Aside0.mk (below_step (by repeat (first | (with_reducible first | exact HB.out | apply below_alloc | apply pw_below_drewN | apply below_drew1 | refine below_set ?_ GE258.out) | exact HB.out)) hb); clear BK258; clear HB; have HO263 := n0_; have BK258 := n1_; have HB := n2_; clear n0_ n1_ n2_; (try clear hb); (try clear hb2); (try clear hk); (try clear hi); (try clear ho0)) | ((with_reducible refine gate_dst (N := 8) rfl ?_); (try (refine gate_guard (by rfl) ?_; dsimp only)); refine box_event ?hg (N := 8) ?hd (cs := #[.int .i64 0, .slice none 0 0, .int .i64 0]) (t := 24) ?hr ?_; (case hd => rfl); (case hg => rfl); (case hr => first | (go_simp; done) | (go_simp; rfl)); intro gb267 hg w298 hbox hb; have n0_ := Aside0.mk (Kd.R_below (by (with_reducible repeat (first | apply Kd.R_alloc | apply Kd.R_drewN | apply Kd.R_drew)); exact HO263.out) hb); have n1_ := Aside0.mk (blk_below (g := gb258) (o := .cells #[.int .i64 a0_0, .slice A0_1 l0_1.length c0_1, .int .i64 a0_2] 24 (0, 0)) (by (with_reducible repeat (first | refine blk_drewN ?_ _ | refine blk_drew ?_ | refine blk_alloc ?_ _)); exact BK258.out) hb); have n2_ := Aside0.mk (below_step (by repeat (first | (with_reducible first | exact HB.out | apply below_alloc | apply pw_below_drewN | apply below_drew1 | refine below_set ?_ GE258.out) | exact HB.out)) hb); have n3_ := Aside0.mk (hbox); have n4_ := Aside0.mk ((by rw [hg]; exact (below_size (by repeat (first | (with_reducible first | exact HB.out | apply below_alloc | apply pw_below_drewN | apply below_drew1 | refine below_set ?_ GE258.out) | exact HB.out))) : w.heap.size ≤ gb267)); have n5_ := Aside0.mk ((by rw [hg]; exact (below_size (by repeat (first | (with_reducible first | exact HB.out | apply below_alloc | apply pw_below_drewN | apply below_drew1 | refine below_set ?_ GE258.out) | exact HB.out))) : w.heap.size ≤ gb267)); have n6_ := Aside0.mk ((by rw [hg]; exact Nat.ne_of_lt (blk_lt (g := gb258) (o := .cells #[.int .i64 a0_0, .slice A0_1 l0_1.length c0_1, .int .i64 a0_2] 24 (0, 0)) (by (with_reducible repeat (first | refine blk_drewN ?_ _ | refine blk_drew ?_ | refine blk_alloc ?_ _)); exact BK258.out)) : gb258 ≠ gb267)); have n7_ := Aside0.mk ((by rw [hg]; exact Nat.ne_of_gt (blk_lt (g := gb258) (o := .cells #[.int .i64 a0_0, .slice A0_1 l0_1.length c0_1, .int .i64 a0_2] 24 (0, 0)) (by (with_reducible repeat (first | refine blk_drewN ?_ _ | refine blk_drew ?_ | refine blk_alloc ?_ _)); exact BK258.out)) : gb267 ≠ gb258)); clear HO263; clear BK258; clear HB; have HO263 := n0_; have BK258 := n1_; have HB := n2_; have BK267 := n3_; have GW267 := n4_; have GE267 := n5_; have NB258_267 := n6_; have NB267_258 := n7_; clear n0_ n1_ n2_ n3_ n4_ n5_ n6_ n7_; clear hb hbox hg; have hnb299 := NB267_258.out; have hnc299 := NB258_267.out; have hcz300_0 : w298.cell? ⟨gb267, 0, none⟩ = some (.int .i64 0) := (blk_cell BK267.out 0).trans rfl; have hcz300_1 : w298.cell? ⟨gb267, 1, none⟩ = some (.slice none 0 0) := (blk_cell BK267.out 1).trans rfl; have hcz300_2 : w298.cell? ⟨gb267, 2, none⟩ = some (.int .i64 0) := (blk_cell BK267.out 2).trans rfl; have hfz300_0 := blk_frozen BK267.out 0; have hfz300_1 := blk_frozen BK267.out 1; have hfz300_2 := blk_frozen BK267.out 2; obtain ⟨Ao301, co301, eo301⟩ := Kd.R_slice HO263.out; subst eo301; have hcz302_0 : w298.cell? ⟨gb258, 0, none⟩ = some (.int .i64 a0_0) := (blk_cell BK258.out 0).trans rfl; have hcz302_1 : w298.cell? ⟨gb258, 1, none⟩ = some (.slice A0_1 l0_1.length c0_1) := (blk_cell BK258.out 1).trans rfl; have hcz302_2 : w298.cell? ⟨gb258, 2, none⟩ = some (.int .i64 a0_2) := (blk_cell BK258.out 2).trans rfl; have hfz302_0 := blk_frozen BK258.out 0; have hfz302_1 := blk_frozen BK258.out 1; have hfz302_2 := blk_frozen BK258.out 2) | ((with_reducible refine gate_callee (f := 15) rfl ?_); refine goesL_ (some 35) rfl rfl Try.func15 (by kernel_rfl) rfl #[.agg #[.int .i64 a0_0, .slice A0_1 l0_1.length c0_1, .int .i64 a0_2]] rfl (by (try simp only [List.map_toArray, List.map_cons, List.map_nil]); first | done | rfl | (simp only [List.length_drop, List.length_take]; rfl)) ?_; (with_reducible refine (least_May.calls kj4 a0_0 _ _ l0_1 a0_2 false _ ?side1 ?side2 A12.out).mono ?_); (case side1 => exact Kd.C_below HR0_1.out (by repeat (first | (with_reducible first | exact HB.out | apply below_alloc | apply pw_below_drewN | apply below_drew1 | refine below_set ?_ GE258.out | refine below_set ?_ GE267.out) | exact HB.out))); (case side2 => exact HC0_1.out); rintro e w303 ⟨rfl, hb⟩; refine ⟨_, rfl, ?_⟩; have n0_ := Aside0.mk (Kd.R_below (by (with_reducible repeat (first | apply Kd.R_alloc | apply Kd.R_drewN | apply Kd.R_drew)); exact (Kd.R_mono (Kd.R_far (p := ⟨gb267, 2, none⟩) (Kd.R_far (p := ⟨gb267, 1, none⟩) (Kd.R_far (p := ⟨gb267, 0, none⟩) (Kd.R_types HO263.out BK267.out (by decide)) (fun _ hk => hk.2) (.int .i64 t260)) (fun _ hk => hk.2) (.slice Ao301 t261.length co301)) (fun _ hk => hk.2) (.int .i64 t264)) (fun _ h_ => h_.1))) hb); have n1_ := Aside0.mk (blk_below (g := gb258) (o := .cells #[.int .i64 a0_0, .slice A0_1 l0_1.length c0_1, .int .i64 a0_2] 24 (0, 0)) (by (with_reducible repeat (first | refine blk_drewN ?_ _ | refine blk_drew ?_ | refine blk_alloc ?_ _)); refine blk_far ?_ NB258_267.out _; (with_reducible repeat (first | refine blk_drewN ?_ _ | refine blk_drew ?_ | refine blk_alloc ?_ _)); refine blk_far ?_ NB258_267.out _; (with_reducible repeat (first | refine blk_drewN ?_ _ | refine blk_drew ?_ | refine blk_alloc ?_ _)); refine blk_far ?_ NB258_267.out _; (with_reducible repeat (first | refine blk_drewN ?_ _ | refine blk_drew ?_ | refine blk_alloc ?_ _)); exact BK258.out) hb); have n2_ := Aside0.mk (blk_below (g := gb267) (o := .cells #[.int .i64 t260, .slice Ao301 t261.length co301, .int .i64 t264] 24 (0, 0)) (by (with_reducible repeat (first | refine blk_drewN ?_ _ | refine blk_drew ?_ | refine blk_alloc ?_ _)); refine blk_put (cs := #[.int .i64 t260, .slice Ao301 t261.length co301, .int .i64 0]) ?_ 2 _ rfl; (with_reducible repeat (first | refine blk_drewN ?_ _ | refine blk_drew ?_ | refine blk_alloc ?_ _)); refine blk_put (cs := #[.int .i64 t260, .slice none 0 0, .int .i64 0]) ?_ 1 _ rfl; (with_reducible repeat (first | refine blk_drewN ?_ _ | refine blk_drew ?_ | refine blk_alloc ?_ _)); refine blk_put (cs := #[.int .i64 0, .slice none 0 0, .int .i64 0]) ?_ 0 _ rfl; (with_reducible repeat (first | refine blk_drewN ?_ _ | refine blk_drew ?_ | refine blk_alloc ?_ _)); exact BK267.out) hb); have n3_ := Aside0.mk (below_step (by repeat (first | (with_reducible first | exact HB.out | apply below_alloc | apply pw_below_drewN | apply below_drew1 | refine below_set ?_ GE258.out | refine below_set ?_ GE267.out) | exact HB.out)) hb); clear HO263; clear BK258; clear BK267; clear HB; have HO263 := n0_; have BK258 := n1_; have BK267 := n2_; have HB := n3_; clear n0_ n1_ n2_ n3_; (try clear hb); (try clear hb2); (try clear hk); (try clear hi); have hcz304_0 : w303.cell? ⟨gb267, 0, none⟩ = some (.int .i64 t260) := (blk_cell BK267.out 0).trans rfl; have hcz304_1 : w303.cell? ⟨gb267, 1, none⟩ = some (.slice Ao301 t261.length co301) := (blk_cell BK267.out 1).trans rfl; have hcz304_2 : w303.cell? ⟨gb267, 2, none⟩ = some (.int .i64 t264) := (blk_cell BK267.out 2).trans rfl; have hfz304_0 := blk_frozen BK267.out 0; have hfz304_1 := blk_frozen BK267.out 1; have hfz304_2 := blk_frozen BK267.out 2))
                  go_ret
                  exact ⟨by first | rfl | (simp [errW_none, errW_some] <;> rfl) | (simp [*, errW_none, errW_some] <;> rfl), by repeat (first | (with_reducible first | exact HB.out | apply below_alloc | apply pw_below_drewN | apply below_drew1 | refine below_set ?_ GE258.out | refine below_set ?_ GE267.out) | exact HB.out)⟩
                · rw [if_neg c295] at H
                  have c295b0 : (t260 == 0) = false := beq_eq_false_iff_ne.mpr c295
                  have c295b1 : (t260 != 0) = true := bne_iff_ne.mpr c295
                  rw [hr1] at H
                  cases H
            · rw [if_neg c285] at H
              have c285b0 : (t266 == 1) = false := beq_eq_false_iff_ne.mpr c285
              have c285b1 : (t266 != 1) = true := bne_iff_ne.mpr c285
              rw [hr1] at H
              cases H
          · rw [if_neg c284] at H
            have c284b0 : ((t266 == 0) == false) = false := by simpa using c284
            (try (have c284b1 : decide ((t266 == 0) = false) = false := by simpa using c284))
            (try (have c284b2 : ((t266 == 0) == false) = false := by simpa using c284))
            (try (have c284b3 : ¬ ((t266 == 0) = false) := by simpa using c284))
            clear c284
            rw [hr1] at H
            cases H
end Go.Proofs.Ytenpchgnjhmaaaa.S
