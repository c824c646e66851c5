/- What the program's functions compute, as plain functions, and that they do: walks laid by a program of the session's. -/
import Derived.Test.YtenpchgnjhmaaaaSx0
import Derived.Test.YtenpchgnjhmaaaaSx1
import Derived.Test.YtenpchgnjhmaaaaSx2
import Derived.Test.YtenpchgnjhmaaaaSx6
import Derived.Test.YtenpchgnjhmaaaaGLeast
import Derived.Test.YtenpchgnjhmaaaaGLeast
namespace Go.Proofs.Ytenpchgnjhmaaaa.S
open Go.RowKit Go.Proofs.YtenpchgnjhmaaaaW.PrintWords Go.Proofs.YtenpchgnjhmaaaaW.PrintLast Go.Proofs.YtenpchgnjhmaaaaW.PrintMore
open Go.Proofs.Ytenpchgnjhmaaaa.Given
attribute [local go_sem] max2_int min2_int max_two min_two max_three min_three max_four min_four   -- for this text's walks alone
set_option linter.unusedVariables false
set_option linter.unusedSimpArgs false

attribute [local go_sem high] eqA38
/-! ### fourinhandlaw09_LeastTurns: function 5 -/
def fourinhandlaw09_LeastTurns.j0 : Nat → Int → Int → Bool → Bool → Int → List (S38) → Int → Option (Bool)
  | 0, _, _, _, _, _, _, _ => none
  | k + 1, x1, x2, x7, x22, x226000, x226001, x226002 => if x22 = true then (some x7) else ((least_Met.f x226000 x226001 x226002 x1 x2).bind fun bt227 => (if bt227.2.2.2.2 = 0 then ((least_Of.f x226000 x226001 x226002 x1).bind fun bt235 => (if bt235.2 = true then (if bt227.2.2.2.1 = true then (if x2 > (wrap64 (2 * bt235.1)) then (if x226002 = 7 then (if (bt227.2.1.length : Int) = 1 then (if 0 < (bt227.2.1.length : Int) then (if (((rd_T38 bt227.2.1 0).f0) == x1 && (((rd_T38 bt227.2.1 0).f1) == x2)) = true then (some (bt227.2.2.1 == 0)) else (some false)) else (none)) else (some false)) else (some false)) else (some false)) else (if ((decide (x2 > (wrap64 (2 * bt235.1)))) == (decide (bt227.2.2.1 > 0))) = true then (if (x2 > (wrap64 (2 * bt235.1))) then (if bt227.2.2.1 = (wrap64 (x226002 + 1)) then (if bt227.1 = x226000 then ((least_May.f k bt227.1 bt227.2.1 bt227.2.2.1).bind fun t238 => (some t238)) else (some false)) else (some false)) else (if bt227.1 = x226000 then ((least_May.f k bt227.1 bt227.2.1 bt227.2.2.1).bind fun t239 => (some t239)) else (some false))) else (some false))) else (if bt227.2.2.2.1 = true then (some false) else (if (false == (decide (bt227.2.2.1 > 0))) = true then (if bt227.1 = x226000 then ((least_May.f k bt227.1 bt227.2.1 bt227.2.2.1).bind fun t240 => (some t240)) else (some false)) else (some false))))) else (if bt227.2.2.2.1 = true then (some false) else (some ((bt227.2.1.length : Int) == 0)))))
def fourinhandlaw09_LeastTurns.f (k : Nat) (a0_0 : Int) (l0_1 : List (S38)) (a0_2 : Int) (a1 : Int) (a2 : Int) : Option (Bool) := (fourinhandlaw09_awake.f k).bind fun t226 => (if t226 = true then (fourinhandlaw09_LeastTurns.j0 k a1 a2 t226 (decide ((l0_1.length : Int) > 200)) a0_0 l0_1 a0_2) else (fourinhandlaw09_LeastTurns.j0 k a1 a2 t226 true a0_0 l0_1 a0_2))
theorem fourinhandlaw09_LeastTurns.mono_l : ∀ k, (∀ y0 y1 y2 y3 y4 y5 y6, LeO (fourinhandlaw09_LeastTurns.j0 k y0 y1 y2 y3 y4 y5 y6) (fourinhandlaw09_LeastTurns.j0 (k + 1) y0 y1 y2 y3 y4 y5 y6))
  | 0 => fun _ _ _ _ _ _ _ r h => by simp [fourinhandlaw09_LeastTurns.j0] at h
  | k + 1 => by
    have ih0 := fourinhandlaw09_LeastTurns.mono_l k
    · intro y0 y1 y2 y3 y4 y5 y6
      unfold fourinhandlaw09_LeastTurns.j0
      repeat' first
      | (with_reducible exact ih0 _ _ _ _ _ _ _)
      | (with_reducible exact fourinhandlaw09_awake.mono _)
      | (with_reducible exact least_May.mono _ _ _ _)
      | (with_reducible exact LeO.refl _)
      | (with_reducible exact LeO.none _)
      | (with_reducible refine LeO.ite ?_ ?_)
      | (with_reducible refine LeO.bind ?_ (fun _ => ?_))
      | exact ih0 _ _ _ _ _ _ _
      | exact fourinhandlaw09_awake.mono _
      | exact least_May.mono _ _ _ _
      | exact LeO.none _
      | refine LeO.ite ?_ ?_
      | refine LeO.bind ?_ (fun _ => ?_)
theorem fourinhandlaw09_LeastTurns.mono : ∀ a0 a1 a2 a3 a4 k, LeO (fourinhandlaw09_LeastTurns.f k a0 a1 a2 a3 a4) (fourinhandlaw09_LeastTurns.f (k + 1) a0 a1 a2 a3 a4) := by
  intro a0 a1 a2 a3 a4 k
  have ih0 := fourinhandlaw09_LeastTurns.mono_l k
  unfold fourinhandlaw09_LeastTurns.f
  repeat' first
      | (with_reducible exact ih0 _ _ _ _ _ _ _)
      | (with_reducible exact fourinhandlaw09_awake.mono _)
      | (with_reducible exact least_May.mono _ _ _ _)
      | (with_reducible exact LeO.refl _)
      | (with_reducible exact LeO.none _)
      | (with_reducible refine LeO.ite ?_ ?_)
      | (with_reducible refine LeO.bind ?_ (fun _ => ?_))
      | exact ih0 _ _ _ _ _ _ _
      | exact fourinhandlaw09_awake.mono _
      | exact least_May.mono _ _ _ _
      | exact LeO.none _
      | refine LeO.ite ?_ ?_
      | refine LeO.bind ?_ (fun _ => ?_)
set_option maxHeartbeats 8000000 in
set_option maxRecDepth 100000 in
theorem fourinhandlaw09_LeastTurns.calls (k : Nat) (a0_0 : Int) (A0_1 : Option Addr) (c0_1 : Nat) (l0_1 : List (S38)) (a0_2 : Int) (a1 : Int) (a2 : Int) (r : Bool) (w : World) (hr0_1 : Kd.C k38 w A0_1 l0_1.length l0_1) (hc0_1 : l0_1.length ≤ c0_1) (h : fourinhandlaw09_LeastTurns.f k a0_0 l0_1 a0_2 a1 a2 = some r) (hr1 : r = true) :
    Calls Try.prog 5 #[.agg #[.int .i64 a0_0, .slice A0_1 l0_1.length c0_1, .int .i64 a0_2], .int .i64 a1, .int .i64 a2] w fun e w' => e = .returned (.bool r) ∧ Below w.heap.size w w' := by
  have hu24 := Try.underlying24
  have hu38 := Try.underlying38
  have HR0_1 := Aside0.mk hr0_1
  have HC0_1 := Aside0.mk hc0_1
  clear hr0_1 hc0_1
  have HB := Aside0.mk (Below.refl w.heap.size w)
  have H : ((fourinhandlaw09_awake.f k).bind fun t226 => (if t226 = true then (fourinhandlaw09_LeastTurns.j0 k a1 a2 t226 (decide ((l0_1.length : Int) > 200)) a0_0 l0_1 a0_2) else (fourinhandlaw09_LeastTurns.j0 k a1 a2 t226 true a0_0 l0_1 a0_2))) = some r := h
  clear h
  replace H := Option.bind_eq_some_iff.mp H
  obtain ⟨t226, A40, H⟩ := H
  replace H : (if t226 = true then (fourinhandlaw09_LeastTurns.j0 k a1 a2 t226 (decide ((l0_1.length : Int) > 200)) a0_0 l0_1 a0_2) else (fourinhandlaw09_LeastTurns.j0 k a1 a2 t226 true a0_0 l0_1 a0_2)) = some r := H
  have A4 := Aside0.mk A40
  clear A40
  have HC5 := Aside0.mk H
  clear H
  go_enter Try.func5, Try.ntmps5
  go_upto_region 2 with (first | ((with_reducible refine gate_dst (N := 3) rfl ?_); (try (refine gate_guard (by rfl) ?_; dsimp only)); refine box_event ?hg (N := 3) ?hd (cs := #[.int .i64 a0_0, .slice A0_1 l0_1.length c0_1, .int .i64 a0_2]) (t := 24) ?hr ?_; (case hd => rfl); (case hg => rfl); (case hr => first | (go_simp; done) | (go_simp; rfl)); intro gb225 hg w6 hbox hb; have n0_ := Aside0.mk (below_step (by repeat (first | (with_reducible first | exact HB.out | apply below_alloc | apply pw_below_drewN | apply below_drew1) | exact HB.out)) hb); have n1_ := Aside0.mk (hbox); have n2_ := Aside0.mk ((by rw [hg]; exact (below_size (by repeat (first | (with_reducible first | exact HB.out | apply below_alloc | apply pw_below_drewN | apply below_drew1) | exact HB.out))) : w.heap.size ≤ gb225)); have n3_ := Aside0.mk ((by rw [hg]; exact (below_size (by repeat (first | (with_reducible first | exact HB.out | apply below_alloc | apply pw_below_drewN | apply below_drew1) | exact HB.out))) : w.heap.size ≤ gb225)); clear HB; have HB := n0_; have BK225 := n1_; have GW225 := n2_; have GE225 := n3_; clear n0_ n1_ n2_ n3_; clear hb hbox hg) | ((with_reducible refine gate_callee (f := 8) rfl ?_); refine goesL_ (some 14) rfl rfl Try.func8 (by kernel_rfl) rfl #[] rfl (by (try simp only [List.map_toArray, List.map_cons, List.map_nil]); first | done | rfl | (simp only [List.length_drop, List.length_take]; rfl)) ?_; (with_reducible refine (fourinhandlaw09_awake.calls k  t226 _ A4.out).mono ?_); rintro e w7 ⟨rfl, hb⟩; refine ⟨_, rfl, ?_⟩; have n0_ := Aside0.mk (blk_below (g := gb225) (o := .cells #[.int .i64 a0_0, .slice A0_1 l0_1.length c0_1, .int .i64 a0_2] 24 (0, 0)) (by (with_reducible repeat (first | refine blk_drewN ?_ _ | refine blk_drew ?_ | refine blk_alloc ?_ _)); exact BK225.out) hb); have n1_ := Aside0.mk (below_step (by repeat (first | (with_reducible first | exact HB.out | apply below_alloc | apply pw_below_drewN | apply below_drew1 | refine below_set ?_ GE225.out) | exact HB.out)) hb); clear BK225; clear HB; have BK225 := n0_; have HB := n1_; clear n0_ n1_; (try clear hb); (try clear hb2); (try clear hk); (try clear hi)))
  (try simp only [Act.put, List.setIfInBounds_toArray, List.set_cons_zero, List.set_cons_succ])
  go_cut [22] (fun v22 wc => ∃ (kq : Nat) (x22_4 : Bool), v22 = .bool x22_4 ∧ Aside0 (fourinhandlaw09_LeastTurns.j0 kq a1 a2 t226 x22_4 a0_0 l0_1 a0_2 = some r) ∧ Aside0 (kq ≤ k) ∧ Aside0 (wc.heap[gb225]? = some (.cells #[.int .i64 a0_0, (.slice A0_1 l0_1.length c0_1), .int .i64 a0_2] 24 (0, 0))) ∧ Aside0 (Below w.heap.size w wc))
  case first =>
    have H := HC5.out
    clear HC5
    by_cases c8 : t226 = true
    · subst c8
      have H1 : (fourinhandlaw09_LeastTurns.j0 k a1 a2 true (decide ((l0_1.length : Int) > 200)) a0_0 l0_1 a0_2) = some r := by rw [if_pos rfl] at H; exact H
      clear H
      have H := H1
      clear H1
      have H' := Aside0.mk H
      clear H
      have hcz9_0 : w7.cell? ⟨gb225, 0, none⟩ = some (.int .i64 a0_0) := (blk_cell BK225.out 0).trans rfl
      have hcz9_1 : w7.cell? ⟨gb225, 1, none⟩ = some (.slice A0_1 l0_1.length c0_1) := (blk_cell BK225.out 1).trans rfl
      have hcz9_2 : w7.cell? ⟨gb225, 2, none⟩ = some (.int .i64 a0_2) := (blk_cell BK225.out 2).trans rfl
      have hfz9_0 := blk_frozen BK225.out 0
      have hfz9_1 := blk_frozen BK225.out 1
      have hfz9_2 := blk_frozen BK225.out 2
      go_wp2
      go_meet
      case rel => exact ⟨_, (decide ((l0_1.length : Int) > 200)), (by first | rfl | (simp; done) | (simp [*]; done)), H', ⟨by first | omega | exact Nat.le_refl _⟩, ⟨by (with_reducible repeat (first | refine blk_drewN ?_ _ | refine blk_drew ?_ | refine blk_alloc ?_ _)); exact BK225.out⟩, ⟨by repeat (first | (with_reducible first | exact HB.out | apply below_alloc | apply pw_below_drewN | apply below_drew1 | refine below_set ?_ GE225.out) | exact HB.out)⟩⟩
    · replace c8 := Bool.eq_false_iff.mpr c8
      subst c8
      have H1 : (fourinhandlaw09_LeastTurns.j0 k a1 a2 false true a0_0 l0_1 a0_2) = some r := by rw [if_neg (show ¬ (false = true) by decide)] at H; exact H
      clear H
      have H := H1
      clear H1
      have H' := Aside0.mk H
      clear H
      go_wp2
      go_meet
      case rel => exact ⟨_, (true), (by first | rfl | (simp; done) | (simp [*]; done)), H', ⟨by first | omega | exact Nat.le_refl _⟩, ⟨by (with_reducible repeat (first | refine blk_drewN ?_ _ | refine blk_drew ?_ | refine blk_alloc ?_ _)); exact BK225.out⟩, ⟨by repeat (first | (with_reducible first | exact HB.out | apply below_alloc | apply pw_below_drewN | apply below_drew1 | refine below_set ?_ GE225.out) | exact HB.out)⟩⟩
  case rest =>
    clear HC5
    try clear p2
    try clear c5
    try clear c8
    try clear hcz9_0
    try clear hcz9_1
    try clear hcz9_2
    try clear hfz9_0
    try clear hfz9_1
    try clear hfz9_2
    obtain ⟨kq, x22_4, rfl, HA, HJ4, BK225, HB⟩ := hcut
    cases kq with
    | zero => exact absurd HA.out (by simp [fourinhandlaw09_LeastTurns.j0])
    | succ kj4 =>
      have H := HA.out
      clear HA
      simp only [fourinhandlaw09_LeastTurns.j0] at H
      by_cases c10 : x22_4 = true
      · subst c10
        have H1 : (some t226) = some r := by rw [if_pos rfl] at H; exact H
        clear H
        have H := H1
        clear H1
        obtain rfl := Option.some.inj H
        go_wp2
        go_ret
        exact ⟨by first | rfl | (simp [errW_none, errW_some] <;> rfl) | (simp [*, errW_none, errW_some] <;> rfl), by repeat (first | (with_reducible first | exact HB.out | apply below_alloc | apply pw_below_drewN | apply below_drew1 | refine below_set ?_ GE225.out) | exact HB.out)⟩
      · replace c10 := Bool.eq_false_iff.mpr c10
        subst c10
        have H1 : ((least_Met.f a0_0 l0_1 a0_2 a1 a2).bind fun bt227 => (if bt227.2.2.2.2 = 0 then ((least_Of.f a0_0 l0_1 a0_2 a1).bind fun bt235 => (if bt235.2 = true then (if bt227.2.2.2.1 = true then (if a2 > (wrap64 (2 * bt235.1)) then (if a0_2 = 7 then (if (bt227.2.1.length : Int) = 1 then (if 0 < (bt227.2.1.length : Int) then (if (((rd_T38 bt227.2.1 0).f0) == a1 && (((rd_T38 bt227.2.1 0).f1) == a2)) = true then (some (bt227.2.2.1 == 0)) else (some false)) else (none)) else (some false)) else (some false)) else (some false)) else (if ((decide (a2 > (wrap64 (2 * bt235.1)))) == (decide (bt227.2.2.1 > 0))) = true then (if (a2 > (wrap64 (2 * bt235.1))) then (if bt227.2.2.1 = (wrap64 (a0_2 + 1)) then (if bt227.1 = a0_0 then ((least_May.f kj4 bt227.1 bt227.2.1 bt227.2.2.1).bind fun t238 => (some t238)) else (some false)) else (some false)) else (if bt227.1 = a0_0 then ((least_May.f kj4 bt227.1 bt227.2.1 bt227.2.2.1).bind fun t239 => (some t239)) else (some false))) else (some false))) else (if bt227.2.2.2.1 = true then (some false) else (if (false == (decide (bt227.2.2.1 > 0))) = true then (if bt227.1 = a0_0 then ((least_May.f kj4 bt227.1 bt227.2.1 bt227.2.2.1).bind fun t240 => (some t240)) else (some false)) else (some false))))) else (if bt227.2.2.2.1 = true then (some false) else (some ((bt227.2.1.length : Int) == 0))))) = some r := by rw [if_neg (show ¬ (false = true) by decide)] at H; exact H
        clear H
        have H := H1
        clear H1
        replace H := Option.bind_eq_some_iff.mp H
        obtain ⟨⟨t227, t228, t231, t232, t233⟩, A110, H⟩ := H
        replace H : (if t233 = 0 then ((least_Of.f a0_0 l0_1 a0_2 a1).bind fun bt235 => (if bt235.2 = true then (if t232 = true then (if a2 > (wrap64 (2 * bt235.1)) then (if a0_2 = 7 then (if (t228.length : Int) = 1 then (if 0 < (t228.length : Int) then (if (((rd_T38 t228 0).f0) == a1 && (((rd_T38 t228 0).f1) == a2)) = true then (some (t231 == 0)) else (some false)) else (none)) else (some false)) else (some false)) else (some false)) else (if ((decide (a2 > (wrap64 (2 * bt235.1)))) == (decide (t231 > 0))) = true then (if (a2 > (wrap64 (2 * bt235.1))) then (if t231 = (wrap64 (a0_2 + 1)) then (if t227 = a0_0 then ((least_May.f kj4 t227 t228 t231).bind fun t238 => (some t238)) else (some false)) else (some false)) else (if t227 = a0_0 then ((least_May.f kj4 t227 t228 t231).bind fun t239 => (some t239)) else (some false))) else (some false))) else (if t232 = true then (some false) else (if (false == (decide (t231 > 0))) = true then (if t227 = a0_0 then ((least_May.f kj4 t227 t228 t231).bind fun t240 => (some t240)) else (some false)) else (some false))))) else (if t232 = true then (some false) else (some ((t228.length : Int) == 0)))) = some r := H
        have A11 := Aside0.mk A110
        clear A110
        by_cases c12 : t233 = 0
        · rw [if_pos c12] at H
          have c12b0 : (t233 == 0) = true := beq_iff_eq.mpr c12
          have c12b1 : (t233 != 0) = false := bne_eq_false_iff_eq.mpr c12
          clear c12
          replace H := Option.bind_eq_some_iff.mp H
          obtain ⟨⟨t235, t236⟩, A130, H⟩ := H
          replace H : (if t236 = true then (if t232 = true then (if a2 > (wrap64 (2 * t235)) then (if a0_2 = 7 then (if (t228.length : Int) = 1 then (if 0 < (t228.length : Int) then (if (((rd_T38 t228 0).f0) == a1 && (((rd_T38 t228 0).f1) == a2)) = true then (some (t231 == 0)) else (some false)) else (none)) else (some false)) else (some false)) else (some false)) else (if ((decide (a2 > (wrap64 (2 * t235)))) == (decide (t231 > 0))) = true then (if (a2 > (wrap64 (2 * t235))) then (if t231 = (wrap64 (a0_2 + 1)) then (if t227 = a0_0 then ((least_May.f kj4 t227 t228 t231).bind fun t238 => (some t238)) else (some false)) else (some false)) else (if t227 = a0_0 then ((least_May.f kj4 t227 t228 t231).bind fun t239 => (some t239)) else (some false))) else (some false))) else (if t232 = true then (some false) else (if (false == (decide (t231 > 0))) = true then (if t227 = a0_0 then ((least_May.f kj4 t227 t228 t231).bind fun t240 => (some t240)) else (some false)) else (some false)))) = some r := H
          have A13 := Aside0.mk A130
          clear A130
          by_cases c14 : t236 = true
          · subst c14
            have H1 : (if t232 = true then (if a2 > (wrap64 (2 * t235)) then (if a0_2 = 7 then (if (t228.length : Int) = 1 then (if 0 < (t228.length : Int) then (if (((rd_T38 t228 0).f0) == a1 && (((rd_T38 t228 0).f1) == a2)) = true then (some (t231 == 0)) else (some false)) else (none)) else (some false)) else (some false)) else (some false)) else (if ((decide (a2 > (wrap64 (2 * t235)))) == (decide (t231 > 0))) = true then (if (a2 > (wrap64 (2 * t235))) then (if t231 = (wrap64 (a0_2 + 1)) then (if t227 = a0_0 then ((least_May.f kj4 t227 t228 t231).bind fun t238 => (some t238)) else (some false)) else (some false)) else (if t227 = a0_0 then ((least_May.f kj4 t227 t228 t231).bind fun t239 => (some t239)) else (some false))) else (some false))) = some r := by rw [if_pos rfl] at H; exact H
            clear H
            have H := H1
            clear H1
            by_cases c15 : t232 = true
            · subst c15
              have H1 : (if a2 > (wrap64 (2 * t235)) then (if a0_2 = 7 then (if (t228.length : Int) = 1 then (if 0 < (t228.length : Int) then (if (((rd_T38 t228 0).f0) == a1 && (((rd_T38 t228 0).f1) == a2)) = true then (some (t231 == 0)) else (some false)) else (none)) else (some false)) else (some false)) else (some false)) = some r := by rw [if_pos rfl] at H; exact H
              clear H
              have H := H1
              clear H1
              by_cases c16 : a2 > (wrap64 (2 * t235))
              · rw [if_pos c16] at H
                have c16b0 : decide ((wrap64 (2 * t235)) < a2) = true := decide_eq_true c16
                clear c16
                by_cases c17 : a0_2 = 7
                · rw [if_pos c17] at H
                  have c17b0 : (a0_2 == 7) = true := beq_iff_eq.mpr c17
                  have c17b1 : (a0_2 != 7) = false := bne_eq_false_iff_eq.mpr c17
                  clear c17
                  by_cases c18 : (t228.length : Int) = 1
                  · rw [if_pos c18] at H
                    have c18b0 : ((t228.length : Int) == 1) = true := beq_iff_eq.mpr c18
                    have c18b1 : ((t228.length : Int) != 1) = false := bne_eq_false_iff_eq.mpr c18
                    clear c18
                    by_cases c19 : 0 < (t228.length : Int)
                    · rw [if_pos c19] at H
                      have c19b0 : decide (0 < (t228.length : Int)) = true := decide_eq_true c19
                      have c19b1 : decide (0 < t228.length) = true := decide_eq_true (by omega)
                      clear c19
                      by_cases c20 : (((rd_T38 t228 0).f0) == a1 && (((rd_T38 t228 0).f1) == a2)) = true
                      · rw [if_pos c20] at H
                        have c20b0 : (((rd_T38 t228 0).f0) == a1 && (((rd_T38 t228 0).f1) == a2)) = true := c20
                        (try (have c20b1 : decide (((rd_T38 t228 0).f0) = a1 && (((rd_T38 t228 0).f1) == a2)) = true := by simpa using c20))
                        (try (have c20b2 : (((rd_T38 t228 0).f0) == a1 && (((rd_T38 t228 0).f1) == a2)) = true := by simpa using c20))
                        clear c20
                        obtain rfl := Option.some.inj H
                        have hcz21_0 : wc.cell? ⟨gb225, 0, none⟩ = some (.int .i64 a0_0) := (blk_cell BK225.out 0).trans rfl
                        have hcz21_1 : wc.cell? ⟨gb225, 1, none⟩ = some (.slice A0_1 l0_1.length c0_1) := (blk_cell BK225.out 1).trans rfl
                        have hcz21_2 : wc.cell? ⟨gb225, 2, none⟩ = some (.int .i64 a0_2) := (blk_cell BK225.out 2).trans rfl
                        have hfz21_0 := blk_frozen BK225.out 0
                        have hfz21_1 := blk_frozen BK225.out 1
                        have hfz21_2 := blk_frozen BK225.out 2
                        go_wp2_with (first | ((with_reducible refine gate_callee (f := 10) rfl ?_); refine goesL_ (some 28) rfl rfl Try.func10 (by kernel_rfl) rfl #[.agg #[.int .i64 a0_0, .slice A0_1 l0_1.length c0_1, .int .i64 a0_2], .int .i64 a1, .int .i64 a2] rfl (by (try simp only [List.map_toArray, List.map_cons, List.map_nil]); first | done | rfl | (simp only [List.length_drop, List.length_take]; rfl)) ?_; (with_reducible refine (least_Met.calls a0_0 _ _ l0_1 a0_2 a1 a2 t227 t228 t231 true t233 _ ?side1 ?side2 A11.out).mono ?_); (case side1 => repeat (first | exact (Kd.C_below HR0_1.out HB.out) | (with_reducible refine Kd.C_alloc ?_ _) | (with_reducible refine Kd.C_drewN ?_ _) | (with_reducible refine Kd.C_drew ?_))); (case side2 => exact HC0_1.out); rintro e w22 ⟨v229, rfl, ho0, hb⟩; refine ⟨_, rfl, ?_⟩; have n0_ := Aside0.mk (Kd.R_lower ho0 (below_size (by repeat (first | (with_reducible first | exact HB.out | apply below_alloc | apply pw_below_drewN | apply below_drew1 | refine below_set ?_ GE225.out) | exact HB.out)))); have n1_ := Aside0.mk (blk_below (g := gb225) (o := .cells #[.int .i64 a0_0, .slice A0_1 l0_1.length c0_1, .int .i64 a0_2] 24 (0, 0)) (by (with_reducible repeat (first | refine blk_drewN ?_ _ | refine blk_drew ?_ | refine blk_alloc ?_ _)); exact BK225.out) hb); have n2_ := Aside0.mk (below_step (by repeat (first | (with_reducible first | exact HB.out | apply below_alloc | apply pw_below_drewN | apply below_drew1 | refine below_set ?_ GE225.out) | exact HB.out)) hb); clear BK225; clear HB; have HO230 := n0_; have BK225 := n1_; have HB := n2_; clear n0_ n1_ n2_; (try clear hb); (try clear hb2); (try clear hk); (try clear hi); (try clear ho0)) | ((with_reducible refine gate_dst (N := 8) rfl ?_); (try (refine gate_guard (by rfl) ?_; dsimp only)); refine box_event ?hg (N := 8) ?hd (cs := #[.int .i64 0, .slice none 0 0, .int .i64 0]) (t := 24) ?hr ?_; (case hd => rfl); (case hg => rfl); (case hr => first | (go_simp; done) | (go_simp; rfl)); intro gb234 hg w23 hbox hb; have n0_ := Aside0.mk (Kd.R_below (by (with_reducible repeat (first | apply Kd.R_alloc | apply Kd.R_drewN | apply Kd.R_drew)); exact HO230.out) hb); have n1_ := Aside0.mk (blk_below (g := gb225) (o := .cells #[.int .i64 a0_0, .slice A0_1 l0_1.length c0_1, .int .i64 a0_2] 24 (0, 0)) (by (with_reducible repeat (first | refine blk_drewN ?_ _ | refine blk_drew ?_ | refine blk_alloc ?_ _)); exact BK225.out) hb); have n2_ := Aside0.mk (below_step (by repeat (first | (with_reducible first | exact HB.out | apply below_alloc | apply pw_below_drewN | apply below_drew1 | refine below_set ?_ GE225.out) | exact HB.out)) hb); have n3_ := Aside0.mk (hbox); have n4_ := Aside0.mk ((by rw [hg]; exact (below_size (by repeat (first | (with_reducible first | exact HB.out | apply below_alloc | apply pw_below_drewN | apply below_drew1 | refine below_set ?_ GE225.out) | exact HB.out))) : w.heap.size ≤ gb234)); have n5_ := Aside0.mk ((by rw [hg]; exact (below_size (by repeat (first | (with_reducible first | exact HB.out | apply below_alloc | apply pw_below_drewN | apply below_drew1 | refine below_set ?_ GE225.out) | exact HB.out))) : w.heap.size ≤ gb234)); have n6_ := Aside0.mk ((by rw [hg]; exact Nat.ne_of_lt (blk_lt (g := gb225) (o := .cells #[.int .i64 a0_0, .slice A0_1 l0_1.length c0_1, .int .i64 a0_2] 24 (0, 0)) (by (with_reducible repeat (first | refine blk_drewN ?_ _ | refine blk_drew ?_ | refine blk_alloc ?_ _)); exact BK225.out)) : gb225 ≠ gb234)); have n7_ := Aside0.mk ((by rw [hg]; exact Nat.ne_of_gt (blk_lt (g := gb225) (o := .cells #[.int .i64 a0_0, .slice A0_1 l0_1.length c0_1, .int .i64 a0_2] 24 (0, 0)) (by (with_reducible repeat (first | refine blk_drewN ?_ _ | refine blk_drew ?_ | refine blk_alloc ?_ _)); exact BK225.out)) : gb234 ≠ gb225)); clear HO230; clear BK225; clear HB; have HO230 := n0_; have BK225 := n1_; have HB := n2_; have BK234 := n3_; have GW234 := n4_; have GE234 := n5_; have NB225_234 := n6_; have NB234_225 := n7_; clear n0_ n1_ n2_ n3_ n4_ n5_ n6_ n7_; clear hb hbox hg; have hnb24 := NB234_225.out; have hnc24 := NB225_234.out; have hcz25_0 : w23.cell? ⟨gb234, 0, none⟩ = some (.int .i64 0) := (blk_cell BK234.out 0).trans rfl; have hcz25_1 : w23.cell? ⟨gb234, 1, none⟩ = some (.slice none 0 0) := (blk_cell BK234.out 1).trans rfl; have hcz25_2 : w23.cell? ⟨gb234, 2, none⟩ = some (.int .i64 0) := (blk_cell BK234.out 2).trans rfl; have hfz25_0 := blk_frozen BK234.out 0; have hfz25_1 := blk_frozen BK234.out 1; have hfz25_2 := blk_frozen BK234.out 2; obtain ⟨Ao26, co26, eo26⟩ := Kd.R_slice HO230.out; subst eo26; have hcz27_0 : w23.cell? ⟨gb225, 0, none⟩ = some (.int .i64 a0_0) := (blk_cell BK225.out 0).trans rfl; have hcz27_1 : w23.cell? ⟨gb225, 1, none⟩ = some (.slice A0_1 l0_1.length c0_1) := (blk_cell BK225.out 1).trans rfl; have hcz27_2 : w23.cell? ⟨gb225, 2, none⟩ = some (.int .i64 a0_2) := (blk_cell BK225.out 2).trans rfl; have hfz27_0 := blk_frozen BK225.out 0; have hfz27_1 := blk_frozen BK225.out 1; have hfz27_2 := blk_frozen BK225.out 2) | ((with_reducible refine gate_callee (f := 13) rfl ?_); refine goesL_ (some 45) rfl rfl Try.func13 (by kernel_rfl) rfl #[.agg #[.int .i64 a0_0, .slice A0_1 l0_1.length c0_1, .int .i64 a0_2], .int .i64 a1] rfl (by (try simp only [List.map_toArray, List.map_cons, List.map_nil]); first | done | rfl | (simp only [List.length_drop, List.length_take]; rfl)) ?_; (with_reducible refine (least_Of.calls a0_0 _ _ l0_1 a0_2 a1 t235 true _ ?side1 ?side2 A13.out).mono ?_); (case side1 => exact Kd.C_below HR0_1.out (by repeat (first | (with_reducible first | exact HB.out | apply below_alloc | apply pw_below_drewN | apply below_drew1 | refine below_set ?_ GE225.out | refine below_set ?_ GE234.out) | exact HB.out))); (case side2 => exact HC0_1.out); rintro e w28 ⟨rfl, hb⟩; refine ⟨_, rfl, ?_⟩; have n0_ := Aside0.mk (Kd.R_below (by (with_reducible repeat (first | apply Kd.R_alloc | apply Kd.R_drewN | apply Kd.R_drew)); exact (Kd.R_mono (Kd.R_far (p := ⟨gb234, 2, none⟩) (Kd.R_far (p := ⟨gb234, 1, none⟩) (Kd.R_far (p := ⟨gb234, 0, none⟩) (Kd.R_types HO230.out BK234.out (by decide)) (fun _ hk => hk.2) (.int .i64 t227)) (fun _ hk => hk.2) (.slice Ao26 t228.length co26)) (fun _ hk => hk.2) (.int .i64 t231)) (fun _ h_ => h_.1))) hb); have n1_ := Aside0.mk (blk_below (g := gb225) (o := .cells #[.int .i64 a0_0, .slice A0_1 l0_1.length c0_1, .int .i64 a0_2] 24 (0, 0)) (by (with_reducible repeat (first | refine blk_drewN ?_ _ | refine blk_drew ?_ | refine blk_alloc ?_ _)); refine blk_far ?_ NB225_234.out _; (with_reducible repeat (first | refine blk_drewN ?_ _ | refine blk_drew ?_ | refine blk_alloc ?_ _)); refine blk_far ?_ NB225_234.out _; (with_reducible repeat (first | refine blk_drewN ?_ _ | refine blk_drew ?_ | refine blk_alloc ?_ _)); refine blk_far ?_ NB225_234.out _; (with_reducible repeat (first | refine blk_drewN ?_ _ | refine blk_drew ?_ | refine blk_alloc ?_ _)); exact BK225.out) hb); have n2_ := Aside0.mk (blk_below (g := gb234) (o := .cells #[.int .i64 t227, .slice Ao26 t228.length co26, .int .i64 t231] 24 (0, 0)) (by (with_reducible repeat (first | refine blk_drewN ?_ _ | refine blk_drew ?_ | refine blk_alloc ?_ _)); refine blk_put (cs := #[.int .i64 t227, .slice Ao26 t228.length co26, .int .i64 0]) ?_ 2 _ rfl; (with_reducible repeat (first | refine blk_drewN ?_ _ | refine blk_drew ?_ | refine blk_alloc ?_ _)); refine blk_put (cs := #[.int .i64 t227, .slice none 0 0, .int .i64 0]) ?_ 1 _ rfl; (with_reducible repeat (first | refine blk_drewN ?_ _ | refine blk_drew ?_ | refine blk_alloc ?_ _)); refine blk_put (cs := #[.int .i64 0, .slice none 0 0, .int .i64 0]) ?_ 0 _ rfl; (with_reducible repeat (first | refine blk_drewN ?_ _ | refine blk_drew ?_ | refine blk_alloc ?_ _)); exact BK234.out) hb); have n3_ := Aside0.mk (below_step (by repeat (first | (with_reducible first | exact HB.out | apply below_alloc | apply pw_below_drewN | apply below_drew1 | refine below_set ?_ GE225.out | refine below_set ?_ GE234.out) | exact HB.out)) hb); clear HO230; clear BK225; clear BK234; clear HB; have HO230 := n0_; have BK225 := n1_; have BK234 := n2_; have HB := n3_; clear n0_ n1_ n2_ n3_; (try clear hb); (try clear hb2); (try clear hk); (try clear hi); have hcz29_0 : w28.cell? ⟨gb225, 0, none⟩ = some (.int .i64 a0_0) := (blk_cell BK225.out 0).trans rfl; have hcz29_1 : w28.cell? ⟨gb225, 1, none⟩ = some (.slice A0_1 l0_1.length c0_1) := (blk_cell BK225.out 1).trans rfl; have hcz29_2 : w28.cell? ⟨gb225, 2, none⟩ = some (.int .i64 a0_2) := (blk_cell BK225.out 2).trans rfl; have hfz29_0 := blk_frozen BK225.out 0; have hfz29_1 := blk_frozen BK225.out 1; have hfz29_2 := blk_frozen BK225.out 2; have hcz30_0 : w28.cell? ⟨gb234, 0, none⟩ = some (.int .i64 t227) := (blk_cell BK234.out 0).trans rfl; have hcz30_1 : w28.cell? ⟨gb234, 1, none⟩ = some (.slice Ao26 t228.length co26) := (blk_cell BK234.out 1).trans rfl; have hcz30_2 : w28.cell? ⟨gb234, 2, none⟩ = some (.int .i64 t231) := (blk_cell BK234.out 2).trans rfl; have hfz30_0 := blk_frozen BK234.out 0; have hfz30_1 := blk_frozen BK234.out 1; have hfz30_2 := blk_frozen BK234.out 2; have p237 : 0 ≤ (0 : Int) := (by omega); have q237 : 0 < (t228.length : Int) := of_decide_eq_true (by first | (with_reducible assumption) | assumption); obtain ⟨ad237, e237, hx237_0, hx237_1⟩ := at_T38 (Kd.R_reads' HO230.out).2.2 0 p237 q237; cases e237; have qi237 : (0 < t228.length) = True := eq_true (by omega); (try rw [show ((0 : Int)).toNat = 0 from rfl] at hx237_0); (try rw [show 0 * 2 = 0 from rfl] at hx237_0); (try rw [Addr.add_zero'] at hx237_0); (try rw [show ((0 : Int)).toNat = 0 from rfl] at hx237_1); (try rw [show 0 * 2 = 0 from rfl] at hx237_1); (try rw [Addr.add_zero'] at hx237_1); replace p237 := eq_true p237; replace q237 := eq_true q237))
                        go_ret
                        exact ⟨by first | rfl | (simp [errW_none, errW_some] <;> rfl) | (simp [*, errW_none, errW_some] <;> rfl), by repeat (first | (with_reducible first | exact HB.out | apply below_alloc | apply pw_below_drewN | apply below_drew1 | refine below_set ?_ GE225.out | refine below_set ?_ GE234.out) | exact HB.out)⟩
                      · rw [if_neg c20] at H
                        have c20b0 : (((rd_T38 t228 0).f0) == a1 && (((rd_T38 t228 0).f1) == a2)) = false := by simpa using c20
                        (try (have c20b1 : decide (((rd_T38 t228 0).f0) = a1 && (((rd_T38 t228 0).f1) == a2)) = false := by simpa using c20))
                        (try (have c20b2 : (((rd_T38 t228 0).f0) == a1 && (((rd_T38 t228 0).f1) == a2)) = false := by simpa using c20))
                        (try (have c20b3 : ¬ (((rd_T38 t228 0).f0) = a1 && (((rd_T38 t228 0).f1) == a2)) := by simpa using c20))
                        clear c20
                        rw [hr1] at H
                        cases H
                    · rw [if_neg c19] at H
                      exact absurd H (by simp)
                  · rw [if_neg c18] at H
                    have c18b0 : ((t228.length : Int) == 1) = false := beq_eq_false_iff_ne.mpr c18
                    have c18b1 : ((t228.length : Int) != 1) = true := bne_iff_ne.mpr c18
                    rw [hr1] at H
                    cases H
                · rw [if_neg c17] at H
                  have c17b0 : (a0_2 == 7) = false := beq_eq_false_iff_ne.mpr c17
                  have c17b1 : (a0_2 != 7) = true := bne_iff_ne.mpr c17
                  rw [hr1] at H
                  cases H
              · rw [if_neg c16] at H
                have c16b0 : decide ((wrap64 (2 * t235)) < a2) = false := decide_eq_false c16
                clear c16
                rw [hr1] at H
                cases H
            · replace c15 := Bool.eq_false_iff.mpr c15
              subst c15
              have H1 : (if ((decide (a2 > (wrap64 (2 * t235)))) == (decide (t231 > 0))) = true then (if (a2 > (wrap64 (2 * t235))) then (if t231 = (wrap64 (a0_2 + 1)) then (if t227 = a0_0 then ((least_May.f kj4 t227 t228 t231).bind fun t238 => (some t238)) else (some false)) else (some false)) else (if t227 = a0_0 then ((least_May.f kj4 t227 t228 t231).bind fun t239 => (some t239)) else (some false))) else (some false)) = some r := by rw [if_neg (show ¬ (false = true) by decide)] at H; exact H
              clear H
              have H := H1
              clear H1
              by_cases c68 : ((decide (a2 > (wrap64 (2 * t235)))) == (decide (t231 > 0))) = true
              · rw [if_pos c68] at H
                have c68b0 : ((decide (a2 > (wrap64 (2 * t235)))) == (decide (t231 > 0))) = true := c68
                (try (have c68b1 : decide ((decide (a2 > (wrap64 (2 * t235)))) = (decide (t231 > 0))) = true := by simpa using c68))
                (try (have c68b2 : ((decide (a2 > (wrap64 (2 * t235)))) == (decide (t231 > 0))) = true := by simpa using c68))
                clear c68
                by_cases c69 : (a2 > (wrap64 (2 * t235)))
                · rw [if_pos c69] at H
                  have c69b0 : decide ((wrap64 (2 * t235)) < a2) = true := decide_eq_true c69
                  have c69z : decide ((0 : Int) < t231) = true := by simpa [c69b0] using c68b0
                  clear c69
                  by_cases c70 : t231 = (wrap64 (a0_2 + 1))
                  · rw [if_pos c70] at H
                    have c70b0 : (t231 == (wrap64 (a0_2 + 1))) = true := beq_iff_eq.mpr c70
                    have c70b1 : (t231 != (wrap64 (a0_2 + 1))) = false := bne_eq_false_iff_eq.mpr c70
                    clear c70
                    by_cases c71 : t227 = a0_0
                    · rw [if_pos c71] at H
                      have c71b0 : (t227 == a0_0) = true := beq_iff_eq.mpr c71
                      have c71b1 : (t227 != a0_0) = false := bne_eq_false_iff_eq.mpr c71
                      clear c71
                      replace H := Option.bind_eq_some_iff.mp H
                      obtain ⟨t238, A720, H⟩ := H
                      replace H : (some t238) = some r := H
                      have A72 := Aside0.mk A720
                      clear A720
                      obtain rfl := Option.some.inj H
                      have hcz73_0 : wc.cell? ⟨gb225, 0, none⟩ = some (.int .i64 a0_0) := (blk_cell BK225.out 0).trans rfl
                      have hcz73_1 : wc.cell? ⟨gb225, 1, none⟩ = some (.slice A0_1 l0_1.length c0_1) := (blk_cell BK225.out 1).trans rfl
                      have hcz73_2 : wc.cell? ⟨gb225, 2, none⟩ = some (.int .i64 a0_2) := (blk_cell BK225.out 2).trans rfl
                      have hfz73_0 := blk_frozen BK225.out 0
                      have hfz73_1 := blk_frozen BK225.out 1
                      have hfz73_2 := blk_frozen BK225.out 2
                      go_wp2_with (first | ((with_reducible refine gate_callee (f := 10) rfl ?_); refine goesL_ (some 28) rfl rfl Try.func10 (by kernel_rfl) rfl #[.agg #[.int .i64 a0_0, .slice A0_1 l0_1.length c0_1, .int .i64 a0_2], .int .i64 a1, .int .i64 a2] rfl (by (try simp only [List.map_toArray, List.map_cons, List.map_nil]); first | done | rfl | (simp only [List.length_drop, List.length_take]; rfl)) ?_; (with_reducible refine (least_Met.calls a0_0 _ _ l0_1 a0_2 a1 a2 t227 t228 t231 false t233 _ ?side1 ?side2 A11.out).mono ?_); (case side1 => repeat (first | exact (Kd.C_below HR0_1.out HB.out) | (with_reducible refine Kd.C_alloc ?_ _) | (with_reducible refine Kd.C_drewN ?_ _) | (with_reducible refine Kd.C_drew ?_))); (case side2 => exact HC0_1.out); rintro e w74 ⟨v229, rfl, ho0, hb⟩; refine ⟨_, rfl, ?_⟩; have n0_ := Aside0.mk (Kd.R_lower ho0 (below_size (by repeat (first | (with_reducible first | exact HB.out | apply below_alloc | apply pw_below_drewN | apply below_drew1 | refine below_set ?_ GE225.out) | exact HB.out)))); have n1_ := Aside0.mk (blk_below (g := gb225) (o := .cells #[.int .i64 a0_0, .slice A0_1 l0_1.length c0_1, .int .i64 a0_2] 24 (0, 0)) (by (with_reducible repeat (first | refine blk_drewN ?_ _ | refine blk_drew ?_ | refine blk_alloc ?_ _)); exact BK225.out) hb); have n2_ := Aside0.mk (below_step (by repeat (first | (with_reducible first | exact HB.out | apply below_alloc | apply pw_below_drewN | apply below_drew1 | refine below_set ?_ GE225.out) | exact HB.out)) hb); clear BK225; clear HB; have HO230 := n0_; have BK225 := n1_; have HB := n2_; clear n0_ n1_ n2_; (try clear hb); (try clear hb2); (try clear hk); (try clear hi); (try clear ho0)) | ((with_reducible refine gate_dst (N := 8) rfl ?_); (try (refine gate_guard (by rfl) ?_; dsimp only)); refine box_event ?hg (N := 8) ?hd (cs := #[.int .i64 0, .slice none 0 0, .int .i64 0]) (t := 24) ?hr ?_; (case hd => rfl); (case hg => rfl); (case hr => first | (go_simp; done) | (go_simp; rfl)); intro gb234 hg w75 hbox hb; have n0_ := Aside0.mk (Kd.R_below (by (with_reducible repeat (first | apply Kd.R_alloc | apply Kd.R_drewN | apply Kd.R_drew)); exact HO230.out) hb); have n1_ := Aside0.mk (blk_below (g := gb225) (o := .cells #[.int .i64 a0_0, .slice A0_1 l0_1.length c0_1, .int .i64 a0_2] 24 (0, 0)) (by (with_reducible repeat (first | refine blk_drewN ?_ _ | refine blk_drew ?_ | refine blk_alloc ?_ _)); exact BK225.out) hb); have n2_ := Aside0.mk (below_step (by repeat (first | (with_reducible first | exact HB.out | apply below_alloc | apply pw_below_drewN | apply below_drew1 | refine below_set ?_ GE225.out) | exact HB.out)) hb); have n3_ := Aside0.mk (hbox); have n4_ := Aside0.mk ((by rw [hg]; exact (below_size (by repeat (first | (with_reducible first | exact HB.out | apply below_alloc | apply pw_below_drewN | apply below_drew1 | refine below_set ?_ GE225.out) | exact HB.out))) : w.heap.size ≤ gb234)); have n5_ := Aside0.mk ((by rw [hg]; exact (below_size (by repeat (first | (with_reducible first | exact HB.out | apply below_alloc | apply pw_below_drewN | apply below_drew1 | refine below_set ?_ GE225.out) | exact HB.out))) : w.heap.size ≤ gb234)); have n6_ := Aside0.mk ((by rw [hg]; exact Nat.ne_of_lt (blk_lt (g := gb225) (o := .cells #[.int .i64 a0_0, .slice A0_1 l0_1.length c0_1, .int .i64 a0_2] 24 (0, 0)) (by (with_reducible repeat (first | refine blk_drewN ?_ _ | refine blk_drew ?_ | refine blk_alloc ?_ _)); exact BK225.out)) : gb225 ≠ gb234)); have n7_ := Aside0.mk ((by rw [hg]; exact Nat.ne_of_gt (blk_lt (g := gb225) (o := .cells #[.int .i64 a0_0, .slice A0_1 l0_1.length c0_1, .int .i64 a0_2] 24 (0, 0)) (by (with_reducible repeat (first | refine blk_drewN ?_ _ | refine blk_drew ?_ | refine blk_alloc ?_ _)); exact BK225.out)) : gb234 ≠ gb225)); clear HO230; clear BK225; clear HB; have HO230 := n0_; have BK225 := n1_; have HB := n2_; have BK234 := n3_; have GW234 := n4_; have GE234 := n5_; have NB225_234 := n6_; have NB234_225 := n7_; clear n0_ n1_ n2_ n3_ n4_ n5_ n6_ n7_; clear hb hbox hg; have hnb76 := NB234_225.out; have hnc76 := NB225_234.out; have hcz77_0 : w75.cell? ⟨gb234, 0, none⟩ = some (.int .i64 0) := (blk_cell BK234.out 0).trans rfl; have hcz77_1 : w75.cell? ⟨gb234, 1, none⟩ = some (.slice none 0 0) := (blk_cell BK234.out 1).trans rfl; have hcz77_2 : w75.cell? ⟨gb234, 2, none⟩ = some (.int .i64 0) := (blk_cell BK234.out 2).trans rfl; have hfz77_0 := blk_frozen BK234.out 0; have hfz77_1 := blk_frozen BK234.out 1; have hfz77_2 := blk_frozen BK234.out 2; obtain ⟨Ao78, co78, eo78⟩ := Kd.R_slice HO230.out; subst eo78; have hcz79_0 : w75.cell? ⟨gb225, 0, none⟩ = some (.int .i64 a0_0) := (blk_cell BK225.out 0).trans rfl; have hcz79_1 : w75.cell? ⟨gb225, 1, none⟩ = some (.slice A0_1 l0_1.length c0_1) := (blk_cell BK225.out 1).trans rfl; have hcz79_2 : w75.cell? ⟨gb225, 2, none⟩ = some (.int .i64 a0_2) := (blk_cell BK225.out 2).trans rfl; have hfz79_0 := blk_frozen BK225.out 0; have hfz79_1 := blk_frozen BK225.out 1; have hfz79_2 := blk_frozen BK225.out 2) | ((with_reducible refine gate_callee (f := 13) rfl ?_); refine goesL_ (some 45) rfl rfl Try.func13 (by kernel_rfl) rfl #[.agg #[.int .i64 a0_0, .slice A0_1 l0_1.length c0_1, .int .i64 a0_2], .int .i64 a1] rfl (by (try simp only [List.map_toArray, List.map_cons, List.map_nil]); first | done | rfl | (simp only [List.length_drop, List.length_take]; rfl)) ?_; (with_reducible refine (least_Of.calls a0_0 _ _ l0_1 a0_2 a1 t235 true _ ?side1 ?side2 A13.out).mono ?_); (case side1 => exact Kd.C_below HR0_1.out (by repeat (first | (with_reducible first | exact HB.out | apply below_alloc | apply pw_below_drewN | apply below_drew1 | refine below_set ?_ GE225.out | refine below_set ?_ GE234.out) | exact HB.out))); (case side2 => exact HC0_1.out); rintro e w80 ⟨rfl, hb⟩; refine ⟨_, rfl, ?_⟩; have n0_ := Aside0.mk (Kd.R_below (by (with_reducible repeat (first | apply Kd.R_alloc | apply Kd.R_drewN | apply Kd.R_drew)); exact (Kd.R_mono (Kd.R_far (p := ⟨gb234, 2, none⟩) (Kd.R_far (p := ⟨gb234, 1, none⟩) (Kd.R_far (p := ⟨gb234, 0, none⟩) (Kd.R_types HO230.out BK234.out (by decide)) (fun _ hk => hk.2) (.int .i64 t227)) (fun _ hk => hk.2) (.slice Ao78 t228.length co78)) (fun _ hk => hk.2) (.int .i64 t231)) (fun _ h_ => h_.1))) hb); have n1_ := Aside0.mk (blk_below (g := gb225) (o := .cells #[.int .i64 a0_0, .slice A0_1 l0_1.length c0_1, .int .i64 a0_2] 24 (0, 0)) (by (with_reducible repeat (first | refine blk_drewN ?_ _ | refine blk_drew ?_ | refine blk_alloc ?_ _)); refine blk_far ?_ NB225_234.out _; (with_reducible repeat (first | refine blk_drewN ?_ _ | refine blk_drew ?_ | refine blk_alloc ?_ _)); refine blk_far ?_ NB225_234.out _; (with_reducible repeat (first | refine blk_drewN ?_ _ | refine blk_drew ?_ | refine blk_alloc ?_ _)); refine blk_far ?_ NB225_234.out _; (with_reducible repeat (first | refine blk_drewN ?_ _ | refine blk_drew ?_ | refine blk_alloc ?_ _)); exact BK225.out) hb); have n2_ := Aside0.mk (blk_below (g := gb234) (o := .cells #[.int .i64 t227, .slice Ao78 t228.length co78, .int .i64 t231] 24 (0, 0)) (by (with_reducible repeat (first | refine blk_drewN ?_ _ | refine blk_drew ?_ | refine blk_alloc ?_ _)); refine blk_put (cs := #[.int .i64 t227, .slice Ao78 t228.length co78, .int .i64 0]) ?_ 2 _ rfl; (with_reducible repeat (first | refine blk_drewN ?_ _ | refine blk_drew ?_ | refine blk_alloc ?_ _)); refine blk_put (cs := #[.int .i64 t227, .slice none 0 0, .int .i64 0]) ?_ 1 _ rfl; (with_reducible repeat (first | refine blk_drewN ?_ _ | refine blk_drew ?_ | refine blk_alloc ?_ _)); refine blk_put (cs := #[.int .i64 0, .slice none 0 0, .int .i64 0]) ?_ 0 _ rfl; (with_reducible repeat (first | refine blk_drewN ?_ _ | refine blk_drew ?_ | refine blk_alloc ?_ _)); exact BK234.out) hb); have n3_ := Aside0.mk (below_step (by repeat (first | (with_reducible first | exact HB.out | apply below_alloc | apply pw_below_drewN | apply below_drew1 | refine below_set ?_ GE225.out | refine below_set ?_ GE234.out) | exact HB.out)) hb); clear HO230; clear BK225; clear BK234; clear HB; have HO230 := n0_; have BK225 := n1_; have BK234 := n2_; have HB := n3_; clear n0_ n1_ n2_ n3_; (try clear hb); (try clear hb2); (try clear hk); (try clear hi); have hcz81_0 : w80.cell? ⟨gb234, 0, none⟩ = some (.int .i64 t227) := (blk_cell BK234.out 0).trans rfl; have hcz81_1 : w80.cell? ⟨gb234, 1, none⟩ = some (.slice Ao78 t228.length co78) := (blk_cell BK234.out 1).trans rfl; have hcz81_2 : w80.cell? ⟨gb234, 2, none⟩ = some (.int .i64 t231) := (blk_cell BK234.out 2).trans rfl; have hfz81_0 := blk_frozen BK234.out 0; have hfz81_1 := blk_frozen BK234.out 1; have hfz81_2 := blk_frozen BK234.out 2; have hcz82_0 : w80.cell? ⟨gb225, 0, none⟩ = some (.int .i64 a0_0) := (blk_cell BK225.out 0).trans rfl; have hcz82_1 : w80.cell? ⟨gb225, 1, none⟩ = some (.slice A0_1 l0_1.length c0_1) := (blk_cell BK225.out 1).trans rfl; have hcz82_2 : w80.cell? ⟨gb225, 2, none⟩ = some (.int .i64 a0_2) := (blk_cell BK225.out 2).trans rfl; have hfz82_0 := blk_frozen BK225.out 0; have hfz82_1 := blk_frozen BK225.out 1; have hfz82_2 := blk_frozen BK225.out 2) | (go_at_call 15; (with_reducible refine (least_May.calls kj4 t227 _ _ t228 t231 t238 _ ?side1 ?side2 A72.out).mono ?_); (case side1 => repeat (first | exact (Kd.R_reads' HO230.out).2.2 | (with_reducible refine Kd.C_alloc ?_ _) | (with_reducible refine Kd.C_drewN ?_ _) | (with_reducible refine Kd.C_drew ?_))); (case side2 => exact (Kd.R_reads' HO230.out).2.1); rintro e w83 ⟨rfl, hb⟩; have n0_ := Aside0.mk (Kd.R_below (by (with_reducible repeat (first | apply Kd.R_alloc | apply Kd.R_drewN | apply Kd.R_drew)); exact HO230.out) hb); have n1_ := Aside0.mk (blk_below (g := gb225) (o := .cells #[.int .i64 a0_0, .slice A0_1 l0_1.length c0_1, .int .i64 a0_2] 24 (0, 0)) (by (with_reducible repeat (first | refine blk_drewN ?_ _ | refine blk_drew ?_ | refine blk_alloc ?_ _)); exact BK225.out) hb); have n2_ := Aside0.mk (blk_below (g := gb234) (o := .cells #[.int .i64 t227, .slice Ao78 t228.length co78, .int .i64 t231] 24 (0, 0)) (by (with_reducible repeat (first | refine blk_drewN ?_ _ | refine blk_drew ?_ | refine blk_alloc ?_ _)); exact BK234.out) hb); have n3_ := Aside0.mk (below_step (by repeat (first | (with_reducible first | exact HB.out | apply below_alloc | apply pw_below_drewN | apply below_drew1 | refine below_set ?_ GE225.out | refine below_set ?_ GE234.out) | exact HB.out)) hb); clear HO230; clear BK225; clear BK234; clear HB; have HO230 := n0_; have BK225 := n1_; have BK234 := n2_; have HB := n3_; clear n0_ n1_ n2_ n3_; (try clear hb); (try clear hb2); (try clear hk); (try clear hi)))
                      go_ret
                      exact ⟨by first | rfl | (simp [errW_none, errW_some] <;> rfl) | (simp [*, errW_none, errW_some] <;> rfl), by repeat (first | (with_reducible first | exact HB.out | apply below_alloc | apply pw_below_drewN | apply below_drew1 | refine below_set ?_ GE225.out | refine below_set ?_ GE234.out) | exact HB.out)⟩
                    · rw [if_neg c71] at H
                      have c71b0 : (t227 == a0_0) = false := beq_eq_false_iff_ne.mpr c71
                      have c71b1 : (t227 != a0_0) = true := bne_iff_ne.mpr c71
                      rw [hr1] at H
                      cases H
                  · rw [if_neg c70] at H
                    have c70b0 : (t231 == (wrap64 (a0_2 + 1))) = false := beq_eq_false_iff_ne.mpr c70
                    have c70b1 : (t231 != (wrap64 (a0_2 + 1))) = true := bne_iff_ne.mpr c70
                    rw [hr1] at H
                    cases H
                · rw [if_neg c69] at H
                  have c69b0 : decide ((wrap64 (2 * t235)) < a2) = false := decide_eq_false c69
                  have c69z : decide ((0 : Int) < t231) = false := by simpa [c69b0] using c68b0
                  clear c69
                  by_cases c104 : t227 = a0_0
                  · rw [if_pos c104] at H
                    have c104b0 : (t227 == a0_0) = true := beq_iff_eq.mpr c104
                    have c104b1 : (t227 != a0_0) = false := bne_eq_false_iff_eq.mpr c104
                    clear c104
                    replace H := Option.bind_eq_some_iff.mp H
                    obtain ⟨t239, A1050, H⟩ := H
                    replace H : (some t239) = some r := H
                    have A105 := Aside0.mk A1050
                    clear A1050
                    obtain rfl := Option.some.inj H
                    have hcz106_0 : wc.cell? ⟨gb225, 0, none⟩ = some (.int .i64 a0_0) := (blk_cell BK225.out 0).trans rfl
                    have hcz106_1 : wc.cell? ⟨gb225, 1, none⟩ = some (.slice A0_1 l0_1.length c0_1) := (blk_cell BK225.out 1).trans rfl
                    have hcz106_2 : wc.cell? ⟨gb225, 2, none⟩ = some (.int .i64 a0_2) := (blk_cell BK225.out 2).trans rfl
                    have hfz106_0 := blk_frozen BK225.out 0
                    have hfz106_1 := blk_frozen BK225.out 1
                    have hfz106_2 := blk_frozen BK225.out 2
                    go_wp2_with (first | ((with_reducible refine gate_callee (f := 10) rfl ?_); refine goesL_ (some 28) rfl rfl Try.func10 (by kernel_rfl) rfl #[.agg #[.int .i64 a0_0, .slice A0_1 l0_1.length c0_1, .int .i64 a0_2], .int .i64 a1, .int .i64 a2] rfl (by (try simp only [List.map_toArray, List.map_cons, List.map_nil]); first | done | rfl | (simp only [List.length_drop, List.length_take]; rfl)) ?_; (with_reducible refine (least_Met.calls a0_0 _ _ l0_1 a0_2 a1 a2 t227 t228 t231 false t233 _ ?side1 ?side2 A11.out).mono ?_); (case side1 => repeat (first | exact (Kd.C_below HR0_1.out HB.out) | (with_reducible refine Kd.C_alloc ?_ _) | (with_reducible refine Kd.C_drewN ?_ _) | (with_reducible refine Kd.C_drew ?_))); (case side2 => exact HC0_1.out); rintro e w107 ⟨v229, rfl, ho0, hb⟩; refine ⟨_, rfl, ?_⟩; have n0_ := Aside0.mk (Kd.R_lower ho0 (below_size (by repeat (first | (with_reducible first | exact HB.out | apply below_alloc | apply pw_below_drewN | apply below_drew1 | refine below_set ?_ GE225.out) | exact HB.out)))); have n1_ := Aside0.mk (blk_below (g := gb225) (o := .cells #[.int .i64 a0_0, .slice A0_1 l0_1.length c0_1, .int .i64 a0_2] 24 (0, 0)) (by (with_reducible repeat (first | refine blk_drewN ?_ _ | refine blk_drew ?_ | refine blk_alloc ?_ _)); exact BK225.out) hb); have n2_ := Aside0.mk (below_step (by repeat (first | (with_reducible first | exact HB.out | apply below_alloc | apply pw_below_drewN | apply below_drew1 | refine below_set ?_ GE225.out) | exact HB.out)) hb); clear BK225; clear HB; have HO230 := n0_; have BK225 := n1_; have HB := n2_; clear n0_ n1_ n2_; (try clear hb); (try clear hb2); (try clear hk); (try clear hi); (try clear ho0)) | ((with_reducible refine gate_dst (N := 8) rfl ?_); (try (refine gate_guard (by rfl) ?_; dsimp only)); refine box_event ?hg (N := 8) ?hd (cs := #[.int .i64 0, .slice none 0 0, .int .i64 0]) (t := 24) ?hr ?_; (case hd => rfl); (case hg => rfl); (case hr => first | (go_simp; done) | (go_simp; rfl)); intro gb234 hg w108 hbox hb; have n0_ := Aside0.mk (Kd.R_below (by (with_reducible repeat (first | apply Kd.R_alloc | apply Kd.R_drewN | apply Kd.R_drew)); exact HO230.out) hb); have n1_ := Aside0.mk (blk_below (g := gb225) (o := .cells #[.int .i64 a0_0, .slice A0_1 l0_1.length c0_1, .int .i64 a0_2] 24 (0, 0)) (by (with_reducible repeat (first | refine blk_drewN ?_ _ | refine blk_drew ?_ | refine blk_alloc ?_ _)); exact BK225.out) hb); have n2_ := Aside0.mk (below_step (by repeat (first | (with_reducible first | exact HB.out | apply below_alloc | apply pw_below_drewN | apply below_drew1 | refine below_set ?_ GE225.out) | exact HB.out)) hb); have n3_ := Aside0.mk (hbox); have n4_ := Aside0.mk ((by rw [hg]; exact (below_size (by repeat (first | (with_reducible first | exact HB.out | apply below_alloc | apply pw_below_drewN | apply below_drew1 | refine below_set ?_ GE225.out) | exact HB.out))) : w.heap.size ≤ gb234)); have n5_ := Aside0.mk ((by rw [hg]; exact (below_size (by repeat (first | (with_reducible first | exact HB.out | apply below_alloc | apply pw_below_drewN | apply below_drew1 | refine below_set ?_ GE225.out) | exact HB.out))) : w.heap.size ≤ gb234)); have n6_ := Aside0.mk ((by rw [hg]; exact Nat.ne_of_lt (blk_lt (g := gb225) (o := .cells #[.int .i64 a0_0, .slice A0_1 l0_1.length c0_1, .int .i64 a0_2] 24 (0, 0)) (by (with_reducible repeat (first | refine blk_drewN ?_ _ | refine blk_drew ?_ | refine blk_alloc ?_ _)); exact BK225.out)) : gb225 ≠ gb234)); have n7_ := Aside0.mk ((by rw [hg]; exact Nat.ne_of_gt (blk_lt (g := gb225) (o := .cells #[.int .i64 a0_0, .slice A0_1 l0_1.length c0_1, .int .i64 a0_2] 24 (0, 0)) (by (with_reducible repeat (first | refine blk_drewN ?_ _ | refine blk_drew ?_ | refine blk_alloc ?_ _)); exact BK225.out)) : gb234 ≠ gb225)); clear HO230; clear BK225; clear HB; have HO230 := n0_; have BK225 := n1_; have HB := n2_; have BK234 := n3_; have GW234 := n4_; have GE234 := n5_; have NB225_234 := n6_; have NB234_225 := n7_; clear n0_ n1_ n2_ n3_ n4_ n5_ n6_ n7_; clear hb hbox hg; have hnb109 := NB234_225.out; have hnc109 := NB225_234.out; have hcz110_0 : w108.cell? ⟨gb234, 0, none⟩ = some (.int .i64 0) := (blk_cell BK234.out 0).trans rfl; have hcz110_1 : w108.cell? ⟨gb234, 1, none⟩ = some (.slice none 0 0) := (blk_cell BK234.out 1).trans rfl; have hcz110_2 : w108.cell? ⟨gb234, 2, none⟩ = some (.int .i64 0) := (blk_cell BK234.out 2).trans rfl; have hfz110_0 := blk_frozen BK234.out 0; have hfz110_1 := blk_frozen BK234.out 1; have hfz110_2 := blk_frozen BK234.out 2; obtain ⟨Ao111, co111, eo111⟩ := Kd.R_slice HO230.out; subst eo111; have hcz112_0 : w108.cell? ⟨gb225, 0, none⟩ = some (.int .i64 a0_0) := (blk_cell BK225.out 0).trans rfl; have hcz112_1 : w108.cell? ⟨gb225, 1, none⟩ = some (.slice A0_1 l0_1.length c0_1) := (blk_cell BK225.out 1).trans rfl; have hcz112_2 : w108.cell? ⟨gb225, 2, none⟩ = some (.int .i64 a0_2) := (blk_cell BK225.out 2).trans rfl; have hfz112_0 := blk_frozen BK225.out 0; have hfz112_1 := blk_frozen BK225.out 1; have hfz112_2 := blk_frozen BK225.out 2) | ((with_reducible refine gate_callee (f := 13) rfl ?_); refine goesL_ (some 45) rfl rfl Try.func13 (by kernel_rfl) rfl #[.agg #[.int .i64 a0_0, .slice A0_1 l0_1.length c0_1, .int .i64 a0_2], .int .i64 a1] rfl (by (try simp only [List.map_toArray, List.map_cons, List.map_nil]); first | done | rfl | (simp only [List.length_drop, List.length_take]; rfl)) ?_; (with_reducible refine (least_Of.calls a0_0 _ _ l0_1 a0_2 a1 t235 true _ ?side1 ?side2 A13.out).mono ?_); (case side1 => exact Kd.C_below HR0_1.out (by repeat (first | (with_reducible first | exact HB.out | apply below_alloc | apply pw_below_drewN | apply below_drew1 | refine below_set ?_ GE225.out | refine below_set ?_ GE234.out) | exact HB.out))); (case side2 => exact HC0_1.out); rintro e w113 ⟨rfl, hb⟩; refine ⟨_, rfl, ?_⟩; have n0_ := Aside0.mk (Kd.R_below (by (with_reducible repeat (first | apply Kd.R_alloc | apply Kd.R_drewN | apply Kd.R_drew)); exact (Kd.R_mono (Kd.R_far (p := ⟨gb234, 2, none⟩) (Kd.R_far (p := ⟨gb234, 1, none⟩) (Kd.R_far (p := ⟨gb234, 0, none⟩) (Kd.R_types HO230.out BK234.out (by decide)) (fun _ hk => hk.2) (.int .i64 t227)) (fun _ hk => hk.2) (.slice Ao111 t228.length co111)) (fun _ hk => hk.2) (.int .i64 t231)) (fun _ h_ => h_.1))) hb); have n1_ := Aside0.mk (blk_below (g := gb225) (o := .cells #[.int .i64 a0_0, .slice A0_1 l0_1.length c0_1, .int .i64 a0_2] 24 (0, 0)) (by (with_reducible repeat (first | refine blk_drewN ?_ _ | refine blk_drew ?_ | refine blk_alloc ?_ _)); refine blk_far ?_ NB225_234.out _; (with_reducible repeat (first | refine blk_drewN ?_ _ | refine blk_drew ?_ | refine blk_alloc ?_ _)); refine blk_far ?_ NB225_234.out _; (with_reducible repeat (first | refine blk_drewN ?_ _ | refine blk_drew ?_ | refine blk_alloc ?_ _)); refine blk_far ?_ NB225_234.out _; (with_reducible repeat (first | refine blk_drewN ?_ _ | refine blk_drew ?_ | refine blk_alloc ?_ _)); exact BK225.out) hb); have n2_ := Aside0.mk (blk_below (g := gb234) (o := .cells #[.int .i64 t227, .slice Ao111 t228.length co111, .int .i64 t231] 24 (0, 0)) (by (with_reducible repeat (first | refine blk_drewN ?_ _ | refine blk_drew ?_ | refine blk_alloc ?_ _)); refine blk_put (cs := #[.int .i64 t227, .slice Ao111 t228.length co111, .int .i64 0]) ?_ 2 _ rfl; (with_reducible repeat (first | refine blk_drewN ?_ _ | refine blk_drew ?_ | refine blk_alloc ?_ _)); refine blk_put (cs := #[.int .i64 t227, .slice none 0 0, .int .i64 0]) ?_ 1 _ rfl; (with_reducible repeat (first | refine blk_drewN ?_ _ | refine blk_drew ?_ | refine blk_alloc ?_ _)); refine blk_put (cs := #[.int .i64 0, .slice none 0 0, .int .i64 0]) ?_ 0 _ rfl; (with_reducible repeat (first | refine blk_drewN ?_ _ | refine blk_drew ?_ | refine blk_alloc ?_ _)); exact BK234.out) hb); have n3_ := Aside0.mk (below_step (by repeat (first | (with_reducible first | exact HB.out | apply below_alloc | apply pw_below_drewN | apply below_drew1 | refine below_set ?_ GE225.out | refine below_set ?_ GE234.out) | exact HB.out)) hb); clear HO230; clear BK225; clear BK234; clear HB; have HO230 := n0_; have BK225 := n1_; have BK234 := n2_; have HB := n3_; clear n0_ n1_ n2_ n3_; (try clear hb); (try clear hb2); (try clear hk); (try clear hi); have hcz114_0 : w113.cell? ⟨gb234, 0, none⟩ = some (.int .i64 t227) := (blk_cell BK234.out 0).trans rfl; have hcz114_1 : w113.cell? ⟨gb234, 1, none⟩ = some (.slice Ao111 t228.length co111) := (blk_cell BK234.out 1).trans rfl; have hcz114_2 : w113.cell? ⟨gb234, 2, none⟩ = some (.int .i64 t231) := (blk_cell BK234.out 2).trans rfl; have hfz114_0 := blk_frozen BK234.out 0; have hfz114_1 := blk_frozen BK234.out 1; have hfz114_2 := blk_frozen BK234.out 2; have hcz115_0 : w113.cell? ⟨gb225, 0, none⟩ = some (.int .i64 a0_0) := (blk_cell BK225.out 0).trans rfl; have hcz115_1 : w113.cell? ⟨gb225, 1, none⟩ = some (.slice A0_1 l0_1.length c0_1) := (blk_cell BK225.out 1).trans rfl; have hcz115_2 : w113.cell? ⟨gb225, 2, none⟩ = some (.int .i64 a0_2) := (blk_cell BK225.out 2).trans rfl; have hfz115_0 := blk_frozen BK225.out 0; have hfz115_1 := blk_frozen BK225.out 1; have hfz115_2 := blk_frozen BK225.out 2) | (go_at_call 15; (with_reducible refine (least_May.calls kj4 t227 _ _ t228 t231 t239 _ ?side1 ?side2 A105.out).mono ?_); (case side1 => repeat (first | exact (Kd.R_reads' HO230.out).2.2 | (with_reducible refine Kd.C_alloc ?_ _) | (with_reducible refine Kd.C_drewN ?_ _) | (with_reducible refine Kd.C_drew ?_))); (case side2 => exact (Kd.R_reads' HO230.out).2.1); rintro e w116 ⟨rfl, hb⟩; have n0_ := Aside0.mk (Kd.R_below (by (with_reducible repeat (first | apply Kd.R_alloc | apply Kd.R_drewN | apply Kd.R_drew)); exact HO230.out) hb); have n1_ := Aside0.mk (blk_below (g := gb225) (o := .cells #[.int .i64 a0_0, .slice A0_1 l0_1.length c0_1, .int .i64 a0_2] 24 (0, 0)) (by (with_reducible repeat (first | refine blk_drewN ?_ _ | refine blk_drew ?_ | refine blk_alloc ?_ _)); exact BK225.out) hb); have n2_ := Aside0.mk (blk_below (g := gb234) (o := .cells #[.int .i64 t227, .slice Ao111 t228.length co111, .int .i64 t231] 24 (0, 0)) (by (with_reducible repeat (first | refine blk_drewN ?_ _ | refine blk_drew ?_ | refine blk_alloc ?_ _)); exact BK234.out) hb); have n3_ := Aside0.mk (below_step (by repeat (first | (with_reducible first | exact HB.out | apply below_alloc | apply pw_below_drewN | apply below_drew1 | refine below_set ?_ GE225.out | refine below_set ?_ GE234.out) | exact HB.out)) hb); clear HO230; clear BK225; clear BK234; clear HB; have HO230 := n0_; have BK225 := n1_; have BK234 := n2_; have HB := n3_; clear n0_ n1_ n2_ n3_; (try clear hb); (try clear hb2); (try clear hk); (try clear hi)))
                    go_ret
                    exact ⟨by first | rfl | (simp [errW_none, errW_some] <;> rfl) | (simp [*, errW_none, errW_some] <;> rfl), by repeat (first | (with_reducible first | exact HB.out | apply below_alloc | apply pw_below_drewN | apply below_drew1 | refine below_set ?_ GE225.out | refine below_set ?_ GE234.out) | exact HB.out)⟩
                  · rw [if_neg c104] at H
                    have c104b0 : (t227 == a0_0) = false := beq_eq_false_iff_ne.mpr c104
                    have c104b1 : (t227 != a0_0) = true := bne_iff_ne.mpr c104
                    rw [hr1] at H
                    cases H
              · rw [if_neg c68] at H
                have c68b0 : ((decide (a2 > (wrap64 (2 * t235)))) == (decide (t231 > 0))) = false := by simpa using c68
                (try (have c68b1 : decide ((decide (a2 > (wrap64 (2 * t235)))) = (decide (t231 > 0))) = false := by simpa using c68))
                (try (have c68b2 : ((decide (a2 > (wrap64 (2 * t235)))) == (decide (t231 > 0))) = false := by simpa using c68))
                (try (have c68b3 : ¬ ((decide (a2 > (wrap64 (2 * t235)))) = (decide (t231 > 0))) := by simpa using c68))
                clear c68
                rw [hr1] at H
                cases H
          · replace c14 := Bool.eq_false_iff.mpr c14
            subst c14
            have H1 : (if t232 = true then (some false) else (if (false == (decide (t231 > 0))) = true then (if t227 = a0_0 then ((least_May.f kj4 t227 t228 t231).bind fun t240 => (some t240)) else (some false)) else (some false))) = some r := by rw [if_neg (show ¬ (false = true) by decide)] at H; exact H
            clear H
            have H := H1
            clear H1
            by_cases c136 : t232 = true
            · subst c136
              have H1 : (some false) = some r := by rw [if_pos rfl] at H; exact H
              clear H
              have H := H1
              clear H1
              rw [hr1] at H
              cases H
            · replace c136 := Bool.eq_false_iff.mpr c136
              subst c136
              have H1 : (if (false == (decide (t231 > 0))) = true then (if t227 = a0_0 then ((least_May.f kj4 t227 t228 t231).bind fun t240 => (some t240)) else (some false)) else (some false)) = some r := by rw [if_neg (show ¬ (false = true) by decide)] at H; exact H
              clear H
              have H := H1
              clear H1
              by_cases c145 : (false == (decide (t231 > 0))) = true
              · rw [if_pos c145] at H
                have c145b0 : (false == (decide (t231 > 0))) = true := c145
                (try (have c145b1 : decide (false = (decide (t231 > 0))) = true := by simpa using c145))
                (try (have c145b2 : (false == (decide (t231 > 0))) = true := by simpa using c145))
                clear c145
                by_cases c146 : t227 = a0_0
                · rw [if_pos c146] at H
                  have c146b0 : (t227 == a0_0) = true := beq_iff_eq.mpr c146
                  have c146b1 : (t227 != a0_0) = false := bne_eq_false_iff_eq.mpr c146
                  clear c146
                  replace H := Option.bind_eq_some_iff.mp H
                  obtain ⟨t240, A1470, H⟩ := H
                  replace H : (some t240) = some r := H
                  have A147 := Aside0.mk A1470
                  clear A1470
                  obtain rfl := Option.some.inj H
                  have hcz148_0 : wc.cell? ⟨gb225, 0, none⟩ = some (.int .i64 a0_0) := (blk_cell BK225.out 0).trans rfl
                  have hcz148_1 : wc.cell? ⟨gb225, 1, none⟩ = some (.slice A0_1 l0_1.length c0_1) := (blk_cell BK225.out 1).trans rfl
                  have hcz148_2 : wc.cell? ⟨gb225, 2, none⟩ = some (.int .i64 a0_2) := (blk_cell BK225.out 2).trans rfl
                  have hfz148_0 := blk_frozen BK225.out 0
                  have hfz148_1 := blk_frozen BK225.out 1
                  have hfz148_2 := blk_frozen BK225.out 2
                  go_wp2_with (first | ((with_reducible refine gate_callee (f := 10) rfl ?_); refine goesL_ (some 28) rfl rfl Try.func10 (by kernel_rfl) rfl #[.agg #[.int .i64 a0_0, .slice A0_1 l0_1.length c0_1, .int .i64 a0_2], .int .i64 a1, .int .i64 a2] rfl (by (try simp only [List.map_toArray, List.map_cons, List.map_nil]); first | done | rfl | (simp only [List.length_drop, List.length_take]; rfl)) ?_; (with_reducible refine (least_Met.calls a0_0 _ _ l0_1 a0_2 a1 a2 t227 t228 t231 false t233 _ ?side1 ?side2 A11.out).mono ?_); (case side1 => repeat (first | exact (Kd.C_below HR0_1.out HB.out) | (with_reducible refine Kd.C_alloc ?_ _) | (with_reducible refine Kd.C_drewN ?_ _) | (with_reducible refine Kd.C_drew ?_))); (case side2 => exact HC0_1.out); rintro e w149 ⟨v229, rfl, ho0, hb⟩; refine ⟨_, rfl, ?_⟩; have n0_ := Aside0.mk (Kd.R_lower ho0 (below_size (by repeat (first | (with_reducible first | exact HB.out | apply below_alloc | apply pw_below_drewN | apply below_drew1 | refine below_set ?_ GE225.out) | exact HB.out)))); have n1_ := Aside0.mk (blk_below (g := gb225) (o := .cells #[.int .i64 a0_0, .slice A0_1 l0_1.length c0_1, .int .i64 a0_2] 24 (0, 0)) (by (with_reducible repeat (first | refine blk_drewN ?_ _ | refine blk_drew ?_ | refine blk_alloc ?_ _)); exact BK225.out) hb); have n2_ := Aside0.mk (below_step (by repeat (first | (with_reducible first | exact HB.out | apply below_alloc | apply pw_below_drewN | apply below_drew1 | refine below_set ?_ GE225.out) | exact HB.out)) hb); clear BK225; clear HB; have HO230 := n0_; have BK225 := n1_; have HB := n2_; clear n0_ n1_ n2_; (try clear hb); (try clear hb2); (try clear hk); (try clear hi); (try clear ho0)) | ((with_reducible refine gate_dst (N := 8) rfl ?_); (try (refine gate_guard (by rfl) ?_; dsimp only)); refine box_event ?hg (N := 8) ?hd (cs := #[.int .i64 0, .slice none 0 0, .int .i64 0]) (t := 24) ?hr ?_; (case hd => rfl); (case hg => rfl); (case hr => first | (go_simp; done) | (go_simp; rfl)); intro gb234 hg w150 hbox hb; have n0_ := Aside0.mk (Kd.R_below (by (with_reducible repeat (first | apply Kd.R_alloc | apply Kd.R_drewN | apply Kd.R_drew)); exact HO230.out) hb); have n1_ := Aside0.mk (blk_below (g := gb225) (o := .cells #[.int .i64 a0_0, .slice A0_1 l0_1.length c0_1, .int .i64 a0_2] 24 (0, 0)) (by (with_reducible repeat (first | refine blk_drewN ?_ _ | refine blk_drew ?_ | refine blk_alloc ?_ _)); exact BK225.out) hb); have n2_ := Aside0.mk (below_step (by repeat (first | (with_reducible first | exact HB.out | apply below_alloc | apply pw_below_drewN | apply below_drew1 | refine below_set ?_ GE225.out) | exact HB.out)) hb); have n3_ := Aside0.mk (hbox); have n4_ := Aside0.mk ((by rw [hg]; exact (below_size (by repeat (first | (with_reducible first | exact HB.out | apply below_alloc | apply pw_below_drewN | apply below_drew1 | refine below_set ?_ GE225.out) | exact HB.out))) : w.heap.size ≤ gb234)); have n5_ := Aside0.mk ((by rw [hg]; exact (below_size (by repeat (first | (with_reducible first | exact HB.out | apply below_alloc | apply pw_below_drewN | apply below_drew1 | refine below_set ?_ GE225.out) | exact HB.out))) : w.heap.size ≤ gb234)); have n6_ := Aside0.mk ((by rw [hg]; exact Nat.ne_of_lt (blk_lt (g := gb225) (o := .cells #[.int .i64 a0_0, .slice A0_1 l0_1.length c0_1, .int .i64 a0_2] 24 (0, 0)) (by (with_reducible repeat (first | refine blk_drewN ?_ _ | refine blk_drew ?_ | refine blk_alloc ?_ _)); exact BK225.out)) : gb225 ≠ gb234)); have n7_ := Aside0.mk ((by rw [hg]; exact Nat.ne_of_gt (blk_lt (g := gb225) (o := .cells #[.int .i64 a0_0, .slice A0_1 l0_1.length c0_1, .int .i64 a0_2] 24 (0, 0)) (by (with_reducible repeat (first | refine blk_drewN ?_ _ | refine blk_drew ?_ | refine blk_alloc ?_ _)); exact BK225.out)) : gb234 ≠ gb225)); clear HO230; clear BK225; clear HB; have HO230 := n0_; have BK225 := n1_; have HB := n2_; have BK234 := n3_; have GW234 := n4_; have GE234 := n5_; have NB225_234 := n6_; have NB234_225 := n7_; clear n0_ n1_ n2_ n3_ n4_ n5_ n6_ n7_; clear hb hbox hg; have hnb151 := NB234_225.out; have hnc151 := NB225_234.out; have hcz152_0 : w150.cell? ⟨gb234, 0, none⟩ = some (.int .i64 0) := (blk_cell BK234.out 0).trans rfl; have hcz152_1 : w150.cell? ⟨gb234, 1, none⟩ = some (.slice none 0 0) := (blk_cell BK234.out 1).trans rfl; have hcz152_2 : w150.cell? ⟨gb234, 2, none⟩ = some (.int .i64 0) := (blk_cell BK234.out 2).trans rfl; have hfz152_0 := blk_frozen BK234.out 0; have hfz152_1 := blk_frozen BK234.out 1; have hfz152_2 := blk_frozen BK234.out 2; obtain ⟨Ao153, co153, eo153⟩ := Kd.R_slice HO230.out; subst eo153; have hcz154_0 : w150.cell? ⟨gb225, 0, none⟩ = some (.int .i64 a0_0) := (blk_cell BK225.out 0).trans rfl; have hcz154_1 : w150.cell? ⟨gb225, 1, none⟩ = some (.slice A0_1 l0_1.length c0_1) := (blk_cell BK225.out 1).trans rfl; have hcz154_2 : w150.cell? ⟨gb225, 2, none⟩ = some (.int .i64 a0_2) := (blk_cell BK225.out 2).trans rfl; have hfz154_0 := blk_frozen BK225.out 0; have hfz154_1 := blk_frozen BK225.out 1; have hfz154_2 := blk_frozen BK225.out 2) | ((with_reducible refine gate_callee (f := 13) rfl ?_); refine goesL_ (some 45) rfl rfl Try.func13 (by kernel_rfl) rfl #[.agg #[.int .i64 a0_0, .slice A0_1 l0_1.length c0_1, .int .i64 a0_2], .int .i64 a1] rfl (by (try simp only [List.map_toArray, List.map_cons, List.map_nil]); first | done | rfl | (simp only [List.length_drop, List.length_take]; rfl)) ?_; (with_reducible refine (least_Of.calls a0_0 _ _ l0_1 a0_2 a1 t235 false _ ?side1 ?side2 A13.out).mono ?_); (case side1 => exact Kd.C_below HR0_1.out (by repeat (first | (with_reducible first | exact HB.out | apply below_alloc | apply pw_below_drewN | apply below_drew1 | refine below_set ?_ GE225.out | refine below_set ?_ GE234.out) | exact HB.out))); (case side2 => exact HC0_1.out); rintro e w155 ⟨rfl, hb⟩; refine ⟨_, rfl, ?_⟩; have n0_ := Aside0.mk (Kd.R_below (by (with_reducible repeat (first | apply Kd.R_alloc | apply Kd.R_drewN | apply Kd.R_drew)); exact (Kd.R_mono (Kd.R_far (p := ⟨gb234, 2, none⟩) (Kd.R_far (p := ⟨gb234, 1, none⟩) (Kd.R_far (p := ⟨gb234, 0, none⟩) (Kd.R_types HO230.out BK234.out (by decide)) (fun _ hk => hk.2) (.int .i64 t227)) (fun _ hk => hk.2) (.slice Ao153 t228.length co153)) (fun _ hk => hk.2) (.int .i64 t231)) (fun _ h_ => h_.1))) hb); have n1_ := Aside0.mk (blk_below (g := gb225) (o := .cells #[.int .i64 a0_0, .slice A0_1 l0_1.length c0_1, .int .i64 a0_2] 24 (0, 0)) (by (with_reducible repeat (first | refine blk_drewN ?_ _ | refine blk_drew ?_ | refine blk_alloc ?_ _)); refine blk_far ?_ NB225_234.out _; (with_reducible repeat (first | refine blk_drewN ?_ _ | refine blk_drew ?_ | refine blk_alloc ?_ _)); refine blk_far ?_ NB225_234.out _; (with_reducible repeat (first | refine blk_drewN ?_ _ | refine blk_drew ?_ | refine blk_alloc ?_ _)); refine blk_far ?_ NB225_234.out _; (with_reducible repeat (first | refine blk_drewN ?_ _ | refine blk_drew ?_ | refine blk_alloc ?_ _)); exact BK225.out) hb); have n2_ := Aside0.mk (blk_below (g := gb234) (o := .cells #[.int .i64 t227, .slice Ao153 t228.length co153, .int .i64 t231] 24 (0, 0)) (by (with_reducible repeat (first | refine blk_drewN ?_ _ | refine blk_drew ?_ | refine blk_alloc ?_ _)); refine blk_put (cs := #[.int .i64 t227, .slice Ao153 t228.length co153, .int .i64 0]) ?_ 2 _ rfl; (with_reducible repeat (first | refine blk_drewN ?_ _ | refine blk_drew ?_ | refine blk_alloc ?_ _)); refine blk_put (cs := #[.int .i64 t227, .slice none 0 0, .int .i64 0]) ?_ 1 _ rfl; (with_reducible repeat (first | refine blk_drewN ?_ _ | refine blk_drew ?_ | refine blk_alloc ?_ _)); refine blk_put (cs := #[.int .i64 0, .slice none 0 0, .int .i64 0]) ?_ 0 _ rfl; (with_reducible repeat (first | refine blk_drewN ?_ _ | refine blk_drew ?_ | refine blk_alloc ?_ _)); exact BK234.out) hb); have n3_ := Aside0.mk (below_step (by repeat (first | (with_reducible first | exact HB.out | apply below_alloc | apply pw_below_drewN | apply below_drew1 | refine below_set ?_ GE225.out | refine below_set ?_ GE234.out) | exact HB.out)) hb); clear HO230; clear BK225; clear BK234; clear HB; have HO230 := n0_; have BK225 := n1_; have BK234 := n2_; have HB := n3_; clear n0_ n1_ n2_ n3_; (try clear hb); (try clear hb2); (try clear hk); (try clear hi); have hcz156_0 : w155.cell? ⟨gb234, 0, none⟩ = some (.int .i64 t227) := (blk_cell BK234.out 0).trans rfl; have hcz156_1 : w155.cell? ⟨gb234, 1, none⟩ = some (.slice Ao153 t228.length co153) := (blk_cell BK234.out 1).trans rfl; have hcz156_2 : w155.cell? ⟨gb234, 2, none⟩ = some (.int .i64 t231) := (blk_cell BK234.out 2).trans rfl; have hfz156_0 := blk_frozen BK234.out 0; have hfz156_1 := blk_frozen BK234.out 1; have hfz156_2 := blk_frozen BK234.out 2; have hcz157_0 : w155.cell? ⟨gb225, 0, none⟩ = some (.int .i64 a0_0) := (blk_cell BK225.out 0).trans rfl; have hcz157_1 : w155.cell? ⟨gb225, 1, none⟩ = some (.slice A0_1 l0_1.length c0_1) := (blk_cell BK225.out 1).trans rfl; have hcz157_2 : w155.cell? ⟨gb225, 2, none⟩ = some (.int .i64 a0_2) := (blk_cell BK225.out 2).trans rfl; have hfz157_0 := blk_frozen BK225.out 0; have hfz157_1 := blk_frozen BK225.out 1; have hfz157_2 := blk_frozen BK225.out 2) | (go_at_call 15; (with_reducible refine (least_May.calls kj4 t227 _ _ t228 t231 t240 _ ?side1 ?side2 A147.out).mono ?_); (case side1 => repeat (first | exact (Kd.R_reads' HO230.out).2.2 | (with_reducible refine Kd.C_alloc ?_ _) | (with_reducible refine Kd.C_drewN ?_ _) | (with_reducible refine Kd.C_drew ?_))); (case side2 => exact (Kd.R_reads' HO230.out).2.1); rintro e w158 ⟨rfl, hb⟩; have n0_ := Aside0.mk (Kd.R_below (by (with_reducible repeat (first | apply Kd.R_alloc | apply Kd.R_drewN | apply Kd.R_drew)); exact HO230.out) hb); have n1_ := Aside0.mk (blk_below (g := gb225) (o := .cells #[.int .i64 a0_0, .slice A0_1 l0_1.length c0_1, .int .i64 a0_2] 24 (0, 0)) (by (with_reducible repeat (first | refine blk_drewN ?_ _ | refine blk_drew ?_ | refine blk_alloc ?_ _)); exact BK225.out) hb); have n2_ := Aside0.mk (blk_below (g := gb234) (o := .cells #[.int .i64 t227, .slice Ao153 t228.length co153, .int .i64 t231] 24 (0, 0)) (by (with_reducible repeat (first | refine blk_drewN ?_ _ | refine blk_drew ?_ | refine blk_alloc ?_ _)); exact BK234.out) hb); have n3_ := Aside0.mk (below_step (by repeat (first | (with_reducible first | exact HB.out | apply below_alloc | apply pw_below_drewN | apply below_drew1 | refine below_set ?_ GE225.out | refine below_set ?_ GE234.out) | exact HB.out)) hb); clear HO230; clear BK225; clear BK234; clear HB; have HO230 := n0_; have BK225 := n1_; have BK234 := n2_; have HB := n3_; clear n0_ n1_ n2_ n3_; (try clear hb); (try clear hb2); (try clear hk); (try clear hi)))
                  go_ret
                  exact ⟨by first | rfl | (simp [errW_none, errW_some] <;> rfl) | (simp [*, errW_none, errW_some] <;> rfl), by repeat (first | (with_reducible first | exact HB.out | apply below_alloc | apply pw_below_drewN | apply below_drew1 | refine below_set ?_ GE225.out | refine below_set ?_ GE234.out) | exact HB.out)⟩
                · rw [if_neg c146] at H
                  have c146b0 : (t227 == a0_0) = false := beq_eq_false_iff_ne.mpr c146
                  have c146b1 : (t227 != a0_0) = true := bne_iff_ne.mpr c146
                  rw [hr1] at H
                  cases H
              · rw [if_neg c145] at H
                have c145b0 : (false == (decide (t231 > 0))) = false := by simpa using c145
                (try (have c145b1 : decide (false = (decide (t231 > 0))) = false := by simpa using c145))
                (try (have c145b2 : (false == (decide (t231 > 0))) = false := by simpa using c145))
                (try (have c145b3 : ¬ (false = (decide (t231 > 0))) := by simpa using c145))
                clear c145
                rw [hr1] at H
                cases H
        · rw [if_neg c12] at H
          have c12b0 : (t233 == 0) = false := beq_eq_false_iff_ne.mpr c12
          have c12b1 : (t233 != 0) = true := bne_iff_ne.mpr c12
          by_cases c178 : t232 = true
          · subst c178
            have H1 : (some false) = some r := by rw [if_pos rfl] at H; exact H
            clear H
            have H := H1
            clear H1
            rw [hr1] at H
            cases H
          · replace c178 := Bool.eq_false_iff.mpr c178
            subst c178
            have H1 : (some ((t228.length : Int) == 0)) = some r := by rw [if_neg (show ¬ (false = true) by decide)] at H; exact H
            clear H
            have H := H1
            clear H1
            obtain rfl := Option.some.inj H
            have hcz185_0 : wc.cell? ⟨gb225, 0, none⟩ = some (.int .i64 a0_0) := (blk_cell BK225.out 0).trans rfl
            have hcz185_1 : wc.cell? ⟨gb225, 1, none⟩ = some (.slice A0_1 l0_1.length c0_1) := (blk_cell BK225.out 1).trans rfl
            have hcz185_2 : wc.cell? ⟨gb225, 2, none⟩ = some (.int .i64 a0_2) := (blk_cell BK225.out 2).trans rfl
            have hfz185_0 := blk_frozen BK225.out 0
            have hfz185_1 := blk_frozen BK225.out 1
            have hfz185_2 := blk_frozen BK225.out 2
            go_wp2_with (first | ((with_reducible refine gate_callee (f := 10) rfl ?_); refine goesL_ (some 28) rfl rfl Try.func10 (by kernel_rfl) rfl #[.agg #[.int .i64 a0_0, .slice A0_1 l0_1.length c0_1, .int .i64 a0_2], .int .i64 a1, .int .i64 a2] rfl (by (try simp only [List.map_toArray, List.map_cons, List.map_nil]); first | done | rfl | (simp only [List.length_drop, List.length_take]; rfl)) ?_; (with_reducible refine (least_Met.calls a0_0 _ _ l0_1 a0_2 a1 a2 t227 t228 t231 false t233 _ ?side1 ?side2 A11.out).mono ?_); (case side1 => repeat (first | exact (Kd.C_below HR0_1.out HB.out) | (with_reducible refine Kd.C_alloc ?_ _) | (with_reducible refine Kd.C_drewN ?_ _) | (with_reducible refine Kd.C_drew ?_))); (case side2 => exact HC0_1.out); rintro e w186 ⟨v229, rfl, ho0, hb⟩; refine ⟨_, rfl, ?_⟩; have n0_ := Aside0.mk (Kd.R_lower ho0 (below_size (by repeat (first | (with_reducible first | exact HB.out | apply below_alloc | apply pw_below_drewN | apply below_drew1 | refine below_set ?_ GE225.out) | exact HB.out)))); have n1_ := Aside0.mk (blk_below (g := gb225) (o := .cells #[.int .i64 a0_0, .slice A0_1 l0_1.length c0_1, .int .i64 a0_2] 24 (0, 0)) (by (with_reducible repeat (first | refine blk_drewN ?_ _ | refine blk_drew ?_ | refine blk_alloc ?_ _)); exact BK225.out) hb); have n2_ := Aside0.mk (below_step (by repeat (first | (with_reducible first | exact HB.out | apply below_alloc | apply pw_below_drewN | apply below_drew1 | refine below_set ?_ GE225.out) | exact HB.out)) hb); clear BK225; clear HB; have HO230 := n0_; have BK225 := n1_; have HB := n2_; clear n0_ n1_ n2_; (try clear hb); (try clear hb2); (try clear hk); (try clear hi); (try clear ho0)) | ((with_reducible refine gate_dst (N := 8) rfl ?_); (try (refine gate_guard (by rfl) ?_; dsimp only)); refine box_event ?hg (N := 8) ?hd (cs := #[.int .i64 0, .slice none 0 0, .int .i64 0]) (t := 24) ?hr ?_; (case hd => rfl); (case hg => rfl); (case hr => first | (go_simp; done) | (go_simp; rfl)); intro gb234 hg w187 hbox hb; have n0_ := Aside0.mk (Kd.R_below (by (with_reducible repeat (first | apply Kd.R_alloc | apply Kd.R_drewN | apply Kd.R_drew)); exact HO230.out) hb); have n1_ := Aside0.mk (blk_below (g := gb225) (o := .cells #[.int .i64 a0_0, .slice A0_1 l0_1.length c0_1, .int .i64 a0_2] 24 (0, 0)) (by (with_reducible repeat (first | refine blk_drewN ?_ _ | refine blk_drew ?_ | refine blk_alloc ?_ _)); exact BK225.out) hb); have n2_ := Aside0.mk (below_step (by repeat (first | (with_reducible first | exact HB.out | apply below_alloc | apply pw_below_drewN | apply below_drew1 | refine below_set ?_ GE225.out) | exact HB.out)) hb); have n3_ := Aside0.mk (hbox); have n4_ := Aside0.mk ((by rw [hg]; exact (below_size (by repeat (first | (with_reducible first | exact HB.out | apply below_alloc | apply pw_below_drewN | apply below_drew1 | refine below_set ?_ GE225.out) | exact HB.out))) : w.heap.size ≤ gb234)); have n5_ := Aside0.mk ((by rw [hg]; exact (below_size (by repeat (first | (with_reducible first | exact HB.out | apply below_alloc | apply pw_below_drewN | apply below_drew1 | refine below_set ?_ GE225.out) | exact HB.out))) : w.heap.size ≤ gb234)); have n6_ := Aside0.mk ((by rw [hg]; exact Nat.ne_of_lt (blk_lt (g := gb225) (o := .cells #[.int .i64 a0_0, .slice A0_1 l0_1.length c0_1, .int .i64 a0_2] 24 (0, 0)) (by (with_reducible repeat (first | refine blk_drewN ?_ _ | refine blk_drew ?_ | refine blk_alloc ?_ _)); exact BK225.out)) : gb225 ≠ gb234)); have n7_ := Aside0.mk ((by rw [hg]; exact Nat.ne_of_gt (blk_lt (g := gb225) (o := .cells #[.int .i64 a0_0, .slice A0_1 l0_1.length c0_1, .int .i64 a0_2] 24 (0, 0)) (by (with_reducible repeat (first | refine blk_drewN ?_ _ | refine blk_drew ?_ | refine blk_alloc ?_ _)); exact BK225.out)) : gb234 ≠ gb225)); clear HO230; clear BK225; clear HB; have HO230 := n0_; have BK225 := n1_; have HB := n2_; have BK234 := n3_; have GW234 := n4_; have GE234 := n5_; have NB225_234 := n6_; have NB234_225 := n7_; clear n0_ n1_ n2_ n3_ n4_ n5_ n6_ n7_; clear hb hbox hg; have hnb188 := NB234_225.out; have hnc188 := NB225_234.out; have hcz189_0 : w187.cell? ⟨gb234, 0, none⟩ = some (.int .i64 0) := (blk_cell BK234.out 0).trans rfl; have hcz189_1 : w187.cell? ⟨gb234, 1, none⟩ = some (.slice none 0 0) := (blk_cell BK234.out 1).trans rfl; have hcz189_2 : w187.cell? ⟨gb234, 2, none⟩ = some (.int .i64 0) := (blk_cell BK234.out 2).trans rfl; have hfz189_0 := blk_frozen BK234.out 0; have hfz189_1 := blk_frozen BK234.out 1; have hfz189_2 := blk_frozen BK234.out 2; obtain ⟨Ao190, co190, eo190⟩ := Kd.R_slice HO230.out; subst eo190))
            go_ret
            exact ⟨by first | rfl | (simp [errW_none, errW_some] <;> rfl) | (simp [*, errW_none, errW_some] <;> rfl), by repeat (first | (with_reducible first | exact HB.out | apply below_alloc | apply pw_below_drewN | apply below_drew1 | refine below_set ?_ GE225.out | refine below_set ?_ GE234.out) | exact HB.out)⟩

end Go.Proofs.Ytenpchgnjhmaaaa.S
