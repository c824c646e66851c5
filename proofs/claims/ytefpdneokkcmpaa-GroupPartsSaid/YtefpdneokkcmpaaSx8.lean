/- What the program's functions compute, as plain functions, and that they do: walks laid by a program of the session's. -/
import Derived.Test.YtefpdneokkcmpaaSx0
namespace Go.Proofs.Ytefpdneokkcmpaa.S
open Go.RowKit Go.Proofs.YtefpdneokkcmpaaW.PrintWords Go.Proofs.YtefpdneokkcmpaaW.PrintLast Go.Proofs.YtefpdneokkcmpaaW.PrintMore
open Go.Proofs.Ytefpdneokkcmpaa.Given
attribute [local go_sem] max2_int min2_int max_two min_two max_three min_three max_four min_four   -- for this text's walks alone
set_option linter.unusedVariables false
set_option linter.unusedSimpArgs false

-- GIVEN*: function 8 (fourinhandlaw17_awake)

/-! ### fourinhandlaw17_few: function 9 -/
def fourinhandlaw17_few.l0 : Nat → List (List Int) → Bool → Int → Option (Bool)
  | 0, _, _, _ => none
  | k + 1, x0, x3, x4 => if x4 < (x0.length : Int) then (if x3 = true then (if 0 ≤ x4 then (fourinhandlaw17_few.l0 k x0 (decide (((rd_L1 x0 x4).length : Int) ≤ 40)) (wrap64 (x4 + 1))) else (none)) else (some x3)) else (some x3)
def fourinhandlaw17_few.f (k : Nat) (l0 : List (List Int)) : Option (Bool) := fourinhandlaw17_few.l0 k l0 (decide ((l0.length : Int) ≤ 20)) 0
theorem fourinhandlaw17_few.mono_l : ∀ k, (∀ y0 y1 y2, LeO (fourinhandlaw17_few.l0 k y0 y1 y2) (fourinhandlaw17_few.l0 (k + 1) y0 y1 y2))
  | 0 => fun _ _ _ r h => by simp [fourinhandlaw17_few.l0] at h
  | k + 1 => by
    have ih0 := fourinhandlaw17_few.mono_l k
    · intro y0 y1 y2
      unfold fourinhandlaw17_few.l0
      repeat' first
      | (with_reducible exact ih0 _ _ _)
      | (with_reducible exact LeO.refl _)
      | (with_reducible exact LeO.none _)
      | (with_reducible refine LeO.ite ?_ ?_)
      | (with_reducible refine LeO.bind ?_ (fun _ => ?_))
      | exact ih0 _ _ _
      | exact LeO.none _
      | refine LeO.ite ?_ ?_
      | refine LeO.bind ?_ (fun _ => ?_)
theorem fourinhandlaw17_few.mono : ∀ a0 k, LeO (fourinhandlaw17_few.f k a0) (fourinhandlaw17_few.f (k + 1) a0) := by
  intro a0 k
  have ih0 := fourinhandlaw17_few.mono_l k
  unfold fourinhandlaw17_few.f
  repeat' first
      | (with_reducible exact ih0 _ _ _)
      | (with_reducible exact LeO.refl _)
      | (with_reducible exact LeO.none _)
      | (with_reducible refine LeO.ite ?_ ?_)
      | (with_reducible refine LeO.bind ?_ (fun _ => ?_))
      | exact ih0 _ _ _
      | exact LeO.none _
      | refine LeO.ite ?_ ?_
      | refine LeO.bind ?_ (fun _ => ?_)
set_option maxHeartbeats 8000000 in
set_option maxRecDepth 100000 in
theorem fourinhandlaw17_few.calls (k : Nat) (A0 : Option Addr) (c0 : Nat) (l0 : List (List Int)) (r : Bool) (w : World) (hr0 : Kd.C (Kd.slice 3 (Kd.int .i64)) w A0 l0.length l0) (hc0 : l0.length ≤ c0) (h : fourinhandlaw17_few.f k l0 = some r) :
    Calls Try.prog 9 #[.slice A0 l0.length c0] w fun e w' => e = .returned (.bool r) ∧ Drawn0 w w' := by
  have HR0 := Aside0.mk hr0
  have HC0 := Aside0.mk hc0
  clear hr0 hc0
  have H : (fourinhandlaw17_few.l0 k l0 (decide ((l0.length : Int) ≤ 20)) 0) = some r := h
  clear h
  have H' := Aside0.mk H
  clear H
  go_enter Try.func9, Try.ntmps9
  go_wp2
  go_loopg [3, 4] k (fun kq v3 v4 w' => ∃ (x3_1 : Bool) (x4_1 : Int), v3 = .bool x3_1 ∧ v4 = .int .i64 x4_1 ∧ Aside0 (fourinhandlaw17_few.l0 kq l0 x3_1 x4_1 = some r) ∧ Aside0 (kq ≤ k) ∧ Drawn0 w w')
  case atStart => exact ⟨(decide ((l0.length : Int) ≤ 20)), (0), (by first | rfl | (simp; done) | (simp [*]; done)), (by first | rfl | (simp; done) | (simp [*]; done)), H', ⟨Nat.le_refl _⟩, by repeat (first | exact Drawn0.refl _ | apply Drawn0.step)⟩
  case round =>
    clear H'
    obtain ⟨x3_1, x4_1, rfl, rfl, HA, HK1, ⟨m1, rfl⟩⟩ := hrel
    cases gk with
    | zero => exact absurd HA.out (by simp [fourinhandlaw17_few.l0])
    | succ k1 =>
      have H := HA.out
      clear HA
      simp only [fourinhandlaw17_few.l0] at H
      by_cases c2 : x4_1 < (l0.length : Int)
      · rw [if_pos c2] at H
        have c2b0 : decide (x4_1 < (l0.length : Int)) = true := decide_eq_true c2
        clear c2
        by_cases c3 : x3_1 = true
        · subst c3
          have H1 : (if 0 ≤ x4_1 then (fourinhandlaw17_few.l0 k1 l0 (decide (((rd_L1 l0 x4_1).length : Int) ≤ 40)) (wrap64 (x4_1 + 1))) else (none)) = some r := by rw [if_pos rfl] at H; exact H
          clear H
          have H := H1
          clear H1
          by_cases c4 : 0 ≤ x4_1
          · rw [if_pos c4] at H
            have c4b0 : decide (0 ≤ x4_1) = true := decide_eq_true c4
            clear c4
            have H' := Aside0.mk H
            clear H
            have p124 : 0 ≤ (x4_1 : Int) := of_decide_eq_true (by first | (with_reducible assumption) | assumption)
            have q124 : x4_1 < (l0.length : Int) := of_decide_eq_true (by first | (with_reducible assumption) | assumption)
            obtain ⟨ad124, A124_0, c124_0, e124, hx124_0, hl124_0, hi124_0⟩ := at_L1 HR0.out x4_1 p124 q124
            cases e124
            have HR124_0 := Aside0.mk hi124_0
            have HC124_0 := Aside0.mk hl124_0
            clear hi124_0 hl124_0
            replace p124 := eq_true p124
            replace q124 := eq_true q124
            go_wp2
            go_roundg k1
            case measure => have := HK1.out; omega
            case rel => exact ⟨(decide (((rd_L1 l0 x4_1).length : Int) ≤ 40)), (wrap64 (x4_1 + 1)), (by first | rfl | (simp; done) | (simp [*]; done)), (by first | rfl | (simp; done) | (simp [*]; done)), H', ⟨by have := HK1.out; omega⟩, by repeat (first | exact Drawn0.refl _ | apply Drawn0.step)⟩
          · rw [if_neg c4] at H
            exact absurd H (by simp)
        · replace c3 := Bool.eq_false_iff.mpr c3
          subst c3
          have H1 : (some false) = some r := by rw [if_neg (show ¬ (false = true) by decide)] at H; exact H
          clear H
          have H := H1
          clear H1
          obtain rfl := Option.some.inj H
          go_wp2
          go_ret
          exact ⟨by first | rfl | (simp; done) | (simp [*]; done), by repeat (first | exact Drawn0.refl _ | apply Drawn0.step)⟩
      · rw [if_neg c2] at H
        have c2b0 : decide (x4_1 < (l0.length : Int)) = false := decide_eq_false c2
        clear c2
        obtain rfl := Option.some.inj H
        go_wp2
        go_ret
        exact ⟨by first | rfl | (simp; done) | (simp [*]; done), by repeat (first | exact Drawn0.refl _ | apply Drawn0.step)⟩

end Go.Proofs.Ytefpdneokkcmpaa.S
