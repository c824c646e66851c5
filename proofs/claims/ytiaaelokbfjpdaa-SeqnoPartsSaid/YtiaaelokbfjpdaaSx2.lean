/- What the program's functions compute, as plain functions, and that they do: walks laid by a program of the session's. -/
import Derived.Test.YtiaaelokbfjpdaaSx0
import Derived.Test.YtiaaelokbfjpdaaSx1
namespace Go.Proofs.Ytiaaelokbfjpdaa.S
open Go.RowKit Go.Proofs.YtiaaelokbfjpdaaW.PrintWords Go.Proofs.YtiaaelokbfjpdaaW.PrintLast Go.Proofs.YtiaaelokbfjpdaaW.PrintMore
open Go.Proofs.Ytiaaelokbfjpdaa.Given
attribute [local go_sem] max2_int min2_int max_two min_two max_three min_three max_four min_four   -- for this text's walks alone
set_option linter.unusedVariables false
set_option linter.unusedSimpArgs false

/-! ### fourinhandlaw02_SeqnoBack: function 4 -/
mutual
def fourinhandlaw02_SeqnoBack.j0 : Nat → Int → Int → Bool → Option (Bool)
  | 0, _, _, _ => none
  | k + 1, x0, x1, x24 => if x24 = true then (some false) else (if x0 < 0 then (fourinhandlaw02_SeqnoBack.j1 k x0 x1 true) else (if x0 > 4611686018427387904 then (fourinhandlaw02_SeqnoBack.j1 k x0 x1 true) else (if x1 ≤ (-2147483648) then (fourinhandlaw02_SeqnoBack.j1 k x0 x1 true) else (if x1 ≥ 2147483648 then (fourinhandlaw02_SeqnoBack.j1 k x0 x1 true) else (fourinhandlaw02_SeqnoBack.j1 k x0 x1 (decide ((wrap64 (x0 + x1)) < 0)))))))
def fourinhandlaw02_SeqnoBack.j1 : Nat → Int → Int → Bool → Option (Bool)
  | 0, _, _, _ => none
  | k + 1, x0, x1, x44 => if x44 = true then (some true) else ((seqno_Low.f (wrap64 (x0 + x1))).bind fun t123 => ((seqno_Unwrap.f x0 t123).bind fun t124 => (some (t124 == (wrap64 (x0 + x1))))))
end
def fourinhandlaw02_SeqnoBack.f (k : Nat) (a0 : Int) (a1 : Int) (a2 : Int) : Option (Bool) := (fourinhandlaw02_awake.f).bind fun t119 => (if t119 = true then ((seqno_Unwrap.f a0 a2).bind fun t120 => ((seqno_Low.f t120).bind fun t121 => (if t121 = a2 then ((seqno_Unwrap.f a0 a2).bind fun t122 => (fourinhandlaw02_SeqnoBack.j0 k a0 a1 (decide (t122 < 0)))) else (fourinhandlaw02_SeqnoBack.j0 k a0 a1 true)))) else (fourinhandlaw02_SeqnoBack.j0 k a0 a1 true))
theorem fourinhandlaw02_SeqnoBack.mono_l : ∀ k, (∀ y0 y1 y2, LeO (fourinhandlaw02_SeqnoBack.j0 k y0 y1 y2) (fourinhandlaw02_SeqnoBack.j0 (k + 1) y0 y1 y2)) ∧ (∀ y0 y1 y2, LeO (fourinhandlaw02_SeqnoBack.j1 k y0 y1 y2) (fourinhandlaw02_SeqnoBack.j1 (k + 1) y0 y1 y2))
  | 0 => ⟨fun _ _ _ r h => by simp [fourinhandlaw02_SeqnoBack.j0] at h, fun _ _ _ r h => by simp [fourinhandlaw02_SeqnoBack.j1] at h⟩
  | k + 1 => by
    obtain ⟨ih0, ih1⟩ := fourinhandlaw02_SeqnoBack.mono_l k
    refine ⟨?_, ?_⟩
    · intro y0 y1 y2
      unfold fourinhandlaw02_SeqnoBack.j0
      repeat' first
      | (with_reducible exact ih0 _ _ _)
      | (with_reducible exact ih1 _ _ _)
      | (with_reducible exact LeO.refl _)
      | (with_reducible exact LeO.none _)
      | (with_reducible refine LeO.ite ?_ ?_)
      | (with_reducible refine LeO.bind ?_ (fun _ => ?_))
      | exact ih0 _ _ _
      | exact ih1 _ _ _
      | exact LeO.none _
      | refine LeO.ite ?_ ?_
      | refine LeO.bind ?_ (fun _ => ?_)
    · intro y0 y1 y2
      unfold fourinhandlaw02_SeqnoBack.j1
      repeat' first
      | (with_reducible exact ih0 _ _ _)
      | (with_reducible exact ih1 _ _ _)
      | (with_reducible exact LeO.refl _)
      | (with_reducible exact LeO.none _)
      | (with_reducible refine LeO.ite ?_ ?_)
      | (with_reducible refine LeO.bind ?_ (fun _ => ?_))
      | exact ih0 _ _ _
      | exact ih1 _ _ _
      | exact LeO.none _
      | refine LeO.ite ?_ ?_
      | refine LeO.bind ?_ (fun _ => ?_)
theorem fourinhandlaw02_SeqnoBack.mono : ∀ a0 a1 a2 k, LeO (fourinhandlaw02_SeqnoBack.f k a0 a1 a2) (fourinhandlaw02_SeqnoBack.f (k + 1) a0 a1 a2) := by
  intro a0 a1 a2 k
  obtain ⟨ih0, ih1⟩ := fourinhandlaw02_SeqnoBack.mono_l k
  unfold fourinhandlaw02_SeqnoBack.f
  repeat' first
      | (with_reducible exact ih0 _ _ _)
      | (with_reducible exact ih1 _ _ _)
      | (with_reducible exact LeO.refl _)
      | (with_reducible exact LeO.none _)
      | (with_reducible refine LeO.ite ?_ ?_)
      | (with_reducible refine LeO.bind ?_ (fun _ => ?_))
      | exact ih0 _ _ _
      | exact ih1 _ _ _
      | exact LeO.none _
      | refine LeO.ite ?_ ?_
      | refine LeO.bind ?_ (fun _ => ?_)
set_option maxHeartbeats 8000000 in
set_option maxRecDepth 100000 in
theorem fourinhandlaw02_SeqnoBack.calls (k : Nat) (a0 : Int) (a1 : Int) (a2 : Int) (r : Bool) (w : World) (h : fourinhandlaw02_SeqnoBack.f k a0 a1 a2 = some r) :
    Calls Try.prog 4 #[.int .i64 a0, .int .i64 a1, .int .u32 a2] w fun e w' => e = .returned (.bool r) ∧ Drawn0 w w' := by
  have H : ((fourinhandlaw02_awake.f).bind fun t119 => (if t119 = true then ((seqno_Unwrap.f a0 a2).bind fun t120 => ((seqno_Low.f t120).bind fun t121 => (if t121 = a2 then ((seqno_Unwrap.f a0 a2).bind fun t122 => (fourinhandlaw02_SeqnoBack.j0 k a0 a1 (decide (t122 < 0)))) else (fourinhandlaw02_SeqnoBack.j0 k a0 a1 true)))) else (fourinhandlaw02_SeqnoBack.j0 k a0 a1 true))) = some r := h
  clear h
  replace H := Option.bind_eq_some_iff.mp H
  obtain ⟨t119, A40, H⟩ := H
  replace H : (if t119 = true then ((seqno_Unwrap.f a0 a2).bind fun t120 => ((seqno_Low.f t120).bind fun t121 => (if t121 = a2 then ((seqno_Unwrap.f a0 a2).bind fun t122 => (fourinhandlaw02_SeqnoBack.j0 k a0 a1 (decide (t122 < 0)))) else (fourinhandlaw02_SeqnoBack.j0 k a0 a1 true)))) else (fourinhandlaw02_SeqnoBack.j0 k a0 a1 true)) = some r := H
  have A4 := Aside0.mk A40
  clear A40
  have HC5 := Aside0.mk H
  clear H
  go_enter Try.func4, Try.ntmps4
  go_upto_region 2 with (first | ((with_reducible refine gate_callee (f := 9) rfl ?_); refine goesL_ (some 8) rfl rfl Try.func9 (by kernel_rfl) rfl #[] rfl (by (try simp only [List.map_toArray, List.map_cons, List.map_nil]); first | done | rfl | (simp only [List.length_drop, List.length_take]; rfl)) ?_; (with_reducible refine (fourinhandlaw02_awake.calls  t119 _ A4.out).mono ?_); rintro e w' ⟨rfl, ⟨nd, rfl⟩⟩; refine ⟨_, rfl, ?_⟩))
  (try simp only [Act.put, List.setIfInBounds_toArray, List.set_cons_zero, List.set_cons_succ])
  go_cut [24] (fun v24 wc => ∃ (kq : Nat) (x24_4 : Bool), v24 = .bool x24_4 ∧ Aside0 (fourinhandlaw02_SeqnoBack.j0 kq a0 a1 x24_4 = some r) ∧ Aside0 (kq ≤ k) ∧ Drawn0 w wc)
  case first =>
    have H := HC5.out
    clear HC5
    by_cases c6 : t119 = true
    · subst c6
      have H1 : ((seqno_Unwrap.f a0 a2).bind fun t120 => ((seqno_Low.f t120).bind fun t121 => (if t121 = a2 then ((seqno_Unwrap.f a0 a2).bind fun t122 => (fourinhandlaw02_SeqnoBack.j0 k a0 a1 (decide (t122 < 0)))) else (fourinhandlaw02_SeqnoBack.j0 k a0 a1 true)))) = some r := by rw [if_pos rfl] at H; exact H
      clear H
      have H := H1
      clear H1
      replace H := Option.bind_eq_some_iff.mp H
      obtain ⟨t120, A70, H⟩ := H
      replace H : ((seqno_Low.f t120).bind fun t121 => (if t121 = a2 then ((seqno_Unwrap.f a0 a2).bind fun t122 => (fourinhandlaw02_SeqnoBack.j0 k a0 a1 (decide (t122 < 0)))) else (fourinhandlaw02_SeqnoBack.j0 k a0 a1 true))) = some r := H
      have A7 := Aside0.mk A70
      clear A70
      replace H := Option.bind_eq_some_iff.mp H
      obtain ⟨t121, A80, H⟩ := H
      replace H : (if t121 = a2 then ((seqno_Unwrap.f a0 a2).bind fun t122 => (fourinhandlaw02_SeqnoBack.j0 k a0 a1 (decide (t122 < 0)))) else (fourinhandlaw02_SeqnoBack.j0 k a0 a1 true)) = some r := H
      have A8 := Aside0.mk A80
      clear A80
      by_cases c9 : t121 = a2
      · rw [if_pos c9] at H
        have c9b0 : (t121 == a2) = true := beq_iff_eq.mpr c9
        have c9b1 : (t121 != a2) = false := bne_eq_false_iff_eq.mpr c9
        clear c9
        (first | rw [c9b0] | (simp only [i64_w, i32_w]; rw [c9b0]) | skip)
        replace H := Option.bind_eq_some_iff.mp H
        obtain ⟨t122, A100, H⟩ := H
        replace H : (fourinhandlaw02_SeqnoBack.j0 k a0 a1 (decide (t122 < 0))) = some r := H
        have A10 := Aside0.mk A100
        clear A100
        have H' := Aside0.mk H
        clear H
        go_wp2_with (first | (go_at_call 16; (with_reducible refine (seqno_Unwrap.calls a0 a2 t120 _ A7.out).mono ?_); rintro e w' ⟨rfl, ⟨nd, rfl⟩⟩) | (go_at_call 10; (with_reducible refine (seqno_Low.calls t120 t121 _ A8.out).mono ?_); rintro e w' ⟨rfl, ⟨nd, rfl⟩⟩) | (go_at_call 16; (with_reducible refine (seqno_Unwrap.calls a0 a2 t122 _ A10.out).mono ?_); rintro e w' ⟨rfl, ⟨nd, rfl⟩⟩))
        go_meet
        case rel => exact ⟨_, (decide (t122 < 0)), (by rw [show t122 = t120 from Option.some.inj (A10.out.symm.trans A7.out)]), H', ⟨by first | omega | exact Nat.le_refl _⟩, by repeat (first | exact Drawn0.refl _ | apply Drawn0.step)⟩
      · rw [if_neg c9] at H
        have c9b0 : (t121 == a2) = false := beq_eq_false_iff_ne.mpr c9
        have c9b1 : (t121 != a2) = true := bne_iff_ne.mpr c9
        (first | rw [c9b0] | (simp only [i64_w, i32_w]; rw [c9b0]) | skip)
        have H' := Aside0.mk H
        clear H
        go_wp2_with (first | (go_at_call 16; (with_reducible refine (seqno_Unwrap.calls a0 a2 t120 _ A7.out).mono ?_); rintro e w' ⟨rfl, ⟨nd, rfl⟩⟩) | (go_at_call 10; (with_reducible refine (seqno_Low.calls t120 t121 _ A8.out).mono ?_); rintro e w' ⟨rfl, ⟨nd, rfl⟩⟩))
        go_meet
        case rel => exact ⟨_, (true), (by first | rfl | (simp; done) | (simp [*]; done)), H', ⟨by first | omega | exact Nat.le_refl _⟩, by repeat (first | exact Drawn0.refl _ | apply Drawn0.step)⟩
    · replace c6 := Bool.eq_false_iff.mpr c6
      subst c6
      have H1 : (fourinhandlaw02_SeqnoBack.j0 k a0 a1 true) = some r := by rw [if_neg (show ¬ (false = true) by decide)] at H; exact H
      clear H
      have H := H1
      clear H1
      have H' := Aside0.mk H
      clear H
      go_wp2
      go_meet
      case rel => exact ⟨_, (true), (by first | rfl | (simp; done) | (simp [*]; done)), H', ⟨by first | omega | exact Nat.le_refl _⟩, by repeat (first | exact Drawn0.refl _ | apply Drawn0.step)⟩
  case rest =>
    clear HC5
    try clear p2
    try clear c4
    try clear c6
    try clear c9
    try clear c9b0
    try clear c9b1
    obtain ⟨kq, x24_4, rfl, HA, HJ4, ⟨mc4, rfl⟩⟩ := hcut
    cases kq with
    | zero => exact absurd HA.out (by simp [fourinhandlaw02_SeqnoBack.j0])
    | succ kj4 =>
      have H := HA.out
      clear HA
      simp only [fourinhandlaw02_SeqnoBack.j0] at H
      by_cases c11 : x24_4 = true
      · subst c11
        have H1 : (some false) = some r := by rw [if_pos rfl] at H; exact H
        clear H
        have H := H1
        clear H1
        obtain rfl := Option.some.inj H
        go_wp2
        go_ret
        exact ⟨by first | rfl | (simp; done) | (simp [*]; done), by repeat (first | exact Drawn0.refl _ | apply Drawn0.step)⟩
      · replace c11 := Bool.eq_false_iff.mpr c11
        subst c11
        have H1 : (if a0 < 0 then (fourinhandlaw02_SeqnoBack.j1 kj4 a0 a1 true) else (if a0 > 4611686018427387904 then (fourinhandlaw02_SeqnoBack.j1 kj4 a0 a1 true) else (if a1 ≤ (-2147483648) then (fourinhandlaw02_SeqnoBack.j1 kj4 a0 a1 true) else (if a1 ≥ 2147483648 then (fourinhandlaw02_SeqnoBack.j1 kj4 a0 a1 true) else (fourinhandlaw02_SeqnoBack.j1 kj4 a0 a1 (decide ((wrap64 (a0 + a1)) < 0))))))) = some r := by rw [if_neg (show ¬ (false = true) by decide)] at H; exact H
        clear H
        have H := H1
        clear H1
        have HC12 := Aside0.mk H
        clear H
        go_upto_region 4 with (fail)
        go_cut [44] (fun v44 wc => ∃ (kq : Nat) (x44_11 : Bool), v44 = .bool x44_11 ∧ Aside0 (fourinhandlaw02_SeqnoBack.j1 kq a0 a1 x44_11 = some r) ∧ Aside0 (kq ≤ kj4) ∧ Drawn0 w wc)
        case first =>
          have H := HC12.out
          clear HC12
          by_cases c13 : a0 < 0
          · rw [if_pos c13] at H
            have c13b0 : decide (a0 < 0) = true := decide_eq_true c13
            clear c13
            (first | rw [c13b0] | (simp only [i64_w, i32_w]; rw [c13b0]) | skip)
            have H' := Aside0.mk H
            clear H
            go_wp2
            go_meet
            case rel => exact ⟨_, (true), (by first | rfl | (simp; done) | (simp [*]; done)), H', ⟨by have := HJ4.out; first | omega | exact Nat.le_refl _⟩, by repeat (first | exact Drawn0.refl _ | apply Drawn0.step)⟩
          · rw [if_neg c13] at H
            have c13b0 : decide (a0 < 0) = false := decide_eq_false c13
            clear c13
            (first | rw [c13b0] | (simp only [i64_w, i32_w]; rw [c13b0]) | skip)
            by_cases c14 : a0 > 4611686018427387904
            · rw [if_pos c14] at H
              have c14b0 : decide (4611686018427387904 < a0) = true := decide_eq_true c14
              clear c14
              have H' := Aside0.mk H
              clear H
              go_wp2
              go_meet
              case rel => exact ⟨_, (true), (by first | rfl | (simp; done) | (simp [*]; done)), H', ⟨by have := HJ4.out; first | omega | exact Nat.le_refl _⟩, by repeat (first | exact Drawn0.refl _ | apply Drawn0.step)⟩
            · rw [if_neg c14] at H
              have c14b0 : decide (4611686018427387904 < a0) = false := decide_eq_false c14
              clear c14
              by_cases c15 : a1 ≤ (-2147483648)
              · rw [if_pos c15] at H
                have c15b0 : decide (a1 ≤ (-2147483648)) = true := decide_eq_true c15
                clear c15
                have H' := Aside0.mk H
                clear H
                go_wp2
                go_meet
                case rel => exact ⟨_, (true), (by first | rfl | (simp; done) | (simp [*]; done)), H', ⟨by have := HJ4.out; first | omega | exact Nat.le_refl _⟩, by repeat (first | exact Drawn0.refl _ | apply Drawn0.step)⟩
              · rw [if_neg c15] at H
                have c15b0 : decide (a1 ≤ (-2147483648)) = false := decide_eq_false c15
                clear c15
                by_cases c16 : a1 ≥ 2147483648
                · rw [if_pos c16] at H
                  have c16b0 : decide (2147483648 ≤ a1) = true := decide_eq_true c16
                  clear c16
                  have H' := Aside0.mk H
                  clear H
                  go_wp2
                  go_meet
                  case rel => exact ⟨_, (true), (by first | rfl | (simp; done) | (simp [*]; done)), H', ⟨by have := HJ4.out; first | omega | exact Nat.le_refl _⟩, by repeat (first | exact Drawn0.refl _ | apply Drawn0.step)⟩
                · rw [if_neg c16] at H
                  have c16b0 : decide (2147483648 ≤ a1) = false := decide_eq_false c16
                  clear c16
                  have H' := Aside0.mk H
                  clear H
                  go_wp2
                  go_meet
                  case rel => exact ⟨_, (decide ((wrap64 (a0 + a1)) < 0)), (by first | rfl | (simp; done) | (simp [*]; done)), H', ⟨by have := HJ4.out; first | omega | exact Nat.le_refl _⟩, by repeat (first | exact Drawn0.refl _ | apply Drawn0.step)⟩
        case rest =>
          clear HC12
          try clear c1
          try clear p2
          try clear c4
          try clear c6
          try clear p6
          try clear c9
          try clear c9b0
          try clear c9b1
          try clear c11
          try clear c13
          try clear c13b0
          try clear c14
          try clear c14b0
          try clear c15
          try clear c15b0
          try clear c16
          try clear c16b0
          try clear p2
          obtain ⟨kq, x44_11, rfl, HA, HJ11, ⟨mc11, rfl⟩⟩ := hcut
          cases kq with
          | zero => exact absurd HA.out (by simp [fourinhandlaw02_SeqnoBack.j1])
          | succ kj11 =>
            have H := HA.out
            clear HA
            simp only [fourinhandlaw02_SeqnoBack.j1] at H
            by_cases c17 : x44_11 = true
            · subst c17
              have H1 : (some true) = some r := by rw [if_pos rfl] at H; exact H
              clear H
              have H := H1
              clear H1
              obtain rfl := Option.some.inj H
              go_wp2
              go_ret
              exact ⟨by first | rfl | (simp; done) | (simp [*]; done), by repeat (first | exact Drawn0.refl _ | apply Drawn0.step)⟩
            · replace c17 := Bool.eq_false_iff.mpr c17
              subst c17
              have H1 : ((seqno_Low.f (wrap64 (a0 + a1))).bind fun t123 => ((seqno_Unwrap.f a0 t123).bind fun t124 => (some (t124 == (wrap64 (a0 + a1)))))) = some r := by rw [if_neg (show ¬ (false = true) by decide)] at H; exact H
              clear H
              have H := H1
              clear H1
              replace H := Option.bind_eq_some_iff.mp H
              obtain ⟨t123, A180, H⟩ := H
              replace H : ((seqno_Unwrap.f a0 t123).bind fun t124 => (some (t124 == (wrap64 (a0 + a1))))) = some r := H
              have A18 := Aside0.mk A180
              clear A180
              replace H := Option.bind_eq_some_iff.mp H
              obtain ⟨t124, A190, H⟩ := H
              replace H : (some (t124 == (wrap64 (a0 + a1)))) = some r := H
              have A19 := Aside0.mk A190
              clear A190
              obtain rfl := Option.some.inj H
              go_wp2_with (first | ((with_reducible refine gate_callee (f := 10) rfl ?_); refine goesL_ (some 49) rfl rfl Try.func10 (by kernel_rfl) rfl #[.int .i64 (wrap64 (a0 + a1))] rfl (by (try simp only [List.map_toArray, List.map_cons, List.map_nil]); first | done | rfl | (simp only [List.length_drop, List.length_take]; rfl)) ?_; (with_reducible refine (seqno_Low.calls (wrap64 (a0 + a1)) t123 _ A18.out).mono ?_); rintro e w' ⟨rfl, ⟨nd, rfl⟩⟩; refine ⟨_, rfl, ?_⟩) | ((with_reducible refine gate_callee (f := 16) rfl ?_); refine goesL_ (some 50) rfl rfl Try.func16 (by kernel_rfl) rfl #[.int .i64 a0, .int .u32 t123] rfl (by (try simp only [List.map_toArray, List.map_cons, List.map_nil]); first | done | rfl | (simp only [List.length_drop, List.length_take]; rfl)) ?_; (with_reducible refine (seqno_Unwrap.calls a0 t123 t124 _ A19.out).mono ?_); rintro e w' ⟨rfl, ⟨nd, rfl⟩⟩; refine ⟨_, rfl, ?_⟩))
              go_ret
              exact ⟨by first | rfl | (simp; done) | (simp [*]; done), by repeat (first | exact Drawn0.refl _ | apply Drawn0.step)⟩

/-- THE ONE PURE STATEMENT of fourinhandlaw02_SeqnoBack: yours. -/
def fourinhandlaw02_SeqnoBack.Pure : Prop := ∀ (a0 : Int) (a1 : Int) (a2 : Int), (Lit.int .i64 a0).wf = true → (Lit.int .i64 a1).wf = true → (Lit.int .u32 a2).wf = true → ∃ k, fourinhandlaw02_SeqnoBack.f k a0 a1 a2 = some true
theorem fourinhandlaw02_SeqnoBack.walk (P : fourinhandlaw02_SeqnoBack.Pure) (a0 : Int) (a1 : Int) (a2 : Int) (w : World) (w0 : (Lit.int .i64 a0).wf = true) (w1 : (Lit.int .i64 a1).wf = true) (w2 : (Lit.int .u32 a2).wf = true) :
    Calls Try.prog 4 #[.int .i64 a0, .int .i64 a1, .int .u32 a2] w fun e w' => e = .returned (.bool true) ∧ Below w.heap.size w w' := by
  obtain ⟨k, h⟩ := P a0 a1 a2 w0 w1 w2
  refine (fourinhandlaw02_SeqnoBack.calls k a0 a1 a2 true w h).mono ?_
  rintro e w' ⟨rfl, hd⟩
  exact ⟨rfl, hd.below⟩

/-! ### fourinhandlaw02_SeqnoOrder: function 5 -/
mutual
def fourinhandlaw02_SeqnoOrder.j0 : Nat → Int → Int → Int → Int → Bool → Option (Bool)
  | 0, _, _, _, _, _ => none
  | k + 1, x0, x1, x2, x8, x44 => if x44 = true then (some false) else (if x8 > 0 then (if x8 = 2147483648 then (fourinhandlaw02_SeqnoOrder.j1 k x0 x1 x2 x8 false) else ((seqno_Less.f x0 x1).bind fun t128 => ((seqno_Less.f x1 x0).bind fun t129 => (fourinhandlaw02_SeqnoOrder.j1 k x0 x1 x2 x8 (t128 == t129))))) else (fourinhandlaw02_SeqnoOrder.j1 k x0 x1 x2 x8 false))
def fourinhandlaw02_SeqnoOrder.j1 : Nat → Int → Int → Int → Int → Bool → Option (Bool)
  | 0, _, _, _, _, _ => none
  | k + 1, x0, x1, x2, x8, x59 => if x59 = true then (some false) else ((seqno_Less.f x0 x1).bind fun t130 => ((seqno_Less.f ((x0 + x2) % 4294967296) ((x1 + x2) % 4294967296)).bind fun t131 => (if (t130 == t131) = true then ((seqno_Less.f x0 x0).bind fun t132 => (if t132 = true then (some false) else ((seqno_Upto.f ((x0 + x2) % 4294967296) ((x1 + x2) % 4294967296)).bind fun t133 => (some (t133 == x8))))) else (some false))))
end
def fourinhandlaw02_SeqnoOrder.f (k : Nat) (a0 : Int) (a1 : Int) (a2 : Int) : Option (Bool) := (fourinhandlaw02_awake.f).bind fun t125 => ((seqno_Upto.f a0 a1).bind fun t126 => ((seqno_Upto.f a1 a0).bind fun t127 => (if t125 = true then (if t126 < 0 then (fourinhandlaw02_SeqnoOrder.j0 k a0 a1 a2 t126 true) else (if t127 < 0 then (fourinhandlaw02_SeqnoOrder.j0 k a0 a1 a2 t126 true) else (if ((t126 == 0) != (a0 == a1)) = true then (fourinhandlaw02_SeqnoOrder.j0 k a0 a1 a2 t126 true) else (if t126 > 0 then (fourinhandlaw02_SeqnoOrder.j0 k a0 a1 a2 t126 ((wrap64 (t126 + t127)) != 4294967296)) else (fourinhandlaw02_SeqnoOrder.j0 k a0 a1 a2 t126 false))))) else (fourinhandlaw02_SeqnoOrder.j0 k a0 a1 a2 t126 true))))
theorem fourinhandlaw02_SeqnoOrder.mono_l : ∀ k, (∀ y0 y1 y2 y3 y4, LeO (fourinhandlaw02_SeqnoOrder.j0 k y0 y1 y2 y3 y4) (fourinhandlaw02_SeqnoOrder.j0 (k + 1) y0 y1 y2 y3 y4)) ∧ (∀ y0 y1 y2 y3 y4, LeO (fourinhandlaw02_SeqnoOrder.j1 k y0 y1 y2 y3 y4) (fourinhandlaw02_SeqnoOrder.j1 (k + 1) y0 y1 y2 y3 y4))
  | 0 => ⟨fun _ _ _ _ _ r h => by simp [fourinhandlaw02_SeqnoOrder.j0] at h, fun _ _ _ _ _ r h => by simp [fourinhandlaw02_SeqnoOrder.j1] at h⟩
  | k + 1 => by
    obtain ⟨ih0, ih1⟩ := fourinhandlaw02_SeqnoOrder.mono_l k
    refine ⟨?_, ?_⟩
    · intro y0 y1 y2 y3 y4
      unfold fourinhandlaw02_SeqnoOrder.j0
      repeat' first
      | (with_reducible exact ih0 _ _ _ _ _)
      | (with_reducible exact ih1 _ _ _ _ _)
      | (with_reducible exact LeO.refl _)
      | (with_reducible exact LeO.none _)
      | (with_reducible refine LeO.ite ?_ ?_)
      | (with_reducible refine LeO.bind ?_ (fun _ => ?_))
      | exact ih0 _ _ _ _ _
      | exact ih1 _ _ _ _ _
      | exact LeO.none _
      | refine LeO.ite ?_ ?_
      | refine LeO.bind ?_ (fun _ => ?_)
    · intro y0 y1 y2 y3 y4
      unfold fourinhandlaw02_SeqnoOrder.j1
      repeat' first
      | (with_reducible exact ih0 _ _ _ _ _)
      | (with_reducible exact ih1 _ _ _ _ _)
      | (with_reducible exact LeO.refl _)
      | (with_reducible exact LeO.none _)
      | (with_reducible refine LeO.ite ?_ ?_)
      | (with_reducible refine LeO.bind ?_ (fun _ => ?_))
      | exact ih0 _ _ _ _ _
      | exact ih1 _ _ _ _ _
      | exact LeO.none _
      | refine LeO.ite ?_ ?_
      | refine LeO.bind ?_ (fun _ => ?_)
theorem fourinhandlaw02_SeqnoOrder.mono : ∀ a0 a1 a2 k, LeO (fourinhandlaw02_SeqnoOrder.f k a0 a1 a2) (fourinhandlaw02_SeqnoOrder.f (k + 1) a0 a1 a2) := by
  intro a0 a1 a2 k
  obtain ⟨ih0, ih1⟩ := fourinhandlaw02_SeqnoOrder.mono_l k
  unfold fourinhandlaw02_SeqnoOrder.f
  repeat' first
      | (with_reducible exact ih0 _ _ _ _ _)
      | (with_reducible exact ih1 _ _ _ _ _)
      | (with_reducible exact LeO.refl _)
      | (with_reducible exact LeO.none _)
      | (with_reducible refine LeO.ite ?_ ?_)
      | (with_reducible refine LeO.bind ?_ (fun _ => ?_))
      | exact ih0 _ _ _ _ _
      | exact ih1 _ _ _ _ _
      | exact LeO.none _
      | refine LeO.ite ?_ ?_
      | refine LeO.bind ?_ (fun _ => ?_)
set_option maxHeartbeats 8000000 in
set_option maxRecDepth 100000 in
theorem fourinhandlaw02_SeqnoOrder.calls (k : Nat) (a0 : Int) (a1 : Int) (a2 : Int) (r : Bool) (w : World) (h : fourinhandlaw02_SeqnoOrder.f k a0 a1 a2 = some r) :
    Calls Try.prog 5 #[.int .u32 a0, .int .u32 a1, .int .u32 a2] w fun e w' => e = .returned (.bool r) ∧ Drawn0 w w' := by
  have H : ((fourinhandlaw02_awake.f).bind fun t125 => ((seqno_Upto.f a0 a1).bind fun t126 => ((seqno_Upto.f a1 a0).bind fun t127 => (if t125 = true then (if t126 < 0 then (fourinhandlaw02_SeqnoOrder.j0 k a0 a1 a2 t126 true) else (if t127 < 0 then (fourinhandlaw02_SeqnoOrder.j0 k a0 a1 a2 t126 true) else (if ((t126 == 0) != (a0 == a1)) = true then (fourinhandlaw02_SeqnoOrder.j0 k a0 a1 a2 t126 true) else (if t126 > 0 then (fourinhandlaw02_SeqnoOrder.j0 k a0 a1 a2 t126 ((wrap64 (t126 + t127)) != 4294967296)) else (fourinhandlaw02_SeqnoOrder.j0 k a0 a1 a2 t126 false))))) else (fourinhandlaw02_SeqnoOrder.j0 k a0 a1 a2 t126 true))))) = some r := h
  clear h
  replace H := Option.bind_eq_some_iff.mp H
  obtain ⟨t125, A40, H⟩ := H
  replace H : ((seqno_Upto.f a0 a1).bind fun t126 => ((seqno_Upto.f a1 a0).bind fun t127 => (if t125 = true then (if t126 < 0 then (fourinhandlaw02_SeqnoOrder.j0 k a0 a1 a2 t126 true) else (if t127 < 0 then (fourinhandlaw02_SeqnoOrder.j0 k a0 a1 a2 t126 true) else (if ((t126 == 0) != (a0 == a1)) = true then (fourinhandlaw02_SeqnoOrder.j0 k a0 a1 a2 t126 true) else (if t126 > 0 then (fourinhandlaw02_SeqnoOrder.j0 k a0 a1 a2 t126 ((wrap64 (t126 + t127)) != 4294967296)) else (fourinhandlaw02_SeqnoOrder.j0 k a0 a1 a2 t126 false))))) else (fourinhandlaw02_SeqnoOrder.j0 k a0 a1 a2 t126 true)))) = some r := H
  have A4 := Aside0.mk A40
  clear A40
  replace H := Option.bind_eq_some_iff.mp H
  obtain ⟨t126, A50, H⟩ := H
  replace H : ((seqno_Upto.f a1 a0).bind fun t127 => (if t125 = true then (if t126 < 0 then (fourinhandlaw02_SeqnoOrder.j0 k a0 a1 a2 t126 true) else (if t127 < 0 then (fourinhandlaw02_SeqnoOrder.j0 k a0 a1 a2 t126 true) else (if ((t126 == 0) != (a0 == a1)) = true then (fourinhandlaw02_SeqnoOrder.j0 k a0 a1 a2 t126 true) else (if t126 > 0 then (fourinhandlaw02_SeqnoOrder.j0 k a0 a1 a2 t126 ((wrap64 (t126 + t127)) != 4294967296)) else (fourinhandlaw02_SeqnoOrder.j0 k a0 a1 a2 t126 false))))) else (fourinhandlaw02_SeqnoOrder.j0 k a0 a1 a2 t126 true))) = some r := H
  have A5 := Aside0.mk A50
  clear A50
  replace H := Option.bind_eq_some_iff.mp H
  obtain ⟨t127, A60, H⟩ := H
  replace H : (if t125 = true then (if t126 < 0 then (fourinhandlaw02_SeqnoOrder.j0 k a0 a1 a2 t126 true) else (if t127 < 0 then (fourinhandlaw02_SeqnoOrder.j0 k a0 a1 a2 t126 true) else (if ((t126 == 0) != (a0 == a1)) = true then (fourinhandlaw02_SeqnoOrder.j0 k a0 a1 a2 t126 true) else (if t126 > 0 then (fourinhandlaw02_SeqnoOrder.j0 k a0 a1 a2 t126 ((wrap64 (t126 + t127)) != 4294967296)) else (fourinhandlaw02_SeqnoOrder.j0 k a0 a1 a2 t126 false))))) else (fourinhandlaw02_SeqnoOrder.j0 k a0 a1 a2 t126 true)) = some r := H
  have A6 := Aside0.mk A60
  clear A60
  have HC7 := Aside0.mk H
  clear H
  go_enter Try.func5, Try.ntmps5
  go_upto_region 4 with (first | ((with_reducible refine gate_callee (f := 9) rfl ?_); refine goesL_ (some 10) rfl rfl Try.func9 (by kernel_rfl) rfl #[] rfl (by (try simp only [List.map_toArray, List.map_cons, List.map_nil]); first | done | rfl | (simp only [List.length_drop, List.length_take]; rfl)) ?_; (with_reducible refine (fourinhandlaw02_awake.calls  t125 _ A4.out).mono ?_); rintro e w' ⟨rfl, ⟨nd, rfl⟩⟩; refine ⟨_, rfl, ?_⟩) | ((with_reducible refine gate_callee (f := 14) rfl ?_); refine goesL_ (some 13) rfl rfl Try.func14 (by kernel_rfl) rfl #[.int .u32 a0, .int .u32 a1] rfl (by (try simp only [List.map_toArray, List.map_cons, List.map_nil]); first | done | rfl | (simp only [List.length_drop, List.length_take]; rfl)) ?_; (with_reducible refine (seqno_Upto.calls a0 a1 t126 _ A5.out).mono ?_); rintro e w' ⟨rfl, ⟨nd, rfl⟩⟩; refine ⟨_, rfl, ?_⟩) | ((with_reducible refine gate_callee (f := 14) rfl ?_); refine goesL_ (some 16) rfl rfl Try.func14 (by kernel_rfl) rfl #[.int .u32 a1, .int .u32 a0] rfl (by (try simp only [List.map_toArray, List.map_cons, List.map_nil]); first | done | rfl | (simp only [List.length_drop, List.length_take]; rfl)) ?_; (with_reducible refine (seqno_Upto.calls a1 a0 t127 _ A6.out).mono ?_); rintro e w' ⟨rfl, ⟨nd, rfl⟩⟩; refine ⟨_, rfl, ?_⟩))
  (try simp only [Act.put, List.setIfInBounds_toArray, List.set_cons_zero, List.set_cons_succ])
  go_cut [44] (fun v44 wc => ∃ (kq : Nat) (x44_6 : Bool), v44 = .bool x44_6 ∧ Aside0 (fourinhandlaw02_SeqnoOrder.j0 kq a0 a1 a2 t126 x44_6 = some r) ∧ Aside0 (kq ≤ k) ∧ Drawn0 w wc)
  case first =>
    have H := HC7.out
    clear HC7
    by_cases c8 : t125 = true
    · subst c8
      have H1 : (if t126 < 0 then (fourinhandlaw02_SeqnoOrder.j0 k a0 a1 a2 t126 true) else (if t127 < 0 then (fourinhandlaw02_SeqnoOrder.j0 k a0 a1 a2 t126 true) else (if ((t126 == 0) != (a0 == a1)) = true then (fourinhandlaw02_SeqnoOrder.j0 k a0 a1 a2 t126 true) else (if t126 > 0 then (fourinhandlaw02_SeqnoOrder.j0 k a0 a1 a2 t126 ((wrap64 (t126 + t127)) != 4294967296)) else (fourinhandlaw02_SeqnoOrder.j0 k a0 a1 a2 t126 false))))) = some r := by rw [if_pos rfl] at H; exact H
      clear H
      have H := H1
      clear H1
      by_cases c9 : t126 < 0
      · rw [if_pos c9] at H
        have c9b0 : decide (t126 < 0) = true := decide_eq_true c9
        clear c9
        (first | rw [c9b0] | (simp only [i64_w, i32_w]; rw [c9b0]) | skip)
        have H' := Aside0.mk H
        clear H
        go_wp2
        go_meet
        case rel => exact ⟨_, (true), (by first | rfl | (simp; done) | (simp [*]; done)), H', ⟨by first | omega | exact Nat.le_refl _⟩, by repeat (first | exact Drawn0.refl _ | apply Drawn0.step)⟩
      · rw [if_neg c9] at H
        have c9b0 : decide (t126 < 0) = false := decide_eq_false c9
        clear c9
        (first | rw [c9b0] | (simp only [i64_w, i32_w]; rw [c9b0]) | skip)
        by_cases c10 : t127 < 0
        · rw [if_pos c10] at H
          have c10b0 : decide (t127 < 0) = true := decide_eq_true c10
          clear c10
          have H' := Aside0.mk H
          clear H
          go_wp2
          go_meet
          case rel => exact ⟨_, (true), (by first | rfl | (simp; done) | (simp [*]; done)), H', ⟨by first | omega | exact Nat.le_refl _⟩, by repeat (first | exact Drawn0.refl _ | apply Drawn0.step)⟩
        · rw [if_neg c10] at H
          have c10b0 : decide (t127 < 0) = false := decide_eq_false c10
          clear c10
          by_cases c11 : ((t126 == 0) != (a0 == a1)) = true
          · rw [if_pos c11] at H
            have c11b0 : ((t126 == 0) != (a0 == a1)) = true := c11
            (try (have c11b1 : decide ((t126 == 0) = (a0 == a1)) = false := by simpa using c11))
            (try (have c11b2 : ((t126 == 0) == (a0 == a1)) = false := by simpa using c11))
            (try (have c11b3 : ¬ ((t126 == 0) = (a0 == a1)) := by simpa using c11))
            clear c11
            have H' := Aside0.mk H
            clear H
            go_wp2
            go_meet
            case rel => exact ⟨_, (true), (by first | rfl | (simp; done) | (simp [*]; done)), H', ⟨by first | omega | exact Nat.le_refl _⟩, by repeat (first | exact Drawn0.refl _ | apply Drawn0.step)⟩
          · rw [if_neg c11] at H
            have c11b0 : ((t126 == 0) != (a0 == a1)) = false := by simpa using c11
            (try (have c11b1 : decide ((t126 == 0) = (a0 == a1)) = true := by simpa using c11))
            (try (have c11b2 : ((t126 == 0) == (a0 == a1)) = true := by simpa using c11))
            clear c11
            by_cases c12 : t126 > 0
            · rw [if_pos c12] at H
              have c12b0 : decide (0 < t126) = true := decide_eq_true c12
              clear c12
              have H' := Aside0.mk H
              clear H
              go_wp2
              go_meet
              case rel => exact ⟨_, (((wrap64 (t126 + t127)) != 4294967296)), (by first | rfl | (simp; done) | (simp [*]; done)), H', ⟨by first | omega | exact Nat.le_refl _⟩, by repeat (first | exact Drawn0.refl _ | apply Drawn0.step)⟩
            · rw [if_neg c12] at H
              have c12b0 : decide (0 < t126) = false := decide_eq_false c12
              clear c12
              have H' := Aside0.mk H
              clear H
              go_wp2
              go_meet
              case rel => exact ⟨_, (false), (by first | rfl | (simp; done) | (simp [*]; done)), H', ⟨by first | omega | exact Nat.le_refl _⟩, by repeat (first | exact Drawn0.refl _ | apply Drawn0.step)⟩
    · replace c8 := Bool.eq_false_iff.mpr c8
      subst c8
      have H1 : (fourinhandlaw02_SeqnoOrder.j0 k a0 a1 a2 t126 true) = some r := by rw [if_neg (show ¬ (false = true) by decide)] at H; exact H
      clear H
      have H := H1
      clear H1
      have H' := Aside0.mk H
      clear H
      go_wp2
      go_meet
      case rel => exact ⟨_, (true), (by first | rfl | (simp; done) | (simp [*]; done)), H', ⟨by first | omega | exact Nat.le_refl _⟩, by repeat (first | exact Drawn0.refl _ | apply Drawn0.step)⟩
  case rest =>
    clear HC7
    try clear c1
    try clear p2
    try clear c5
    try clear p6
    try clear c8
    try clear c9
    try clear c9b0
    try clear c10
    try clear c10b0
    try clear c11
    try clear c11b0
    try clear c11b1
    try clear c11b2
    try clear c12
    try clear c12b0
    obtain ⟨kq, x44_6, rfl, HA, HJ6, ⟨mc6, rfl⟩⟩ := hcut
    cases kq with
    | zero => exact absurd HA.out (by simp [fourinhandlaw02_SeqnoOrder.j0])
    | succ kj6 =>
      have H := HA.out
      clear HA
      simp only [fourinhandlaw02_SeqnoOrder.j0] at H
      by_cases c13 : x44_6 = true
      · subst c13
        have H1 : (some false) = some r := by rw [if_pos rfl] at H; exact H
        clear H
        have H := H1
        clear H1
        obtain rfl := Option.some.inj H
        go_wp2
        go_ret
        exact ⟨by first | rfl | (simp; done) | (simp [*]; done), by repeat (first | exact Drawn0.refl _ | apply Drawn0.step)⟩
      · replace c13 := Bool.eq_false_iff.mpr c13
        subst c13
        have H1 : (if t126 > 0 then (if t126 = 2147483648 then (fourinhandlaw02_SeqnoOrder.j1 kj6 a0 a1 a2 t126 false) else ((seqno_Less.f a0 a1).bind fun t128 => ((seqno_Less.f a1 a0).bind fun t129 => (fourinhandlaw02_SeqnoOrder.j1 kj6 a0 a1 a2 t126 (t128 == t129))))) else (fourinhandlaw02_SeqnoOrder.j1 kj6 a0 a1 a2 t126 false)) = some r := by rw [if_neg (show ¬ (false = true) by decide)] at H; exact H
        clear H
        have H := H1
        clear H1
        have HC14 := Aside0.mk H
        clear H
        go_upto_region 6 with (fail)
        go_cut [59] (fun v59 wc => ∃ (kq : Nat) (x59_13 : Bool), v59 = .bool x59_13 ∧ Aside0 (fourinhandlaw02_SeqnoOrder.j1 kq a0 a1 a2 t126 x59_13 = some r) ∧ Aside0 (kq ≤ kj6) ∧ Drawn0 w wc)
        case first =>
          have H := HC14.out
          clear HC14
          by_cases c15 : t126 > 0
          · rw [if_pos c15] at H
            have c15b0 : decide (0 < t126) = true := decide_eq_true c15
            clear c15
            (first | rw [c15b0] | (simp only [i64_w, i32_w]; rw [c15b0]) | skip)
            by_cases c16 : t126 = 2147483648
            · rw [if_pos c16] at H
              have c16b0 : (t126 == 2147483648) = true := beq_iff_eq.mpr c16
              have c16b1 : (t126 != 2147483648) = false := bne_eq_false_iff_eq.mpr c16
              clear c16
              have H' := Aside0.mk H
              clear H
              go_wp2
              go_meet
              case rel => exact ⟨_, (false), (by first | rfl | (simp; done) | (simp [*]; done)), H', ⟨by have := HJ6.out; first | omega | exact Nat.le_refl _⟩, by repeat (first | exact Drawn0.refl _ | apply Drawn0.step)⟩
            · rw [if_neg c16] at H
              have c16b0 : (t126 == 2147483648) = false := beq_eq_false_iff_ne.mpr c16
              have c16b1 : (t126 != 2147483648) = true := bne_iff_ne.mpr c16
              replace H := Option.bind_eq_some_iff.mp H
              obtain ⟨t128, A170, H⟩ := H
              replace H : ((seqno_Less.f a1 a0).bind fun t129 => (fourinhandlaw02_SeqnoOrder.j1 kj6 a0 a1 a2 t126 (t128 == t129))) = some r := H
              have A17 := Aside0.mk A170
              clear A170
              replace H := Option.bind_eq_some_iff.mp H
              obtain ⟨t129, A180, H⟩ := H
              replace H : (fourinhandlaw02_SeqnoOrder.j1 kj6 a0 a1 a2 t126 (t128 == t129)) = some r := H
              have A18 := Aside0.mk A180
              clear A180
              have H' := Aside0.mk H
              clear H
              go_wp2_with (first | (go_at_call 12; (with_reducible refine (seqno_Less.calls a0 a1 t128 _ A17.out).mono ?_); rintro e w' ⟨rfl, ⟨nd, rfl⟩⟩) | (go_at_call 12; (with_reducible refine (seqno_Less.calls a1 a0 t129 _ A18.out).mono ?_); rintro e w' ⟨rfl, ⟨nd, rfl⟩⟩))
              go_meet
              case rel => exact ⟨_, ((t128 == t129)), (by first | rfl | (simp; done) | (simp [*]; done)), H', ⟨by have := HJ6.out; first | omega | exact Nat.le_refl _⟩, by repeat (first | exact Drawn0.refl _ | apply Drawn0.step)⟩
          · rw [if_neg c15] at H
            have c15b0 : decide (0 < t126) = false := decide_eq_false c15
            clear c15
            (first | rw [c15b0] | (simp only [i64_w, i32_w]; rw [c15b0]) | skip)
            have H' := Aside0.mk H
            clear H
            go_wp2
            go_meet
            case rel => exact ⟨_, (false), (by first | rfl | (simp; done) | (simp [*]; done)), H', ⟨by have := HJ6.out; first | omega | exact Nat.le_refl _⟩, by repeat (first | exact Drawn0.refl _ | apply Drawn0.step)⟩
        case rest =>
          clear HC14
          try clear c1
          try clear p2
          try clear c5
          try clear c6
          try clear p6
          try clear c8
          try clear c9
          try clear c9b0
          try clear c10
          try clear c10b0
          try clear c11
          try clear c11b0
          try clear c11b1
          try clear c11b2
          try clear c12
          try clear c12b0
          try clear c13
          try clear c14
          try clear c15
          try clear c15b0
          try clear c16
          try clear c16b0
          try clear c16b1
          try clear p2
          try clear p6
          obtain ⟨kq, x59_13, rfl, HA, HJ13, ⟨mc13, rfl⟩⟩ := hcut
          cases kq with
          | zero => exact absurd HA.out (by simp [fourinhandlaw02_SeqnoOrder.j1])
          | succ kj13 =>
            have H := HA.out
            clear HA
            simp only [fourinhandlaw02_SeqnoOrder.j1] at H
            by_cases c19 : x59_13 = true
            · subst c19
              have H1 : (some false) = some r := by rw [if_pos rfl] at H; exact H
              clear H
              have H := H1
              clear H1
              obtain rfl := Option.some.inj H
              go_wp2
              go_ret
              exact ⟨by first | rfl | (simp; done) | (simp [*]; done), by repeat (first | exact Drawn0.refl _ | apply Drawn0.step)⟩
            · replace c19 := Bool.eq_false_iff.mpr c19
              subst c19
              have H1 : ((seqno_Less.f a0 a1).bind fun t130 => ((seqno_Less.f ((a0 + a2) % 4294967296) ((a1 + a2) % 4294967296)).bind fun t131 => (if (t130 == t131) = true then ((seqno_Less.f a0 a0).bind fun t132 => (if t132 = true then (some false) else ((seqno_Upto.f ((a0 + a2) % 4294967296) ((a1 + a2) % 4294967296)).bind fun t133 => (some (t133 == t126))))) else (some false)))) = some r := by rw [if_neg (show ¬ (false = true) by decide)] at H; exact H
              clear H
              have H := H1
              clear H1
              replace H := Option.bind_eq_some_iff.mp H
              obtain ⟨t130, A200, H⟩ := H
              replace H : ((seqno_Less.f ((a0 + a2) % 4294967296) ((a1 + a2) % 4294967296)).bind fun t131 => (if (t130 == t131) = true then ((seqno_Less.f a0 a0).bind fun t132 => (if t132 = true then (some false) else ((seqno_Upto.f ((a0 + a2) % 4294967296) ((a1 + a2) % 4294967296)).bind fun t133 => (some (t133 == t126))))) else (some false))) = some r := H
              have A20 := Aside0.mk A200
              clear A200
              replace H := Option.bind_eq_some_iff.mp H
              obtain ⟨t131, A210, H⟩ := H
              replace H : (if (t130 == t131) = true then ((seqno_Less.f a0 a0).bind fun t132 => (if t132 = true then (some false) else ((seqno_Upto.f ((a0 + a2) % 4294967296) ((a1 + a2) % 4294967296)).bind fun t133 => (some (t133 == t126))))) else (some false)) = some r := H
              have A21 := Aside0.mk A210
              clear A210
              by_cases c22 : (t130 == t131) = true
              · rw [if_pos c22] at H
                have c22b0 : (t130 == t131) = true := c22
                (try (have c22b1 : decide (t130 = t131) = true := by simpa using c22))
                (try (have c22b2 : (t130 == t131) = true := by simpa using c22))
                clear c22
                replace H := Option.bind_eq_some_iff.mp H
                obtain ⟨t132, A230, H⟩ := H
                replace H : (if t132 = true then (some false) else ((seqno_Upto.f ((a0 + a2) % 4294967296) ((a1 + a2) % 4294967296)).bind fun t133 => (some (t133 == t126)))) = some r := H
                have A23 := Aside0.mk A230
                clear A230
                by_cases c24 : t132 = true
                · subst c24
                  have H1 : (some false) = some r := by rw [if_pos rfl] at H; exact H
                  clear H
                  have H := H1
                  clear H1
                  obtain rfl := Option.some.inj H
                  go_wp2_with (first | ((with_reducible refine gate_callee (f := 12) rfl ?_); refine goesL_ (some 62) rfl rfl Try.func12 (by kernel_rfl) rfl #[.int .u32 a0, .int .u32 a1] rfl (by (try simp only [List.map_toArray, List.map_cons, List.map_nil]); first | done | rfl | (simp only [List.length_drop, List.length_take]; rfl)) ?_; (with_reducible refine (seqno_Less.calls a0 a1 t130 _ A20.out).mono ?_); rintro e w' ⟨rfl, ⟨nd, rfl⟩⟩; refine ⟨_, rfl, ?_⟩) | ((with_reducible refine gate_callee (f := 12) rfl ?_); refine goesL_ (some 69) rfl rfl Try.func12 (by kernel_rfl) rfl #[.int .u32 ((a0 + a2) % 4294967296), .int .u32 ((a1 + a2) % 4294967296)] rfl (by (try simp only [List.map_toArray, List.map_cons, List.map_nil]); first | done | rfl | (simp only [List.length_drop, List.length_take]; rfl)) ?_; (with_reducible refine (seqno_Less.calls ((a0 + a2) % 4294967296) ((a1 + a2) % 4294967296) t131 _ A21.out).mono ?_); rintro e w' ⟨rfl, ⟨nd, rfl⟩⟩; refine ⟨_, rfl, ?_⟩) | (go_at_call 12; (with_reducible refine (seqno_Less.calls a0 a0 true _ A23.out).mono ?_); rintro e w' ⟨rfl, ⟨nd, rfl⟩⟩))
                  go_ret
                  exact ⟨by first | rfl | (simp; done) | (simp [*]; done), by repeat (first | exact Drawn0.refl _ | apply Drawn0.step)⟩
                · replace c24 := Bool.eq_false_iff.mpr c24
                  subst c24
                  have H1 : ((seqno_Upto.f ((a0 + a2) % 4294967296) ((a1 + a2) % 4294967296)).bind fun t133 => (some (t133 == t126))) = some r := by rw [if_neg (show ¬ (false = true) by decide)] at H; exact H
                  clear H
                  have H := H1
                  clear H1
                  replace H := Option.bind_eq_some_iff.mp H
                  obtain ⟨t133, A250, H⟩ := H
                  replace H : (some (t133 == t126)) = some r := H
                  have A25 := Aside0.mk A250
                  clear A250
                  obtain rfl := Option.some.inj H
                  go_wp2_with (first | ((with_reducible refine gate_callee (f := 12) rfl ?_); refine goesL_ (some 62) rfl rfl Try.func12 (by kernel_rfl) rfl #[.int .u32 a0, .int .u32 a1] rfl (by (try simp only [List.map_toArray, List.map_cons, List.map_nil]); first | done | rfl | (simp only [List.length_drop, List.length_take]; rfl)) ?_; (with_reducible refine (seqno_Less.calls a0 a1 t130 _ A20.out).mono ?_); rintro e w' ⟨rfl, ⟨nd, rfl⟩⟩; refine ⟨_, rfl, ?_⟩) | ((with_reducible refine gate_callee (f := 12) rfl ?_); refine goesL_ (some 69) rfl rfl Try.func12 (by kernel_rfl) rfl #[.int .u32 ((a0 + a2) % 4294967296), .int .u32 ((a1 + a2) % 4294967296)] rfl (by (try simp only [List.map_toArray, List.map_cons, List.map_nil]); first | done | rfl | (simp only [List.length_drop, List.length_take]; rfl)) ?_; (with_reducible refine (seqno_Less.calls ((a0 + a2) % 4294967296) ((a1 + a2) % 4294967296) t131 _ A21.out).mono ?_); rintro e w' ⟨rfl, ⟨nd, rfl⟩⟩; refine ⟨_, rfl, ?_⟩) | (go_at_call 12; (with_reducible refine (seqno_Less.calls a0 a0 false _ A23.out).mono ?_); rintro e w' ⟨rfl, ⟨nd, rfl⟩⟩) | (go_at_call 14; (with_reducible refine (seqno_Upto.calls ((a0 + a2) % 4294967296) ((a1 + a2) % 4294967296) t133 _ A25.out).mono ?_); rintro e w' ⟨rfl, ⟨nd, rfl⟩⟩))
                  go_ret
                  exact ⟨by first | rfl | (simp; done) | (simp [*]; done), by repeat (first | exact Drawn0.refl _ | apply Drawn0.step)⟩
              · rw [if_neg c22] at H
                have c22b0 : (t130 == t131) = false := by simpa using c22
                (try (have c22b1 : decide (t130 = t131) = false := by simpa using c22))
                (try (have c22b2 : (t130 == t131) = false := by simpa using c22))
                (try (have c22b3 : ¬ (t130 = t131) := by simpa using c22))
                clear c22
                obtain rfl := Option.some.inj H
                go_wp2_with (first | ((with_reducible refine gate_callee (f := 12) rfl ?_); refine goesL_ (some 62) rfl rfl Try.func12 (by kernel_rfl) rfl #[.int .u32 a0, .int .u32 a1] rfl (by (try simp only [List.map_toArray, List.map_cons, List.map_nil]); first | done | rfl | (simp only [List.length_drop, List.length_take]; rfl)) ?_; (with_reducible refine (seqno_Less.calls a0 a1 t130 _ A20.out).mono ?_); rintro e w' ⟨rfl, ⟨nd, rfl⟩⟩; refine ⟨_, rfl, ?_⟩) | ((with_reducible refine gate_callee (f := 12) rfl ?_); refine goesL_ (some 69) rfl rfl Try.func12 (by kernel_rfl) rfl #[.int .u32 ((a0 + a2) % 4294967296), .int .u32 ((a1 + a2) % 4294967296)] rfl (by (try simp only [List.map_toArray, List.map_cons, List.map_nil]); first | done | rfl | (simp only [List.length_drop, List.length_take]; rfl)) ?_; (with_reducible refine (seqno_Less.calls ((a0 + a2) % 4294967296) ((a1 + a2) % 4294967296) t131 _ A21.out).mono ?_); rintro e w' ⟨rfl, ⟨nd, rfl⟩⟩; refine ⟨_, rfl, ?_⟩))
                go_ret
                exact ⟨by first | rfl | (simp; done) | (simp [*]; done), by repeat (first | exact Drawn0.refl _ | apply Drawn0.step)⟩

/-- THE ONE PURE STATEMENT of fourinhandlaw02_SeqnoOrder: yours. -/
def fourinhandlaw02_SeqnoOrder.Pure : Prop := ∀ (a0 : Int) (a1 : Int) (a2 : Int), (Lit.int .u32 a0).wf = true → (Lit.int .u32 a1).wf = true → (Lit.int .u32 a2).wf = true → ∃ k, fourinhandlaw02_SeqnoOrder.f k a0 a1 a2 = some true
theorem fourinhandlaw02_SeqnoOrder.walk (P : fourinhandlaw02_SeqnoOrder.Pure) (a0 : Int) (a1 : Int) (a2 : Int) (w : World) (w0 : (Lit.int .u32 a0).wf = true) (w1 : (Lit.int .u32 a1).wf = true) (w2 : (Lit.int .u32 a2).wf = true) :
    Calls Try.prog 5 #[.int .u32 a0, .int .u32 a1, .int .u32 a2] w fun e w' => e = .returned (.bool true) ∧ Below w.heap.size w w' := by
  obtain ⟨k, h⟩ := P a0 a1 a2 w0 w1 w2
  refine (fourinhandlaw02_SeqnoOrder.calls k a0 a1 a2 true w h).mono ?_
  rintro e w' ⟨rfl, hd⟩
  exact ⟨rfl, hd.below⟩

/-! ### fourinhandlaw02_SeqnoNear: function 6 -/
def fourinhandlaw02_SeqnoNear.j0 : Nat → Int → Int → Bool → Bool → Option (Bool)
  | 0, _, _, _, _ => none
  | k + 1, x0, x1, x5, x17 => if x17 = true then (some x5) else ((seqno_Unwrap.f x0 x1).bind fun t135 => (if t135 > x0 then (if (wrap64 (t135 - x0)) < 2147483648 then (some true) else (some (decide (t135 < 4294967296)))) else (some (decide ((wrap64 (x0 - t135)) ≤ 2147483648)))))
def fourinhandlaw02_SeqnoNear.f (k : Nat) (a0 : Int) (a1 : Int) : Option (Bool) := (fourinhandlaw02_awake.f).bind fun t134 => (if t134 = true then (if a0 < 0 then (fourinhandlaw02_SeqnoNear.j0 k a0 a1 t134 true) else (fourinhandlaw02_SeqnoNear.j0 k a0 a1 t134 (decide (a0 > 4611686018427387904)))) else (fourinhandlaw02_SeqnoNear.j0 k a0 a1 t134 true))
theorem fourinhandlaw02_SeqnoNear.mono_l : ∀ k, (∀ y0 y1 y2 y3, LeO (fourinhandlaw02_SeqnoNear.j0 k y0 y1 y2 y3) (fourinhandlaw02_SeqnoNear.j0 (k + 1) y0 y1 y2 y3))
  | 0 => fun _ _ _ _ r h => by simp [fourinhandlaw02_SeqnoNear.j0] at h
  | k + 1 => by
    have ih0 := fourinhandlaw02_SeqnoNear.mono_l k
    · intro y0 y1 y2 y3
      unfold fourinhandlaw02_SeqnoNear.j0
      repeat' first
      | (with_reducible exact ih0 _ _ _ _)
      | (with_reducible exact LeO.refl _)
      | (with_reducible exact LeO.none _)
      | (with_reducible refine LeO.ite ?_ ?_)
      | (with_reducible refine LeO.bind ?_ (fun _ => ?_))
      | exact ih0 _ _ _ _
      | exact LeO.none _
      | refine LeO.ite ?_ ?_
      | refine LeO.bind ?_ (fun _ => ?_)
theorem fourinhandlaw02_SeqnoNear.mono : ∀ a0 a1 k, LeO (fourinhandlaw02_SeqnoNear.f k a0 a1) (fourinhandlaw02_SeqnoNear.f (k + 1) a0 a1) := by
  intro a0 a1 k
  have ih0 := fourinhandlaw02_SeqnoNear.mono_l k
  unfold fourinhandlaw02_SeqnoNear.f
  repeat' first
      | (with_reducible exact ih0 _ _ _ _)
      | (with_reducible exact LeO.refl _)
      | (with_reducible exact LeO.none _)
      | (with_reducible refine LeO.ite ?_ ?_)
      | (with_reducible refine LeO.bind ?_ (fun _ => ?_))
      | exact ih0 _ _ _ _
      | exact LeO.none _
      | refine LeO.ite ?_ ?_
      | refine LeO.bind ?_ (fun _ => ?_)
set_option maxHeartbeats 8000000 in
set_option maxRecDepth 100000 in
theorem fourinhandlaw02_SeqnoNear.calls (k : Nat) (a0 : Int) (a1 : Int) (r : Bool) (w : World) (h : fourinhandlaw02_SeqnoNear.f k a0 a1 = some r) :
    Calls Try.prog 6 #[.int .i64 a0, .int .u32 a1] w fun e w' => e = .returned (.bool r) ∧ Drawn0 w w' := by
  have H : ((fourinhandlaw02_awake.f).bind fun t134 => (if t134 = true then (if a0 < 0 then (fourinhandlaw02_SeqnoNear.j0 k a0 a1 t134 true) else (fourinhandlaw02_SeqnoNear.j0 k a0 a1 t134 (decide (a0 > 4611686018427387904)))) else (fourinhandlaw02_SeqnoNear.j0 k a0 a1 t134 true))) = some r := h
  clear h
  replace H := Option.bind_eq_some_iff.mp H
  obtain ⟨t134, A30, H⟩ := H
  replace H : (if t134 = true then (if a0 < 0 then (fourinhandlaw02_SeqnoNear.j0 k a0 a1 t134 true) else (fourinhandlaw02_SeqnoNear.j0 k a0 a1 t134 (decide (a0 > 4611686018427387904)))) else (fourinhandlaw02_SeqnoNear.j0 k a0 a1 t134 true)) = some r := H
  have A3 := Aside0.mk A30
  clear A30
  have HC4 := Aside0.mk H
  clear H
  go_enter Try.func6, Try.ntmps6
  go_upto_region 2 with (first | ((with_reducible refine gate_callee (f := 9) rfl ?_); refine goesL_ (some 7) rfl rfl Try.func9 (by kernel_rfl) rfl #[] rfl (by (try simp only [List.map_toArray, List.map_cons, List.map_nil]); first | done | rfl | (simp only [List.length_drop, List.length_take]; rfl)) ?_; (with_reducible refine (fourinhandlaw02_awake.calls  t134 _ A3.out).mono ?_); rintro e w' ⟨rfl, ⟨nd, rfl⟩⟩; refine ⟨_, rfl, ?_⟩))
  (try simp only [Act.put, List.setIfInBounds_toArray, List.set_cons_zero, List.set_cons_succ])
  go_cut [17] (fun v17 wc => ∃ (kq : Nat) (x17_3 : Bool), v17 = .bool x17_3 ∧ Aside0 (fourinhandlaw02_SeqnoNear.j0 kq a0 a1 t134 x17_3 = some r) ∧ Aside0 (kq ≤ k) ∧ Drawn0 w wc)
  case first =>
    have H := HC4.out
    clear HC4
    by_cases c5 : t134 = true
    · subst c5
      have H1 : (if a0 < 0 then (fourinhandlaw02_SeqnoNear.j0 k a0 a1 true true) else (fourinhandlaw02_SeqnoNear.j0 k a0 a1 true (decide (a0 > 4611686018427387904)))) = some r := by rw [if_pos rfl] at H; exact H
      clear H
      have H := H1
      clear H1
      by_cases c6 : a0 < 0
      · rw [if_pos c6] at H
        have c6b0 : decide (a0 < 0) = true := decide_eq_true c6
        clear c6
        (first | rw [c6b0] | (simp only [i64_w, i32_w]; rw [c6b0]) | skip)
        have H' := Aside0.mk H
        clear H
        go_wp2
        go_meet
        case rel => exact ⟨_, (true), (by first | rfl | (simp; done) | (simp [*]; done)), H', ⟨by first | omega | exact Nat.le_refl _⟩, by repeat (first | exact Drawn0.refl _ | apply Drawn0.step)⟩
      · rw [if_neg c6] at H
        have c6b0 : decide (a0 < 0) = false := decide_eq_false c6
        clear c6
        (first | rw [c6b0] | (simp only [i64_w, i32_w]; rw [c6b0]) | skip)
        have H' := Aside0.mk H
        clear H
        go_wp2
        go_meet
        case rel => exact ⟨_, (decide (a0 > 4611686018427387904)), (by first | rfl | (simp; done) | (simp [*]; done)), H', ⟨by first | omega | exact Nat.le_refl _⟩, by repeat (first | exact Drawn0.refl _ | apply Drawn0.step)⟩
    · replace c5 := Bool.eq_false_iff.mpr c5
      subst c5
      have H1 : (fourinhandlaw02_SeqnoNear.j0 k a0 a1 false true) = some r := by rw [if_neg (show ¬ (false = true) by decide)] at H; exact H
      clear H
      have H := H1
      clear H1
      have H' := Aside0.mk H
      clear H
      go_wp2
      go_meet
      case rel => exact ⟨_, (true), (by first | rfl | (simp; done) | (simp [*]; done)), H', ⟨by first | omega | exact Nat.le_refl _⟩, by repeat (first | exact Drawn0.refl _ | apply Drawn0.step)⟩
  case rest =>
    clear HC4
    try clear p2
    try clear c5
    try clear c6
    try clear c6b0
    obtain ⟨kq, x17_3, rfl, HA, HJ3, ⟨mc3, rfl⟩⟩ := hcut
    cases kq with
    | zero => exact absurd HA.out (by simp [fourinhandlaw02_SeqnoNear.j0])
    | succ kj3 =>
      have H := HA.out
      clear HA
      simp only [fourinhandlaw02_SeqnoNear.j0] at H
      by_cases c7 : x17_3 = true
      · subst c7
        have H1 : (some t134) = some r := by rw [if_pos rfl] at H; exact H
        clear H
        have H := H1
        clear H1
        obtain rfl := Option.some.inj H
        go_wp2
        go_ret
        exact ⟨by first | rfl | (simp; done) | (simp [*]; done), by repeat (first | exact Drawn0.refl _ | apply Drawn0.step)⟩
      · replace c7 := Bool.eq_false_iff.mpr c7
        subst c7
        have H1 : ((seqno_Unwrap.f a0 a1).bind fun t135 => (if t135 > a0 then (if (wrap64 (t135 - a0)) < 2147483648 then (some true) else (some (decide (t135 < 4294967296)))) else (some (decide ((wrap64 (a0 - t135)) ≤ 2147483648))))) = some r := by rw [if_neg (show ¬ (false = true) by decide)] at H; exact H
        clear H
        have H := H1
        clear H1
        replace H := Option.bind_eq_some_iff.mp H
        obtain ⟨t135, A80, H⟩ := H
        replace H : (if t135 > a0 then (if (wrap64 (t135 - a0)) < 2147483648 then (some true) else (some (decide (t135 < 4294967296)))) else (some (decide ((wrap64 (a0 - t135)) ≤ 2147483648)))) = some r := H
        have A8 := Aside0.mk A80
        clear A80
        by_cases c9 : t135 > a0
        · rw [if_pos c9] at H
          have c9b0 : decide (a0 < t135) = true := decide_eq_true c9
          clear c9
          by_cases c10 : (wrap64 (t135 - a0)) < 2147483648
          · rw [if_pos c10] at H
            have c10b0 : decide ((wrap64 (t135 - a0)) < 2147483648) = true := decide_eq_true c10
            clear c10
            obtain rfl := Option.some.inj H
            go_wp2_with (first | ((with_reducible refine gate_callee (f := 16) rfl ?_); refine goesL_ (some 21) rfl rfl Try.func16 (by kernel_rfl) rfl #[.int .i64 a0, .int .u32 a1] rfl (by (try simp only [List.map_toArray, List.map_cons, List.map_nil]); first | done | rfl | (simp only [List.length_drop, List.length_take]; rfl)) ?_; (with_reducible refine (seqno_Unwrap.calls a0 a1 t135 _ A8.out).mono ?_); rintro e w' ⟨rfl, ⟨nd, rfl⟩⟩; refine ⟨_, rfl, ?_⟩))
            go_ret
            exact ⟨by first | rfl | (simp; done) | (simp [*]; done), by repeat (first | exact Drawn0.refl _ | apply Drawn0.step)⟩
          · rw [if_neg c10] at H
            have c10b0 : decide ((wrap64 (t135 - a0)) < 2147483648) = false := decide_eq_false c10
            clear c10
            obtain rfl := Option.some.inj H
            go_wp2_with (first | ((with_reducible refine gate_callee (f := 16) rfl ?_); refine goesL_ (some 21) rfl rfl Try.func16 (by kernel_rfl) rfl #[.int .i64 a0, .int .u32 a1] rfl (by (try simp only [List.map_toArray, List.map_cons, List.map_nil]); first | done | rfl | (simp only [List.length_drop, List.length_take]; rfl)) ?_; (with_reducible refine (seqno_Unwrap.calls a0 a1 t135 _ A8.out).mono ?_); rintro e w' ⟨rfl, ⟨nd, rfl⟩⟩; refine ⟨_, rfl, ?_⟩))
            go_ret
            exact ⟨by first | rfl | (simp; done) | (simp [*]; done), by repeat (first | exact Drawn0.refl _ | apply Drawn0.step)⟩
        · rw [if_neg c9] at H
          have c9b0 : decide (a0 < t135) = false := decide_eq_false c9
          clear c9
          obtain rfl := Option.some.inj H
          go_wp2_with (first | ((with_reducible refine gate_callee (f := 16) rfl ?_); refine goesL_ (some 21) rfl rfl Try.func16 (by kernel_rfl) rfl #[.int .i64 a0, .int .u32 a1] rfl (by (try simp only [List.map_toArray, List.map_cons, List.map_nil]); first | done | rfl | (simp only [List.length_drop, List.length_take]; rfl)) ?_; (with_reducible refine (seqno_Unwrap.calls a0 a1 t135 _ A8.out).mono ?_); rintro e w' ⟨rfl, ⟨nd, rfl⟩⟩; refine ⟨_, rfl, ?_⟩))
          go_ret
          exact ⟨by first | rfl | (simp; done) | (simp [*]; done), by repeat (first | exact Drawn0.refl _ | apply Drawn0.step)⟩

/-- THE ONE PURE STATEMENT of fourinhandlaw02_SeqnoNear: yours. -/
def fourinhandlaw02_SeqnoNear.Pure : Prop := ∀ (a0 : Int) (a1 : Int), (Lit.int .i64 a0).wf = true → (Lit.int .u32 a1).wf = true → ∃ k, fourinhandlaw02_SeqnoNear.f k a0 a1 = some true
theorem fourinhandlaw02_SeqnoNear.walk (P : fourinhandlaw02_SeqnoNear.Pure) (a0 : Int) (a1 : Int) (w : World) (w0 : (Lit.int .i64 a0).wf = true) (w1 : (Lit.int .u32 a1).wf = true) :
    Calls Try.prog 6 #[.int .i64 a0, .int .u32 a1] w fun e w' => e = .returned (.bool true) ∧ Below w.heap.size w w' := by
  obtain ⟨k, h⟩ := P a0 a1 w0 w1
  refine (fourinhandlaw02_SeqnoNear.calls k a0 a1 true w h).mono ?_
  rintro e w' ⟨rfl, hd⟩
  exact ⟨rfl, hd.below⟩

end Go.Proofs.Ytiaaelokbfjpdaa.S
