/- What the program's functions compute, as plain functions, and that they do: walks laid by a program of the session's. -/
import Derived.Test.YtiaaelokbfjpdaaSx0
import Derived.Test.YtiaaelokbfjpdaaSx1
namespace Go.Proofs.Ytiaaelokbfjpdaa.S
open Go.RowKit Go.Proofs.YtiaaelokbfjpdaaW.PrintWords Go.Proofs.YtiaaelokbfjpdaaW.PrintLast Go.Proofs.YtiaaelokbfjpdaaW.PrintMore
open Go.Proofs.Ytiaaelokbfjpdaa.Given
attribute [local go_sem] max2_int min2_int max_two min_two max_three min_three max_four min_four   -- for this text's walks alone
set_option linter.unusedVariables false
set_option linter.unusedSimpArgs false

/-! ### fourinhandlaw02_SeqnoParts: function 7 -/
def fourinhandlaw02_SeqnoParts.j0 : Nat → Int → Int → Int → Bool → Bool → Option (Bool)
  | 0, _, _, _, _, _ => none
  | k + 1, x0, x1, x2, x7, x34 => if x34 = true then (some x7) else ((seqno_Low.f (wrap64 (x0 + (wrap64 (4294967296 * x1))))).bind fun t137 => ((seqno_Low.f x0).bind fun t138 => (if t137 = t138 then ((seqno_Low.f x0).bind fun t139 => ((seqno_Low.f (wrap64 (x0 + x2))).bind fun t140 => ((seqno_Upto.f t139 t140).bind fun t141 => (some (t141 == x2))))) else (some false))))
def fourinhandlaw02_SeqnoParts.f (k : Nat) (a0 : Int) (a1 : Int) (a2 : Int) : Option (Bool) := (fourinhandlaw02_awake.f).bind fun t136 => (if t136 = true then (if a0 < 0 then (fourinhandlaw02_SeqnoParts.j0 k a0 a1 a2 t136 true) else (if a0 > 1125899906842624 then (fourinhandlaw02_SeqnoParts.j0 k a0 a1 a2 t136 true) else (if a1 < 0 then (fourinhandlaw02_SeqnoParts.j0 k a0 a1 a2 t136 true) else (if a1 > 1000 then (fourinhandlaw02_SeqnoParts.j0 k a0 a1 a2 t136 true) else (if a2 < 0 then (fourinhandlaw02_SeqnoParts.j0 k a0 a1 a2 t136 true) else (fourinhandlaw02_SeqnoParts.j0 k a0 a1 a2 t136 (decide (a2 ≥ 4294967296)))))))) else (fourinhandlaw02_SeqnoParts.j0 k a0 a1 a2 t136 true))
theorem fourinhandlaw02_SeqnoParts.mono_l : ∀ k, (∀ y0 y1 y2 y3 y4, LeO (fourinhandlaw02_SeqnoParts.j0 k y0 y1 y2 y3 y4) (fourinhandlaw02_SeqnoParts.j0 (k + 1) y0 y1 y2 y3 y4))
  | 0 => fun _ _ _ _ _ r h => by simp [fourinhandlaw02_SeqnoParts.j0] at h
  | k + 1 => by
    have ih0 := fourinhandlaw02_SeqnoParts.mono_l k
    · intro y0 y1 y2 y3 y4
      unfold fourinhandlaw02_SeqnoParts.j0
      repeat' first
      | (with_reducible exact ih0 _ _ _ _ _)
      | (with_reducible exact LeO.refl _)
      | (with_reducible exact LeO.none _)
      | (with_reducible refine LeO.ite ?_ ?_)
      | (with_reducible refine LeO.bind ?_ (fun _ => ?_))
      | exact ih0 _ _ _ _ _
      | exact LeO.none _
      | refine LeO.ite ?_ ?_
      | refine LeO.bind ?_ (fun _ => ?_)
theorem fourinhandlaw02_SeqnoParts.mono : ∀ a0 a1 a2 k, LeO (fourinhandlaw02_SeqnoParts.f k a0 a1 a2) (fourinhandlaw02_SeqnoParts.f (k + 1) a0 a1 a2) := by
  intro a0 a1 a2 k
  have ih0 := fourinhandlaw02_SeqnoParts.mono_l k
  unfold fourinhandlaw02_SeqnoParts.f
  repeat' first
      | (with_reducible exact ih0 _ _ _ _ _)
      | (with_reducible exact LeO.refl _)
      | (with_reducible exact LeO.none _)
      | (with_reducible refine LeO.ite ?_ ?_)
      | (with_reducible refine LeO.bind ?_ (fun _ => ?_))
      | exact ih0 _ _ _ _ _
      | exact LeO.none _
      | refine LeO.ite ?_ ?_
      | refine LeO.bind ?_ (fun _ => ?_)
set_option maxHeartbeats 8000000 in
set_option maxRecDepth 100000 in
theorem fourinhandlaw02_SeqnoParts.calls (k : Nat) (a0 : Int) (a1 : Int) (a2 : Int) (r : Bool) (w : World) (h : fourinhandlaw02_SeqnoParts.f k a0 a1 a2 = some r) :
    Calls Try.prog 7 #[.int .i64 a0, .int .i64 a1, .int .i64 a2] w fun e w' => e = .returned (.bool r) ∧ Drawn0 w w' := by
  have H : ((fourinhandlaw02_awake.f).bind fun t136 => (if t136 = true then (if a0 < 0 then (fourinhandlaw02_SeqnoParts.j0 k a0 a1 a2 t136 true) else (if a0 > 1125899906842624 then (fourinhandlaw02_SeqnoParts.j0 k a0 a1 a2 t136 true) else (if a1 < 0 then (fourinhandlaw02_SeqnoParts.j0 k a0 a1 a2 t136 true) else (if a1 > 1000 then (fourinhandlaw02_SeqnoParts.j0 k a0 a1 a2 t136 true) else (if a2 < 0 then (fourinhandlaw02_SeqnoParts.j0 k a0 a1 a2 t136 true) else (fourinhandlaw02_SeqnoParts.j0 k a0 a1 a2 t136 (decide (a2 ≥ 4294967296)))))))) else (fourinhandlaw02_SeqnoParts.j0 k a0 a1 a2 t136 true))) = some r := h
  clear h
  replace H := Option.bind_eq_some_iff.mp H
  obtain ⟨t136, A40, H⟩ := H
  replace H : (if t136 = true then (if a0 < 0 then (fourinhandlaw02_SeqnoParts.j0 k a0 a1 a2 t136 true) else (if a0 > 1125899906842624 then (fourinhandlaw02_SeqnoParts.j0 k a0 a1 a2 t136 true) else (if a1 < 0 then (fourinhandlaw02_SeqnoParts.j0 k a0 a1 a2 t136 true) else (if a1 > 1000 then (fourinhandlaw02_SeqnoParts.j0 k a0 a1 a2 t136 true) else (if a2 < 0 then (fourinhandlaw02_SeqnoParts.j0 k a0 a1 a2 t136 true) else (fourinhandlaw02_SeqnoParts.j0 k a0 a1 a2 t136 (decide (a2 ≥ 4294967296)))))))) else (fourinhandlaw02_SeqnoParts.j0 k a0 a1 a2 t136 true)) = some r := H
  have A4 := Aside0.mk A40
  clear A40
  have HC5 := Aside0.mk H
  clear H
  go_enter Try.func7, Try.ntmps7
  go_upto_region 2 with (first | ((with_reducible refine gate_callee (f := 9) rfl ?_); refine goesL_ (some 8) rfl rfl Try.func9 (by kernel_rfl) rfl #[] rfl (by (try simp only [List.map_toArray, List.map_cons, List.map_nil]); first | done | rfl | (simp only [List.length_drop, List.length_take]; rfl)) ?_; (with_reducible refine (fourinhandlaw02_awake.calls  t136 _ A4.out).mono ?_); rintro e w' ⟨rfl, ⟨nd, rfl⟩⟩; refine ⟨_, rfl, ?_⟩))
  (try simp only [Act.put, List.setIfInBounds_toArray, List.set_cons_zero, List.set_cons_succ])
  go_cut [34] (fun v34 wc => ∃ (kq : Nat) (x34_4 : Bool), v34 = .bool x34_4 ∧ Aside0 (fourinhandlaw02_SeqnoParts.j0 kq a0 a1 a2 t136 x34_4 = some r) ∧ Aside0 (kq ≤ k) ∧ Drawn0 w wc)
  case first =>
    have H := HC5.out
    clear HC5
    by_cases c6 : t136 = true
    · subst c6
      have H1 : (if a0 < 0 then (fourinhandlaw02_SeqnoParts.j0 k a0 a1 a2 true true) else (if a0 > 1125899906842624 then (fourinhandlaw02_SeqnoParts.j0 k a0 a1 a2 true true) else (if a1 < 0 then (fourinhandlaw02_SeqnoParts.j0 k a0 a1 a2 true true) else (if a1 > 1000 then (fourinhandlaw02_SeqnoParts.j0 k a0 a1 a2 true true) else (if a2 < 0 then (fourinhandlaw02_SeqnoParts.j0 k a0 a1 a2 true true) else (fourinhandlaw02_SeqnoParts.j0 k a0 a1 a2 true (decide (a2 ≥ 4294967296)))))))) = some r := by rw [if_pos rfl] at H; exact H
      clear H
      have H := H1
      clear H1
      by_cases c7 : a0 < 0
      · rw [if_pos c7] at H
        have c7b0 : decide (a0 < 0) = true := decide_eq_true c7
        clear c7
        (first | rw [c7b0] | (simp only [i64_w, i32_w]; rw [c7b0]) | skip)
        have H' := Aside0.mk H
        clear H
        go_wp2
        go_meet
        case rel => exact ⟨_, (true), (by first | rfl | (simp; done) | (simp [*]; done)), H', ⟨by first | omega | exact Nat.le_refl _⟩, by repeat (first | exact Drawn0.refl _ | apply Drawn0.step)⟩
      · rw [if_neg c7] at H
        have c7b0 : decide (a0 < 0) = false := decide_eq_false c7
        clear c7
        (first | rw [c7b0] | (simp only [i64_w, i32_w]; rw [c7b0]) | skip)
        by_cases c8 : a0 > 1125899906842624
        · rw [if_pos c8] at H
          have c8b0 : decide (1125899906842624 < a0) = true := decide_eq_true c8
          clear c8
          have H' := Aside0.mk H
          clear H
          go_wp2
          go_meet
          case rel => exact ⟨_, (true), (by first | rfl | (simp; done) | (simp [*]; done)), H', ⟨by first | omega | exact Nat.le_refl _⟩, by repeat (first | exact Drawn0.refl _ | apply Drawn0.step)⟩
        · rw [if_neg c8] at H
          have c8b0 : decide (1125899906842624 < a0) = false := decide_eq_false c8
          clear c8
          by_cases c9 : a1 < 0
          · rw [if_pos c9] at H
            have c9b0 : decide (a1 < 0) = true := decide_eq_true c9
            clear c9
            have H' := Aside0.mk H
            clear H
            go_wp2
            go_meet
            case rel => exact ⟨_, (true), (by first | rfl | (simp; done) | (simp [*]; done)), H', ⟨by first | omega | exact Nat.le_refl _⟩, by repeat (first | exact Drawn0.refl _ | apply Drawn0.step)⟩
          · rw [if_neg c9] at H
            have c9b0 : decide (a1 < 0) = false := decide_eq_false c9
            clear c9
            by_cases c10 : a1 > 1000
            · rw [if_pos c10] at H
              have c10b0 : decide (1000 < a1) = true := decide_eq_true c10
              clear c10
              have H' := Aside0.mk H
              clear H
              go_wp2
              go_meet
              case rel => exact ⟨_, (true), (by first | rfl | (simp; done) | (simp [*]; done)), H', ⟨by first | omega | exact Nat.le_refl _⟩, by repeat (first | exact Drawn0.refl _ | apply Drawn0.step)⟩
            · rw [if_neg c10] at H
              have c10b0 : decide (1000 < a1) = false := decide_eq_false c10
              clear c10
              by_cases c11 : a2 < 0
              · rw [if_pos c11] at H
                have c11b0 : decide (a2 < 0) = true := decide_eq_true c11
                clear c11
                have H' := Aside0.mk H
                clear H
                go_wp2
                go_meet
                case rel => exact ⟨_, (true), (by first | rfl | (simp; done) | (simp [*]; done)), H', ⟨by first | omega | exact Nat.le_refl _⟩, by repeat (first | exact Drawn0.refl _ | apply Drawn0.step)⟩
              · rw [if_neg c11] at H
                have c11b0 : decide (a2 < 0) = false := decide_eq_false c11
                clear c11
                have H' := Aside0.mk H
                clear H
                go_wp2
                go_meet
                case rel => exact ⟨_, (decide (a2 ≥ 4294967296)), (by first | rfl | (simp; done) | (simp [*]; done)), H', ⟨by first | omega | exact Nat.le_refl _⟩, by repeat (first | exact Drawn0.refl _ | apply Drawn0.step)⟩
    · replace c6 := Bool.eq_false_iff.mpr c6
      subst c6
      have H1 : (fourinhandlaw02_SeqnoParts.j0 k a0 a1 a2 false true) = some r := by rw [if_neg (show ¬ (false = true) by decide)] at H; exact H
      clear H
      have H := H1
      clear H1
      have H' := Aside0.mk H
      clear H
      go_wp2
      go_meet
      case rel => exact ⟨_, (true), (by first | rfl | (simp; done) | (simp [*]; done)), H', ⟨by first | omega | exact Nat.le_refl _⟩, by repeat (first | exact Drawn0.refl _ | apply Drawn0.step)⟩
  case rest =>
    clear HC5
    try clear c1
    try clear p2
    try clear c6
    try clear c7
    try clear c7b0
    try clear c8
    try clear c8b0
    try clear c9
    try clear c9b0
    try clear c10
    try clear c10b0
    try clear c11
    try clear c11b0
    obtain ⟨kq, x34_4, rfl, HA, HJ4, ⟨mc4, rfl⟩⟩ := hcut
    cases kq with
    | zero => exact absurd HA.out (by simp [fourinhandlaw02_SeqnoParts.j0])
    | succ kj4 =>
      have H := HA.out
      clear HA
      simp only [fourinhandlaw02_SeqnoParts.j0] at H
      by_cases c12 : x34_4 = true
      · subst c12
        have H1 : (some t136) = some r := by rw [if_pos rfl] at H; exact H
        clear H
        have H := H1
        clear H1
        obtain rfl := Option.some.inj H
        go_wp2
        go_ret
        exact ⟨by first | rfl | (simp; done) | (simp [*]; done), by repeat (first | exact Drawn0.refl _ | apply Drawn0.step)⟩
      · replace c12 := Bool.eq_false_iff.mpr c12
        subst c12
        have H1 : ((seqno_Low.f (wrap64 (a0 + (wrap64 (4294967296 * a1))))).bind fun t137 => ((seqno_Low.f a0).bind fun t138 => (if t137 = t138 then ((seqno_Low.f a0).bind fun t139 => ((seqno_Low.f (wrap64 (a0 + a2))).bind fun t140 => ((seqno_Upto.f t139 t140).bind fun t141 => (some (t141 == a2))))) else (some false)))) = some r := by rw [if_neg (show ¬ (false = true) by decide)] at H; exact H
        clear H
        have H := H1
        clear H1
        replace H := Option.bind_eq_some_iff.mp H
        obtain ⟨t137, A130, H⟩ := H
        replace H : ((seqno_Low.f a0).bind fun t138 => (if t137 = t138 then ((seqno_Low.f a0).bind fun t139 => ((seqno_Low.f (wrap64 (a0 + a2))).bind fun t140 => ((seqno_Upto.f t139 t140).bind fun t141 => (some (t141 == a2))))) else (some false))) = some r := H
        have A13 := Aside0.mk A130
        clear A130
        replace H := Option.bind_eq_some_iff.mp H
        obtain ⟨t138, A140, H⟩ := H
        replace H : (if t137 = t138 then ((seqno_Low.f a0).bind fun t139 => ((seqno_Low.f (wrap64 (a0 + a2))).bind fun t140 => ((seqno_Upto.f t139 t140).bind fun t141 => (some (t141 == a2))))) else (some false)) = some r := H
        have A14 := Aside0.mk A140
        clear A140
        by_cases c15 : t137 = t138
        · rw [if_pos c15] at H
          have c15b0 : (t137 == t138) = true := beq_iff_eq.mpr c15
          have c15b1 : (t137 != t138) = false := bne_eq_false_iff_eq.mpr c15
          clear c15
          replace H := Option.bind_eq_some_iff.mp H
          obtain ⟨t139, A160, H⟩ := H
          replace H : ((seqno_Low.f (wrap64 (a0 + a2))).bind fun t140 => ((seqno_Upto.f t139 t140).bind fun t141 => (some (t141 == a2)))) = some r := H
          have A16 := Aside0.mk A160
          clear A160
          replace H := Option.bind_eq_some_iff.mp H
          obtain ⟨t140, A170, H⟩ := H
          replace H : ((seqno_Upto.f t139 t140).bind fun t141 => (some (t141 == a2))) = some r := H
          have A17 := Aside0.mk A170
          clear A170
          replace H := Option.bind_eq_some_iff.mp H
          obtain ⟨t141, A180, H⟩ := H
          replace H : (some (t141 == a2)) = some r := H
          have A18 := Aside0.mk A180
          clear A180
          obtain rfl := Option.some.inj H
          go_wp2_with (first | ((with_reducible refine gate_callee (f := 10) rfl ?_); refine goesL_ (some 40) rfl rfl Try.func10 (by kernel_rfl) rfl #[.int .i64 (wrap64 (a0 + (wrap64 (4294967296 * a1))))] rfl (by (try simp only [List.map_toArray, List.map_cons, List.map_nil]); first | done | rfl | (simp only [List.length_drop, List.length_take]; rfl)) ?_; (with_reducible refine (seqno_Low.calls (wrap64 (a0 + (wrap64 (4294967296 * a1)))) t137 _ A13.out).mono ?_); rintro e w' ⟨rfl, ⟨nd, rfl⟩⟩; refine ⟨_, rfl, ?_⟩) | ((with_reducible refine gate_callee (f := 10) rfl ?_); refine goesL_ (some 42) rfl rfl Try.func10 (by kernel_rfl) rfl #[.int .i64 a0] rfl (by (try simp only [List.map_toArray, List.map_cons, List.map_nil]); first | done | rfl | (simp only [List.length_drop, List.length_take]; rfl)) ?_; (with_reducible refine (seqno_Low.calls a0 t138 _ A14.out).mono ?_); rintro e w' ⟨rfl, ⟨nd, rfl⟩⟩; refine ⟨_, rfl, ?_⟩) | (go_at_call 10; (with_reducible refine (seqno_Low.calls a0 t139 _ A16.out).mono ?_); rintro e w' ⟨rfl, ⟨nd, rfl⟩⟩) | (go_at_call 10; (with_reducible refine (seqno_Low.calls (wrap64 (a0 + a2)) t140 _ A17.out).mono ?_); rintro e w' ⟨rfl, ⟨nd, rfl⟩⟩) | (go_at_call 14; (with_reducible refine (seqno_Upto.calls t139 t140 t141 _ A18.out).mono ?_); rintro e w' ⟨rfl, ⟨nd, rfl⟩⟩))
          go_ret
          exact ⟨by first | rfl | (simp; done) | (simp [*]; done), by repeat (first | exact Drawn0.refl _ | apply Drawn0.step)⟩
        · rw [if_neg c15] at H
          have c15b0 : (t137 == t138) = false := beq_eq_false_iff_ne.mpr c15
          have c15b1 : (t137 != t138) = true := bne_iff_ne.mpr c15
          obtain rfl := Option.some.inj H
          go_wp2_with (first | ((with_reducible refine gate_callee (f := 10) rfl ?_); refine goesL_ (some 40) rfl rfl Try.func10 (by kernel_rfl) rfl #[.int .i64 (wrap64 (a0 + (wrap64 (4294967296 * a1))))] rfl (by (try simp only [List.map_toArray, List.map_cons, List.map_nil]); first | done | rfl | (simp only [List.length_drop, List.length_take]; rfl)) ?_; (with_reducible refine (seqno_Low.calls (wrap64 (a0 + (wrap64 (4294967296 * a1)))) t137 _ A13.out).mono ?_); rintro e w' ⟨rfl, ⟨nd, rfl⟩⟩; refine ⟨_, rfl, ?_⟩) | ((with_reducible refine gate_callee (f := 10) rfl ?_); refine goesL_ (some 42) rfl rfl Try.func10 (by kernel_rfl) rfl #[.int .i64 a0] rfl (by (try simp only [List.map_toArray, List.map_cons, List.map_nil]); first | done | rfl | (simp only [List.length_drop, List.length_take]; rfl)) ?_; (with_reducible refine (seqno_Low.calls a0 t138 _ A14.out).mono ?_); rintro e w' ⟨rfl, ⟨nd, rfl⟩⟩; refine ⟨_, rfl, ?_⟩))
          go_ret
          exact ⟨by first | rfl | (simp; done) | (simp [*]; done), by repeat (first | exact Drawn0.refl _ | apply Drawn0.step)⟩

/-- THE ONE PURE STATEMENT of fourinhandlaw02_SeqnoParts: yours. -/
def fourinhandlaw02_SeqnoParts.Pure : Prop := ∀ (a0 : Int) (a1 : Int) (a2 : Int), (Lit.int .i64 a0).wf = true → (Lit.int .i64 a1).wf = true → (Lit.int .i64 a2).wf = true → ∃ k, fourinhandlaw02_SeqnoParts.f k a0 a1 a2 = some true
theorem fourinhandlaw02_SeqnoParts.walk (P : fourinhandlaw02_SeqnoParts.Pure) (a0 : Int) (a1 : Int) (a2 : Int) (w : World) (w0 : (Lit.int .i64 a0).wf = true) (w1 : (Lit.int .i64 a1).wf = true) (w2 : (Lit.int .i64 a2).wf = true) :
    Calls Try.prog 7 #[.int .i64 a0, .int .i64 a1, .int .i64 a2] w fun e w' => e = .returned (.bool true) ∧ Below w.heap.size w w' := by
  obtain ⟨k, h⟩ := P a0 a1 a2 w0 w1 w2
  refine (fourinhandlaw02_SeqnoParts.calls k a0 a1 a2 true w h).mono ?_
  rintro e w' ⟨rfl, hd⟩
  exact ⟨rfl, hd.below⟩

/-! ### fourinhandlaw02_SeqnoLess: function 8 -/
def fourinhandlaw02_SeqnoLess.j0 : Nat → Int → Int → Int → Int → Int → Bool → Option (Bool)
  | 0, _, _, _, _, _, _ => none
  | k + 1, x0, x1, x2, x8, x9, x30 => if x30 = true then (some false) else ((seqno_Less.f x0 x1).bind fun t146 => (if t146 = true then ((seqno_Less.f x1 x2).bind fun t147 => (if t147 = true then (if (wrap64 (x8 + x9)) ≥ 2147483648 then (some true) else ((seqno_Less.f x0 x2).bind fun t148 => (some t148))) else (some true))) else (some true)))
def fourinhandlaw02_SeqnoLess.f (k : Nat) (a0 : Int) (a1 : Int) (a2 : Int) : Option (Bool) := (fourinhandlaw02_awake.f).bind fun t142 => ((seqno_Upto.f a0 a1).bind fun t143 => ((seqno_Upto.f a1 a2).bind fun t144 => (if t142 = true then ((seqno_Less.f a0 a1).bind fun t145 => (if t143 > 0 then (fourinhandlaw02_SeqnoLess.j0 k a0 a1 a2 t143 t144 (t145 != (decide (t143 < 2147483648)))) else (fourinhandlaw02_SeqnoLess.j0 k a0 a1 a2 t143 t144 (t145 != false)))) else (fourinhandlaw02_SeqnoLess.j0 k a0 a1 a2 t143 t144 true))))
theorem fourinhandlaw02_SeqnoLess.mono_l : ∀ k, (∀ y0 y1 y2 y3 y4 y5, LeO (fourinhandlaw02_SeqnoLess.j0 k y0 y1 y2 y3 y4 y5) (fourinhandlaw02_SeqnoLess.j0 (k + 1) y0 y1 y2 y3 y4 y5))
  | 0 => fun _ _ _ _ _ _ r h => by simp [fourinhandlaw02_SeqnoLess.j0] at h
  | k + 1 => by
    have ih0 := fourinhandlaw02_SeqnoLess.mono_l k
    · intro y0 y1 y2 y3 y4 y5
      unfold fourinhandlaw02_SeqnoLess.j0
      repeat' first
      | (with_reducible exact ih0 _ _ _ _ _ _)
      | (with_reducible exact LeO.refl _)
      | (with_reducible exact LeO.none _)
      | (with_reducible refine LeO.ite ?_ ?_)
      | (with_reducible refine LeO.bind ?_ (fun _ => ?_))
      | exact ih0 _ _ _ _ _ _
      | exact LeO.none _
      | refine LeO.ite ?_ ?_
      | refine LeO.bind ?_ (fun _ => ?_)
theorem fourinhandlaw02_SeqnoLess.mono : ∀ a0 a1 a2 k, LeO (fourinhandlaw02_SeqnoLess.f k a0 a1 a2) (fourinhandlaw02_SeqnoLess.f (k + 1) a0 a1 a2) := by
  intro a0 a1 a2 k
  have ih0 := fourinhandlaw02_SeqnoLess.mono_l k
  unfold fourinhandlaw02_SeqnoLess.f
  repeat' first
      | (with_reducible exact ih0 _ _ _ _ _ _)
      | (with_reducible exact LeO.refl _)
      | (with_reducible exact LeO.none _)
      | (with_reducible refine LeO.ite ?_ ?_)
      | (with_reducible refine LeO.bind ?_ (fun _ => ?_))
      | exact ih0 _ _ _ _ _ _
      | exact LeO.none _
      | refine LeO.ite ?_ ?_
      | refine LeO.bind ?_ (fun _ => ?_)
set_option maxHeartbeats 8000000 in
set_option maxRecDepth 100000 in
theorem fourinhandlaw02_SeqnoLess.calls (k : Nat) (a0 : Int) (a1 : Int) (a2 : Int) (r : Bool) (w : World) (h : fourinhandlaw02_SeqnoLess.f k a0 a1 a2 = some r) :
    Calls Try.prog 8 #[.int .u32 a0, .int .u32 a1, .int .u32 a2] w fun e w' => e = .returned (.bool r) ∧ Drawn0 w w' := by
  have H : ((fourinhandlaw02_awake.f).bind fun t142 => ((seqno_Upto.f a0 a1).bind fun t143 => ((seqno_Upto.f a1 a2).bind fun t144 => (if t142 = true then ((seqno_Less.f a0 a1).bind fun t145 => (if t143 > 0 then (fourinhandlaw02_SeqnoLess.j0 k a0 a1 a2 t143 t144 (t145 != (decide (t143 < 2147483648)))) else (fourinhandlaw02_SeqnoLess.j0 k a0 a1 a2 t143 t144 (t145 != false)))) else (fourinhandlaw02_SeqnoLess.j0 k a0 a1 a2 t143 t144 true))))) = some r := h
  clear h
  replace H := Option.bind_eq_some_iff.mp H
  obtain ⟨t142, A40, H⟩ := H
  replace H : ((seqno_Upto.f a0 a1).bind fun t143 => ((seqno_Upto.f a1 a2).bind fun t144 => (if t142 = true then ((seqno_Less.f a0 a1).bind fun t145 => (if t143 > 0 then (fourinhandlaw02_SeqnoLess.j0 k a0 a1 a2 t143 t144 (t145 != (decide (t143 < 2147483648)))) else (fourinhandlaw02_SeqnoLess.j0 k a0 a1 a2 t143 t144 (t145 != false)))) else (fourinhandlaw02_SeqnoLess.j0 k a0 a1 a2 t143 t144 true)))) = some r := H
  have A4 := Aside0.mk A40
  clear A40
  replace H := Option.bind_eq_some_iff.mp H
  obtain ⟨t143, A50, H⟩ := H
  replace H : ((seqno_Upto.f a1 a2).bind fun t144 => (if t142 = true then ((seqno_Less.f a0 a1).bind fun t145 => (if t143 > 0 then (fourinhandlaw02_SeqnoLess.j0 k a0 a1 a2 t143 t144 (t145 != (decide (t143 < 2147483648)))) else (fourinhandlaw02_SeqnoLess.j0 k a0 a1 a2 t143 t144 (t145 != false)))) else (fourinhandlaw02_SeqnoLess.j0 k a0 a1 a2 t143 t144 true))) = some r := H
  have A5 := Aside0.mk A50
  clear A50
  replace H := Option.bind_eq_some_iff.mp H
  obtain ⟨t144, A60, H⟩ := H
  replace H : (if t142 = true then ((seqno_Less.f a0 a1).bind fun t145 => (if t143 > 0 then (fourinhandlaw02_SeqnoLess.j0 k a0 a1 a2 t143 t144 (t145 != (decide (t143 < 2147483648)))) else (fourinhandlaw02_SeqnoLess.j0 k a0 a1 a2 t143 t144 (t145 != false)))) else (fourinhandlaw02_SeqnoLess.j0 k a0 a1 a2 t143 t144 true)) = some r := H
  have A6 := Aside0.mk A60
  clear A60
  have HC7 := Aside0.mk H
  clear H
  go_enter Try.func8, Try.ntmps8
  go_upto_region 4 with (first | ((with_reducible refine gate_callee (f := 9) rfl ?_); refine goesL_ (some 10) rfl rfl Try.func9 (by kernel_rfl) rfl #[] rfl (by (try simp only [List.map_toArray, List.map_cons, List.map_nil]); first | done | rfl | (simp only [List.length_drop, List.length_take]; rfl)) ?_; (with_reducible refine (fourinhandlaw02_awake.calls  t142 _ A4.out).mono ?_); rintro e w' ⟨rfl, ⟨nd, rfl⟩⟩; refine ⟨_, rfl, ?_⟩) | ((with_reducible refine gate_callee (f := 14) rfl ?_); refine goesL_ (some 13) rfl rfl Try.func14 (by kernel_rfl) rfl #[.int .u32 a0, .int .u32 a1] rfl (by (try simp only [List.map_toArray, List.map_cons, List.map_nil]); first | done | rfl | (simp only [List.length_drop, List.length_take]; rfl)) ?_; (with_reducible refine (seqno_Upto.calls a0 a1 t143 _ A5.out).mono ?_); rintro e w' ⟨rfl, ⟨nd, rfl⟩⟩; refine ⟨_, rfl, ?_⟩) | ((with_reducible refine gate_callee (f := 14) rfl ?_); refine goesL_ (some 16) rfl rfl Try.func14 (by kernel_rfl) rfl #[.int .u32 a1, .int .u32 a2] rfl (by (try simp only [List.map_toArray, List.map_cons, List.map_nil]); first | done | rfl | (simp only [List.length_drop, List.length_take]; rfl)) ?_; (with_reducible refine (seqno_Upto.calls a1 a2 t144 _ A6.out).mono ?_); rintro e w' ⟨rfl, ⟨nd, rfl⟩⟩; refine ⟨_, rfl, ?_⟩))
  (try simp only [Act.put, List.setIfInBounds_toArray, List.set_cons_zero, List.set_cons_succ])
  go_cut [30] (fun v30 wc => ∃ (kq : Nat) (x30_6 : Bool), v30 = .bool x30_6 ∧ Aside0 (fourinhandlaw02_SeqnoLess.j0 kq a0 a1 a2 t143 t144 x30_6 = some r) ∧ Aside0 (kq ≤ k) ∧ Drawn0 w wc)
  case first =>
    have H := HC7.out
    clear HC7
    by_cases c8 : t142 = true
    · subst c8
      have H1 : ((seqno_Less.f a0 a1).bind fun t145 => (if t143 > 0 then (fourinhandlaw02_SeqnoLess.j0 k a0 a1 a2 t143 t144 (t145 != (decide (t143 < 2147483648)))) else (fourinhandlaw02_SeqnoLess.j0 k a0 a1 a2 t143 t144 (t145 != false)))) = some r := by rw [if_pos rfl] at H; exact H
      clear H
      have H := H1
      clear H1
      replace H := Option.bind_eq_some_iff.mp H
      obtain ⟨t145, A90, H⟩ := H
      replace H : (if t143 > 0 then (fourinhandlaw02_SeqnoLess.j0 k a0 a1 a2 t143 t144 (t145 != (decide (t143 < 2147483648)))) else (fourinhandlaw02_SeqnoLess.j0 k a0 a1 a2 t143 t144 (t145 != false))) = some r := H
      have A9 := Aside0.mk A90
      clear A90
      by_cases c10 : t143 > 0
      · rw [if_pos c10] at H
        have c10b0 : decide (0 < t143) = true := decide_eq_true c10
        clear c10
        (first | rw [c10b0] | (simp only [i64_w, i32_w]; rw [c10b0]) | skip)
        have H' := Aside0.mk H
        clear H
        go_wp2_with (first | (go_at_call 12; (with_reducible refine (seqno_Less.calls a0 a1 t145 _ A9.out).mono ?_); rintro e w' ⟨rfl, ⟨nd, rfl⟩⟩))
        go_meet
        case rel => exact ⟨_, ((t145 != (decide (t143 < 2147483648)))), (by first | rfl | (simp; done) | (simp [*]; done)), H', ⟨by first | omega | exact Nat.le_refl _⟩, by repeat (first | exact Drawn0.refl _ | apply Drawn0.step)⟩
      · rw [if_neg c10] at H
        have c10b0 : decide (0 < t143) = false := decide_eq_false c10
        clear c10
        (first | rw [c10b0] | (simp only [i64_w, i32_w]; rw [c10b0]) | skip)
        have H' := Aside0.mk H
        clear H
        go_wp2_with (first | (go_at_call 12; (with_reducible refine (seqno_Less.calls a0 a1 t145 _ A9.out).mono ?_); rintro e w' ⟨rfl, ⟨nd, rfl⟩⟩))
        go_meet
        case rel => exact ⟨_, ((t145 != false)), (by first | rfl | (simp; done) | (simp [*]; done)), H', ⟨by first | omega | exact Nat.le_refl _⟩, by repeat (first | exact Drawn0.refl _ | apply Drawn0.step)⟩
    · replace c8 := Bool.eq_false_iff.mpr c8
      subst c8
      have H1 : (fourinhandlaw02_SeqnoLess.j0 k a0 a1 a2 t143 t144 true) = some r := by rw [if_neg (show ¬ (false = true) by decide)] at H; exact H
      clear H
      have H := H1
      clear H1
      have H' := Aside0.mk H
      clear H
      go_wp2
      go_meet
      case rel => exact ⟨_, (true), (by first | rfl | (simp; done) | (simp [*]; done)), H', ⟨by first | omega | exact Nat.le_refl _⟩, by repeat (first | exact Drawn0.refl _ | apply Drawn0.step)⟩
  case rest =>
    clear HC7
    try clear c1
    try clear p2
    try clear c8
    try clear c9
    try clear c10
    try clear c10b0
    obtain ⟨kq, x30_6, rfl, HA, HJ6, ⟨mc6, rfl⟩⟩ := hcut
    cases kq with
    | zero => exact absurd HA.out (by simp [fourinhandlaw02_SeqnoLess.j0])
    | succ kj6 =>
      have H := HA.out
      clear HA
      simp only [fourinhandlaw02_SeqnoLess.j0] at H
      by_cases c11 : x30_6 = true
      · subst c11
        have H1 : (some false) = some r := by rw [if_pos rfl] at H; exact H
        clear H
        have H := H1
        clear H1
        obtain rfl := Option.some.inj H
        go_wp2
        go_ret
        exact ⟨by first | rfl | (simp; done) | (simp [*]; done), by repeat (first | exact Drawn0.refl _ | apply Drawn0.step)⟩
      · replace c11 := Bool.eq_false_iff.mpr c11
        subst c11
        have H1 : ((seqno_Less.f a0 a1).bind fun t146 => (if t146 = true then ((seqno_Less.f a1 a2).bind fun t147 => (if t147 = true then (if (wrap64 (t143 + t144)) ≥ 2147483648 then (some true) else ((seqno_Less.f a0 a2).bind fun t148 => (some t148))) else (some true))) else (some true))) = some r := by rw [if_neg (show ¬ (false = true) by decide)] at H; exact H
        clear H
        have H := H1
        clear H1
        replace H := Option.bind_eq_some_iff.mp H
        obtain ⟨t146, A120, H⟩ := H
        replace H : (if t146 = true then ((seqno_Less.f a1 a2).bind fun t147 => (if t147 = true then (if (wrap64 (t143 + t144)) ≥ 2147483648 then (some true) else ((seqno_Less.f a0 a2).bind fun t148 => (some t148))) else (some true))) else (some true)) = some r := H
        have A12 := Aside0.mk A120
        clear A120
        by_cases c13 : t146 = true
        · subst c13
          have H1 : ((seqno_Less.f a1 a2).bind fun t147 => (if t147 = true then (if (wrap64 (t143 + t144)) ≥ 2147483648 then (some true) else ((seqno_Less.f a0 a2).bind fun t148 => (some t148))) else (some true))) = some r := by rw [if_pos rfl] at H; exact H
          clear H
          have H := H1
          clear H1
          replace H := Option.bind_eq_some_iff.mp H
          obtain ⟨t147, A140, H⟩ := H
          replace H : (if t147 = true then (if (wrap64 (t143 + t144)) ≥ 2147483648 then (some true) else ((seqno_Less.f a0 a2).bind fun t148 => (some t148))) else (some true)) = some r := H
          have A14 := Aside0.mk A140
          clear A140
          by_cases c15 : t147 = true
          · subst c15
            have H1 : (if (wrap64 (t143 + t144)) ≥ 2147483648 then (some true) else ((seqno_Less.f a0 a2).bind fun t148 => (some t148))) = some r := by rw [if_pos rfl] at H; exact H
            clear H
            have H := H1
            clear H1
            by_cases c16 : (wrap64 (t143 + t144)) ≥ 2147483648
            · rw [if_pos c16] at H
              have c16b0 : decide (2147483648 ≤ (wrap64 (t143 + t144))) = true := decide_eq_true c16
              clear c16
              obtain rfl := Option.some.inj H
              go_wp2_with (first | ((with_reducible refine gate_callee (f := 12) rfl ?_); refine goesL_ (some 33) rfl rfl Try.func12 (by kernel_rfl) rfl #[.int .u32 a0, .int .u32 a1] rfl (by (try simp only [List.map_toArray, List.map_cons, List.map_nil]); first | done | rfl | (simp only [List.length_drop, List.length_take]; rfl)) ?_; (with_reducible refine (seqno_Less.calls a0 a1 true _ A12.out).mono ?_); rintro e w' ⟨rfl, ⟨nd, rfl⟩⟩; refine ⟨_, rfl, ?_⟩) | (go_at_call 12; (with_reducible refine (seqno_Less.calls a1 a2 true _ A14.out).mono ?_); rintro e w' ⟨rfl, ⟨nd, rfl⟩⟩))
              go_ret
              exact ⟨by first | rfl | (simp; done) | (simp [*]; done), by repeat (first | exact Drawn0.refl _ | apply Drawn0.step)⟩
            · rw [if_neg c16] at H
              have c16b0 : decide (2147483648 ≤ (wrap64 (t143 + t144))) = false := decide_eq_false c16
              clear c16
              replace H := Option.bind_eq_some_iff.mp H
              obtain ⟨t148, A170, H⟩ := H
              replace H : (some t148) = some r := H
              have A17 := Aside0.mk A170
              clear A170
              obtain rfl := Option.some.inj H
              go_wp2_with (first | ((with_reducible refine gate_callee (f := 12) rfl ?_); refine goesL_ (some 33) rfl rfl Try.func12 (by kernel_rfl) rfl #[.int .u32 a0, .int .u32 a1] rfl (by (try simp only [List.map_toArray, List.map_cons, List.map_nil]); first | done | rfl | (simp only [List.length_drop, List.length_take]; rfl)) ?_; (with_reducible refine (seqno_Less.calls a0 a1 true _ A12.out).mono ?_); rintro e w' ⟨rfl, ⟨nd, rfl⟩⟩; refine ⟨_, rfl, ?_⟩) | (go_at_call 12; (with_reducible refine (seqno_Less.calls a1 a2 true _ A14.out).mono ?_); rintro e w' ⟨rfl, ⟨nd, rfl⟩⟩) | (go_at_call 12; (with_reducible refine (seqno_Less.calls a0 a2 t148 _ A17.out).mono ?_); rintro e w' ⟨rfl, ⟨nd, rfl⟩⟩))
              go_ret
              exact ⟨by first | rfl | (simp; done) | (simp [*]; done), by repeat (first | exact Drawn0.refl _ | apply Drawn0.step)⟩
          · replace c15 := Bool.eq_false_iff.mpr c15
            subst c15
            have H1 : (some true) = some r := by rw [if_neg (show ¬ (false = true) by decide)] at H; exact H
            clear H
            have H := H1
            clear H1
            obtain rfl := Option.some.inj H
            go_wp2_with (first | ((with_reducible refine gate_callee (f := 12) rfl ?_); refine goesL_ (some 33) rfl rfl Try.func12 (by kernel_rfl) rfl #[.int .u32 a0, .int .u32 a1] rfl (by (try simp only [List.map_toArray, List.map_cons, List.map_nil]); first | done | rfl | (simp only [List.length_drop, List.length_take]; rfl)) ?_; (with_reducible refine (seqno_Less.calls a0 a1 true _ A12.out).mono ?_); rintro e w' ⟨rfl, ⟨nd, rfl⟩⟩; refine ⟨_, rfl, ?_⟩) | (go_at_call 12; (with_reducible refine (seqno_Less.calls a1 a2 false _ A14.out).mono ?_); rintro e w' ⟨rfl, ⟨nd, rfl⟩⟩))
            go_ret
            exact ⟨by first | rfl | (simp; done) | (simp [*]; done), by repeat (first | exact Drawn0.refl _ | apply Drawn0.step)⟩
        · replace c13 := Bool.eq_false_iff.mpr c13
          subst c13
          have H1 : (some true) = some r := by rw [if_neg (show ¬ (false = true) by decide)] at H; exact H
          clear H
          have H := H1
          clear H1
          obtain rfl := Option.some.inj H
          go_wp2_with (first | ((with_reducible refine gate_callee (f := 12) rfl ?_); refine goesL_ (some 33) rfl rfl Try.func12 (by kernel_rfl) rfl #[.int .u32 a0, .int .u32 a1] rfl (by (try simp only [List.map_toArray, List.map_cons, List.map_nil]); first | done | rfl | (simp only [List.length_drop, List.length_take]; rfl)) ?_; (with_reducible refine (seqno_Less.calls a0 a1 false _ A12.out).mono ?_); rintro e w' ⟨rfl, ⟨nd, rfl⟩⟩; refine ⟨_, rfl, ?_⟩))
          go_ret
          exact ⟨by first | rfl | (simp; done) | (simp [*]; done), by repeat (first | exact Drawn0.refl _ | apply Drawn0.step)⟩

/-- THE ONE PURE STATEMENT of fourinhandlaw02_SeqnoLess: yours. -/
def fourinhandlaw02_SeqnoLess.Pure : Prop := ∀ (a0 : Int) (a1 : Int) (a2 : Int), (Lit.int .u32 a0).wf = true → (Lit.int .u32 a1).wf = true → (Lit.int .u32 a2).wf = true → ∃ k, fourinhandlaw02_SeqnoLess.f k a0 a1 a2 = some true
theorem fourinhandlaw02_SeqnoLess.walk (P : fourinhandlaw02_SeqnoLess.Pure) (a0 : Int) (a1 : Int) (a2 : Int) (w : World) (w0 : (Lit.int .u32 a0).wf = true) (w1 : (Lit.int .u32 a1).wf = true) (w2 : (Lit.int .u32 a2).wf = true) :
    Calls Try.prog 8 #[.int .u32 a0, .int .u32 a1, .int .u32 a2] w fun e w' => e = .returned (.bool true) ∧ Below w.heap.size w w' := by
  obtain ⟨k, h⟩ := P a0 a1 a2 w0 w1 w2
  refine (fourinhandlaw02_SeqnoLess.calls k a0 a1 a2 true w h).mono ?_
  rintro e w' ⟨rfl, hd⟩
  exact ⟨rfl, hd.below⟩

end Go.Proofs.Ytiaaelokbfjpdaa.S
