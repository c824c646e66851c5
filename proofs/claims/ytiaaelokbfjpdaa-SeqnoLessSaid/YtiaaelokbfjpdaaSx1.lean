/- What the program's functions compute, as plain functions, and that they do: walks laid by a program of the session's. -/
import Derived.Test.YtiaaelokbfjpdaaSx0
namespace Go.Proofs.Ytiaaelokbfjpdaa.S
open Go.RowKit Go.Proofs.YtiaaelokbfjpdaaW.PrintWords Go.Proofs.YtiaaelokbfjpdaaW.PrintLast Go.Proofs.YtiaaelokbfjpdaaW.PrintMore
open Go.Proofs.Ytiaaelokbfjpdaa.Given
attribute [local go_sem] max2_int min2_int max_two min_two max_three min_three max_four min_four   -- for this text's walks alone
set_option linter.unusedVariables false
set_option linter.unusedSimpArgs false

/-! ### seqno_Low: function 10 -/
def seqno_Low.f (a0 : Int) : Option (Int) := some ((a0) % 4294967296)
set_option maxHeartbeats 8000000 in
set_option maxRecDepth 100000 in
theorem seqno_Low.calls (a0 : Int) (r : Int) (w : World) (h : seqno_Low.f a0 = some r) :
    Calls Try.prog 10 #[.int .i64 a0] w fun e w' => e = .returned (.int .u32 r) ∧ Drawn0 w w' := by
  have H : (some ((a0) % 4294967296)) = some r := h
  clear h
  obtain rfl := Option.some.inj H
  go_enter Try.func10, Try.ntmps10
  go_wp2
  go_ret
  exact ⟨by first | rfl | (simp; done) | (simp [*]; done), by repeat (first | exact Drawn0.refl _ | apply Drawn0.step)⟩

/-! ### seqno_Upto: function 14 -/
def seqno_Upto.f (a0 : Int) (a1 : Int) : Option (Int) := some ((a1 - a0) % 4294967296)
set_option maxHeartbeats 8000000 in
set_option maxRecDepth 100000 in
theorem seqno_Upto.calls (a0 : Int) (a1 : Int) (r : Int) (w : World) (h : seqno_Upto.f a0 a1 = some r) :
    Calls Try.prog 14 #[.int .u32 a0, .int .u32 a1] w fun e w' => e = .returned (.int .i64 r) ∧ Drawn0 w w' := by
  have H : (some ((a1 - a0) % 4294967296)) = some r := h
  clear h
  obtain rfl := Option.some.inj H
  go_enter Try.func14, Try.ntmps14
  go_wp2
  go_ret
  exact ⟨by first | rfl | (simp; done) | (simp [*]; done), by repeat (first | exact Drawn0.refl _ | apply Drawn0.step)⟩

/-! ### seqno_Less: function 12 -/
def seqno_Less.f (a0 : Int) (a1 : Int) : Option (Bool) := (seqno_Upto.f a0 a1).bind fun t101 => (if t101 > 0 then (some (decide (t101 < 2147483648))) else (some false))
set_option maxHeartbeats 8000000 in
set_option maxRecDepth 100000 in
theorem seqno_Less.calls (a0 : Int) (a1 : Int) (r : Bool) (w : World) (h : seqno_Less.f a0 a1 = some r) :
    Calls Try.prog 12 #[.int .u32 a0, .int .u32 a1] w fun e w' => e = .returned (.bool r) ∧ Drawn0 w w' := by
  have H : ((seqno_Upto.f a0 a1).bind fun t101 => (if t101 > 0 then (some (decide (t101 < 2147483648))) else (some false))) = some r := h
  clear h
  replace H := Option.bind_eq_some_iff.mp H
  obtain ⟨t101, A30, H⟩ := H
  replace H : (if t101 > 0 then (some (decide (t101 < 2147483648))) else (some false)) = some r := H
  have A3 := Aside0.mk A30
  clear A30
  by_cases c4 : t101 > 0
  · rw [if_pos c4] at H
    have c4b0 : decide (0 < t101) = true := decide_eq_true c4
    clear c4
    obtain rfl := Option.some.inj H
    go_enter Try.func12, Try.ntmps12
    go_wp2_with (first | ((with_reducible refine gate_callee (f := 14) rfl ?_); refine goesL_ (some 8) rfl rfl Try.func14 (by kernel_rfl) rfl #[.int .u32 a0, .int .u32 a1] rfl (by (try simp only [List.map_toArray, List.map_cons, List.map_nil]); first | done | rfl | (simp only [List.length_drop, List.length_take]; rfl)) ?_; (with_reducible refine (seqno_Upto.calls a0 a1 t101 _ A3.out).mono ?_); rintro e w' ⟨rfl, ⟨nd, rfl⟩⟩; refine ⟨_, rfl, ?_⟩))
    go_ret
    exact ⟨by first | rfl | (simp; done) | (simp [*]; done), by repeat (first | exact Drawn0.refl _ | apply Drawn0.step)⟩
  · rw [if_neg c4] at H
    have c4b0 : decide (0 < t101) = false := decide_eq_false c4
    clear c4
    obtain rfl := Option.some.inj H
    go_enter Try.func12, Try.ntmps12
    go_wp2_with (first | ((with_reducible refine gate_callee (f := 14) rfl ?_); refine goesL_ (some 8) rfl rfl Try.func14 (by kernel_rfl) rfl #[.int .u32 a0, .int .u32 a1] rfl (by (try simp only [List.map_toArray, List.map_cons, List.map_nil]); first | done | rfl | (simp only [List.length_drop, List.length_take]; rfl)) ?_; (with_reducible refine (seqno_Upto.calls a0 a1 t101 _ A3.out).mono ?_); rintro e w' ⟨rfl, ⟨nd, rfl⟩⟩; refine ⟨_, rfl, ?_⟩))
    go_ret
    exact ⟨by first | rfl | (simp; done) | (simp [*]; done), by repeat (first | exact Drawn0.refl _ | apply Drawn0.step)⟩

-- GIVEN: function 16 (seqno_Unwrap)

/-! ### fourinhandlaw02_awake: function 9 -/
def fourinhandlaw02_awake.f  : Option (Bool) := (seqno_Unwrap.f 4294967296 5).bind fun t102 => (if t102 = 4294967301 then ((seqno_Unwrap.f 3 5).bind fun t103 => (if t103 = 5 then ((seqno_Less.f 4294967295 0).bind fun t104 => (if t104 = true then ((seqno_Low.f (-1)).bind fun t105 => (some (t105 == 4294967295))) else (some false))) else (some false))) else (some false))
set_option maxHeartbeats 8000000 in
set_option maxRecDepth 100000 in
theorem fourinhandlaw02_awake.calls  (r : Bool) (w : World) (h : fourinhandlaw02_awake.f  = some r) :
    Calls Try.prog 9 #[] w fun e w' => e = .returned (.bool r) ∧ Drawn0 w w' := by
  have H : ((seqno_Unwrap.f 4294967296 5).bind fun t102 => (if t102 = 4294967301 then ((seqno_Unwrap.f 3 5).bind fun t103 => (if t103 = 5 then ((seqno_Less.f 4294967295 0).bind fun t104 => (if t104 = true then ((seqno_Low.f (-1)).bind fun t105 => (some (t105 == 4294967295))) else (some false))) else (some false))) else (some false))) = some r := h
  clear h
  replace H := Option.bind_eq_some_iff.mp H
  obtain ⟨t102, A10, H⟩ := H
  replace H : (if t102 = 4294967301 then ((seqno_Unwrap.f 3 5).bind fun t103 => (if t103 = 5 then ((seqno_Less.f 4294967295 0).bind fun t104 => (if t104 = true then ((seqno_Low.f (-1)).bind fun t105 => (some (t105 == 4294967295))) else (some false))) else (some false))) else (some false)) = some r := H
  have A1 := Aside0.mk A10
  clear A10
  by_cases c2 : t102 = 4294967301
  · rw [if_pos c2] at H
    have c2b0 : (t102 == 4294967301) = true := beq_iff_eq.mpr c2
    have c2b1 : (t102 != 4294967301) = false := bne_eq_false_iff_eq.mpr c2
    clear c2
    replace H := Option.bind_eq_some_iff.mp H
    obtain ⟨t103, A30, H⟩ := H
    replace H : (if t103 = 5 then ((seqno_Less.f 4294967295 0).bind fun t104 => (if t104 = true then ((seqno_Low.f (-1)).bind fun t105 => (some (t105 == 4294967295))) else (some false))) else (some false)) = some r := H
    have A3 := Aside0.mk A30
    clear A30
    by_cases c4 : t103 = 5
    · rw [if_pos c4] at H
      have c4b0 : (t103 == 5) = true := beq_iff_eq.mpr c4
      have c4b1 : (t103 != 5) = false := bne_eq_false_iff_eq.mpr c4
      clear c4
      replace H := Option.bind_eq_some_iff.mp H
      obtain ⟨t104, A50, H⟩ := H
      replace H : (if t104 = true then ((seqno_Low.f (-1)).bind fun t105 => (some (t105 == 4294967295))) else (some false)) = some r := H
      have A5 := Aside0.mk A50
      clear A50
      by_cases c6 : t104 = true
      · subst c6
        have H1 : ((seqno_Low.f (-1)).bind fun t105 => (some (t105 == 4294967295))) = some r := by rw [if_pos rfl] at H; exact H
        clear H
        have H := H1
        clear H1
        replace H := Option.bind_eq_some_iff.mp H
        obtain ⟨t105, A70, H⟩ := H
        replace H : (some (t105 == 4294967295)) = some r := H
        have A7 := Aside0.mk A70
        clear A70
        obtain rfl := Option.some.inj H
        go_enter Try.func9, Try.ntmps9
        go_wp2_with (first | ((with_reducible refine gate_callee (f := 16) rfl ?_); refine goesL_ (some 1) rfl rfl Try.func16 (by kernel_rfl) rfl #[.int .i64 4294967296, .int .u32 5] rfl (by (try simp only [List.map_toArray, List.map_cons, List.map_nil]); first | done | rfl | (simp only [List.length_drop, List.length_take]; rfl)) ?_; (with_reducible refine (seqno_Unwrap.calls 4294967296 5 t102 _ A1.out).mono ?_); rintro e w' ⟨rfl, ⟨nd, rfl⟩⟩; refine ⟨_, rfl, ?_⟩) | (go_at_call 16; (with_reducible refine (seqno_Unwrap.calls 3 5 t103 _ A3.out).mono ?_); rintro e w' ⟨rfl, ⟨nd, rfl⟩⟩) | (go_at_call 12; (with_reducible refine (seqno_Less.calls 4294967295 0 true _ A5.out).mono ?_); rintro e w' ⟨rfl, ⟨nd, rfl⟩⟩) | (go_at_call 10; (with_reducible refine (seqno_Low.calls (-1) t105 _ A7.out).mono ?_); rintro e w' ⟨rfl, ⟨nd, rfl⟩⟩))
        go_ret
        exact ⟨by first | rfl | (simp; done) | (simp [*]; done), by repeat (first | exact Drawn0.refl _ | apply Drawn0.step)⟩
      · replace c6 := Bool.eq_false_iff.mpr c6
        subst c6
        have H1 : (some false) = some r := by rw [if_neg (show ¬ (false = true) by decide)] at H; exact H
        clear H
        have H := H1
        clear H1
        obtain rfl := Option.some.inj H
        go_enter Try.func9, Try.ntmps9
        go_wp2_with (first | ((with_reducible refine gate_callee (f := 16) rfl ?_); refine goesL_ (some 1) rfl rfl Try.func16 (by kernel_rfl) rfl #[.int .i64 4294967296, .int .u32 5] rfl (by (try simp only [List.map_toArray, List.map_cons, List.map_nil]); first | done | rfl | (simp only [List.length_drop, List.length_take]; rfl)) ?_; (with_reducible refine (seqno_Unwrap.calls 4294967296 5 t102 _ A1.out).mono ?_); rintro e w' ⟨rfl, ⟨nd, rfl⟩⟩; refine ⟨_, rfl, ?_⟩) | (go_at_call 16; (with_reducible refine (seqno_Unwrap.calls 3 5 t103 _ A3.out).mono ?_); rintro e w' ⟨rfl, ⟨nd, rfl⟩⟩) | (go_at_call 12; (with_reducible refine (seqno_Less.calls 4294967295 0 false _ A5.out).mono ?_); rintro e w' ⟨rfl, ⟨nd, rfl⟩⟩))
        go_ret
        exact ⟨by first | rfl | (simp; done) | (simp [*]; done), by repeat (first | exact Drawn0.refl _ | apply Drawn0.step)⟩
    · rw [if_neg c4] at H
      have c4b0 : (t103 == 5) = false := beq_eq_false_iff_ne.mpr c4
      have c4b1 : (t103 != 5) = true := bne_iff_ne.mpr c4
      obtain rfl := Option.some.inj H
      go_enter Try.func9, Try.ntmps9
      go_wp2_with (first | ((with_reducible refine gate_callee (f := 16) rfl ?_); refine goesL_ (some 1) rfl rfl Try.func16 (by kernel_rfl) rfl #[.int .i64 4294967296, .int .u32 5] rfl (by (try simp only [List.map_toArray, List.map_cons, List.map_nil]); first | done | rfl | (simp only [List.length_drop, List.length_take]; rfl)) ?_; (with_reducible refine (seqno_Unwrap.calls 4294967296 5 t102 _ A1.out).mono ?_); rintro e w' ⟨rfl, ⟨nd, rfl⟩⟩; refine ⟨_, rfl, ?_⟩) | (go_at_call 16; (with_reducible refine (seqno_Unwrap.calls 3 5 t103 _ A3.out).mono ?_); rintro e w' ⟨rfl, ⟨nd, rfl⟩⟩))
      go_ret
      exact ⟨by first | rfl | (simp; done) | (simp [*]; done), by repeat (first | exact Drawn0.refl _ | apply Drawn0.step)⟩
  · rw [if_neg c2] at H
    have c2b0 : (t102 == 4294967301) = false := beq_eq_false_iff_ne.mpr c2
    have c2b1 : (t102 != 4294967301) = true := bne_iff_ne.mpr c2
    obtain rfl := Option.some.inj H
    go_enter Try.func9, Try.ntmps9
    go_wp2_with (first | ((with_reducible refine gate_callee (f := 16) rfl ?_); refine goesL_ (some 1) rfl rfl Try.func16 (by kernel_rfl) rfl #[.int .i64 4294967296, .int .u32 5] rfl (by (try simp only [List.map_toArray, List.map_cons, List.map_nil]); first | done | rfl | (simp only [List.length_drop, List.length_take]; rfl)) ?_; (with_reducible refine (seqno_Unwrap.calls 4294967296 5 t102 _ A1.out).mono ?_); rintro e w' ⟨rfl, ⟨nd, rfl⟩⟩; refine ⟨_, rfl, ?_⟩))
    go_ret
    exact ⟨by first | rfl | (simp; done) | (simp [*]; done), by repeat (first | exact Drawn0.refl _ | apply Drawn0.step)⟩

/-! ### fourinhandref02_Low: function 11 -/
def fourinhandref02_Low.f (a0 : Int) : Option (Int) := if (Int.tmod a0 4294967296) < 0 then (some ((wrap64 ((Int.tmod a0 4294967296) + 4294967296)) % 4294967296)) else (some ((Int.tmod a0 4294967296) % 4294967296))
set_option maxHeartbeats 8000000 in
set_option maxRecDepth 100000 in
theorem fourinhandref02_Low.calls (a0 : Int) (r : Int) (w : World) (h : fourinhandref02_Low.f a0 = some r) :
    Calls Try.prog 11 #[.int .i64 a0] w fun e w' => e = .returned (.int .u32 r) ∧ Drawn0 w w' := by
  have H : (if (Int.tmod a0 4294967296) < 0 then (some ((wrap64 ((Int.tmod a0 4294967296) + 4294967296)) % 4294967296)) else (some ((Int.tmod a0 4294967296) % 4294967296))) = some r := h
  clear h
  by_cases c2 : (Int.tmod a0 4294967296) < 0
  · rw [if_pos c2] at H
    have c2b0 : decide ((Int.tmod a0 4294967296) < 0) = true := decide_eq_true c2
    clear c2
    obtain rfl := Option.some.inj H
    go_enter Try.func11, Try.ntmps11
    go_wp2
    go_ret
    exact ⟨by first | rfl | (simp; done) | (simp [*]; done), by repeat (first | exact Drawn0.refl _ | apply Drawn0.step)⟩
  · rw [if_neg c2] at H
    have c2b0 : decide ((Int.tmod a0 4294967296) < 0) = false := decide_eq_false c2
    clear c2
    obtain rfl := Option.some.inj H
    go_enter Try.func11, Try.ntmps11
    go_wp2
    go_ret
    exact ⟨by first | rfl | (simp; done) | (simp [*]; done), by repeat (first | exact Drawn0.refl _ | apply Drawn0.step)⟩

/-! ### fourinhandref02_Upto: function 15 -/
def fourinhandref02_Upto.f (a0 : Int) (a1 : Int) : Option (Int) := if (wrap64 ((wrap64 (a1)) - (wrap64 (a0)))) < 0 then (some (wrap64 ((wrap64 ((wrap64 (a1)) - (wrap64 (a0)))) + 4294967296))) else (some (wrap64 ((wrap64 (a1)) - (wrap64 (a0)))))
set_option maxHeartbeats 8000000 in
set_option maxRecDepth 100000 in
theorem fourinhandref02_Upto.calls (a0 : Int) (a1 : Int) (r : Int) (w : World) (h : fourinhandref02_Upto.f a0 a1 = some r) :
    Calls Try.prog 15 #[.int .u32 a0, .int .u32 a1] w fun e w' => e = .returned (.int .i64 r) ∧ Drawn0 w w' := by
  have H : (if (wrap64 ((wrap64 (a1)) - (wrap64 (a0)))) < 0 then (some (wrap64 ((wrap64 ((wrap64 (a1)) - (wrap64 (a0)))) + 4294967296))) else (some (wrap64 ((wrap64 (a1)) - (wrap64 (a0)))))) = some r := h
  clear h
  by_cases c3 : (wrap64 ((wrap64 (a1)) - (wrap64 (a0)))) < 0
  · rw [if_pos c3] at H
    have c3b0 : decide ((wrap64 ((wrap64 (a1)) - (wrap64 (a0)))) < 0) = true := decide_eq_true c3
    clear c3
    obtain rfl := Option.some.inj H
    go_enter Try.func15, Try.ntmps15
    go_wp2
    go_ret
    exact ⟨by first | rfl | (simp; done) | (simp [*]; done), by repeat (first | exact Drawn0.refl _ | apply Drawn0.step)⟩
  · rw [if_neg c3] at H
    have c3b0 : decide ((wrap64 ((wrap64 (a1)) - (wrap64 (a0)))) < 0) = false := decide_eq_false c3
    clear c3
    obtain rfl := Option.some.inj H
    go_enter Try.func15, Try.ntmps15
    go_wp2
    go_ret
    exact ⟨by first | rfl | (simp; done) | (simp [*]; done), by repeat (first | exact Drawn0.refl _ | apply Drawn0.step)⟩

/-! ### fourinhandref02_Less: function 13 -/
def fourinhandref02_Less.f (a0 : Int) (a1 : Int) : Option (Bool) := (fourinhandref02_Upto.f a0 a1).bind fun t106 => (if t106 ≥ 1 then ((fourinhandref02_Upto.f a0 a1).bind fun t107 => (some (decide (t107 ≤ 2147483647)))) else (some false))
set_option maxHeartbeats 8000000 in
set_option maxRecDepth 100000 in
theorem fourinhandref02_Less.calls (a0 : Int) (a1 : Int) (r : Bool) (w : World) (h : fourinhandref02_Less.f a0 a1 = some r) :
    Calls Try.prog 13 #[.int .u32 a0, .int .u32 a1] w fun e w' => e = .returned (.bool r) ∧ Drawn0 w w' := by
  have H : ((fourinhandref02_Upto.f a0 a1).bind fun t106 => (if t106 ≥ 1 then ((fourinhandref02_Upto.f a0 a1).bind fun t107 => (some (decide (t107 ≤ 2147483647)))) else (some false))) = some r := h
  clear h
  replace H := Option.bind_eq_some_iff.mp H
  obtain ⟨t106, A30, H⟩ := H
  replace H : (if t106 ≥ 1 then ((fourinhandref02_Upto.f a0 a1).bind fun t107 => (some (decide (t107 ≤ 2147483647)))) else (some false)) = some r := H
  have A3 := Aside0.mk A30
  clear A30
  by_cases c4 : t106 ≥ 1
  · rw [if_pos c4] at H
    have c4b0 : decide (1 ≤ t106) = true := decide_eq_true c4
    clear c4
    replace H := Option.bind_eq_some_iff.mp H
    obtain ⟨t107, A50, H⟩ := H
    replace H : (some (decide (t107 ≤ 2147483647))) = some r := H
    have A5 := Aside0.mk A50
    clear A50
    obtain rfl := Option.some.inj H
    go_enter Try.func13, Try.ntmps13
    go_wp2_with (first | ((with_reducible refine gate_callee (f := 15) rfl ?_); refine goesL_ (some 7) rfl rfl Try.func15 (by kernel_rfl) rfl #[.int .u32 a0, .int .u32 a1] rfl (by (try simp only [List.map_toArray, List.map_cons, List.map_nil]); first | done | rfl | (simp only [List.length_drop, List.length_take]; rfl)) ?_; (with_reducible refine (fourinhandref02_Upto.calls a0 a1 t106 _ A3.out).mono ?_); rintro e w' ⟨rfl, ⟨nd, rfl⟩⟩; refine ⟨_, rfl, ?_⟩) | (go_at_call 15; (with_reducible refine (fourinhandref02_Upto.calls a0 a1 t107 _ A5.out).mono ?_); rintro e w' ⟨rfl, ⟨nd, rfl⟩⟩))
    go_ret
    exact ⟨by first | rfl | (simp; done) | (simp [*]; done), by repeat (first | exact Drawn0.refl _ | apply Drawn0.step)⟩
  · rw [if_neg c4] at H
    have c4b0 : decide (1 ≤ t106) = false := decide_eq_false c4
    clear c4
    obtain rfl := Option.some.inj H
    go_enter Try.func13, Try.ntmps13
    go_wp2_with (first | ((with_reducible refine gate_callee (f := 15) rfl ?_); refine goesL_ (some 7) rfl rfl Try.func15 (by kernel_rfl) rfl #[.int .u32 a0, .int .u32 a1] rfl (by (try simp only [List.map_toArray, List.map_cons, List.map_nil]); first | done | rfl | (simp only [List.length_drop, List.length_take]; rfl)) ?_; (with_reducible refine (fourinhandref02_Upto.calls a0 a1 t106 _ A3.out).mono ?_); rintro e w' ⟨rfl, ⟨nd, rfl⟩⟩; refine ⟨_, rfl, ?_⟩))
    go_ret
    exact ⟨by first | rfl | (simp; done) | (simp [*]; done), by repeat (first | exact Drawn0.refl _ | apply Drawn0.step)⟩

/-! ### fourinhandref02_far: function 18 -/
def fourinhandref02_far.f (a0 : Int) (a1 : Int) : Option (Int) := if a0 < a1 then (some (wrap64 (a1 - a0))) else (some (wrap64 (a0 - a1)))
set_option maxHeartbeats 8000000 in
set_option maxRecDepth 100000 in
theorem fourinhandref02_far.calls (a0 : Int) (a1 : Int) (r : Int) (w : World) (h : fourinhandref02_far.f a0 a1 = some r) :
    Calls Try.prog 18 #[.int .i64 a0, .int .i64 a1] w fun e w' => e = .returned (.int .i64 r) ∧ Drawn0 w w' := by
  have H : (if a0 < a1 then (some (wrap64 (a1 - a0))) else (some (wrap64 (a0 - a1)))) = some r := h
  clear h
  by_cases c3 : a0 < a1
  · rw [if_pos c3] at H
    have c3b0 : decide (a0 < a1) = true := decide_eq_true c3
    clear c3
    obtain rfl := Option.some.inj H
    go_enter Try.func18, Try.ntmps18
    go_wp2
    go_ret
    exact ⟨by first | rfl | (simp; done) | (simp [*]; done), by repeat (first | exact Drawn0.refl _ | apply Drawn0.step)⟩
  · rw [if_neg c3] at H
    have c3b0 : decide (a0 < a1) = false := decide_eq_false c3
    clear c3
    obtain rfl := Option.some.inj H
    go_enter Try.func18, Try.ntmps18
    go_wp2
    go_ret
    exact ⟨by first | rfl | (simp; done) | (simp [*]; done), by repeat (first | exact Drawn0.refl _ | apply Drawn0.step)⟩

/-! ### fourinhandref02_Unwrap: function 17 -/
mutual
def fourinhandref02_Unwrap.j0 : Nat → Int → Int → Option (Int)
  | 0, _, _ => none
  | k + 1, x0, x1 => if x0 > 4611686018427387904 then (fourinhandref02_Unwrap.j1 k 4611686018427387904 x1) else (fourinhandref02_Unwrap.j1 k x0 x1)
def fourinhandref02_Unwrap.j1 : Nat → Int → Int → Option (Int)
  | 0, _, _ => none
  | k + 1, x0, x1 => fourinhandref02_Unwrap.l0 k x0 x1 (wrap64 (Int.tdiv x0 4294967296)) (-1) (wrap64 ((wrap64 (Int.tdiv x0 4294967296)) - 1))
def fourinhandref02_Unwrap.l0 : Nat → Int → Int → Int → Int → Int → Option (Int)
  | 0, _, _, _, _, _ => none
  | k + 1, x0, x1, x5, x6, x7 => if x7 ≤ (wrap64 (x5 + 1)) then (if x7 ≥ 0 then (if x6 < 0 then (fourinhandref02_Unwrap.l0 k x0 x1 x5 (wrap64 ((wrap64 (4294967296 * x7)) + (wrap64 (x1)))) (wrap64 (x7 + 1))) else ((fourinhandref02_far.f (wrap64 ((wrap64 (4294967296 * x7)) + (wrap64 (x1)))) x0).bind fun t108 => ((fourinhandref02_far.f x6 x0).bind fun t109 => (if t108 < t109 then (fourinhandref02_Unwrap.l0 k x0 x1 x5 (wrap64 ((wrap64 (4294967296 * x7)) + (wrap64 (x1)))) (wrap64 (x7 + 1))) else (fourinhandref02_Unwrap.l0 k x0 x1 x5 x6 (wrap64 (x7 + 1))))))) else (fourinhandref02_Unwrap.l0 k x0 x1 x5 x6 (wrap64 (x7 + 1)))) else (some x6)
end
def fourinhandref02_Unwrap.f (k : Nat) (a0 : Int) (a1 : Int) : Option (Int) := if a0 < 0 then (fourinhandref02_Unwrap.j0 k 0 a1) else (fourinhandref02_Unwrap.j0 k a0 a1)
theorem fourinhandref02_Unwrap.mono_l : ∀ k, (∀ y0 y1, LeO (fourinhandref02_Unwrap.j0 k y0 y1) (fourinhandref02_Unwrap.j0 (k + 1) y0 y1)) ∧ (∀ y0 y1, LeO (fourinhandref02_Unwrap.j1 k y0 y1) (fourinhandref02_Unwrap.j1 (k + 1) y0 y1)) ∧ (∀ y0 y1 y2 y3 y4, LeO (fourinhandref02_Unwrap.l0 k y0 y1 y2 y3 y4) (fourinhandref02_Unwrap.l0 (k + 1) y0 y1 y2 y3 y4))
  | 0 => ⟨fun _ _ r h => by simp [fourinhandref02_Unwrap.j0] at h, fun _ _ r h => by simp [fourinhandref02_Unwrap.j1] at h, fun _ _ _ _ _ r h => by simp [fourinhandref02_Unwrap.l0] at h⟩
  | k + 1 => by
    obtain ⟨ih0, ih1, ih2⟩ := fourinhandref02_Unwrap.mono_l k
    refine ⟨?_, ?_, ?_⟩
    · intro y0 y1
      unfold fourinhandref02_Unwrap.j0
      repeat' first
      | (with_reducible exact ih0 _ _)
      | (with_reducible exact ih1 _ _)
      | (with_reducible exact ih2 _ _ _ _ _)
      | (with_reducible exact LeO.refl _)
      | (with_reducible exact LeO.none _)
      | (with_reducible refine LeO.ite ?_ ?_)
      | (with_reducible refine LeO.bind ?_ (fun _ => ?_))
      | exact ih0 _ _
      | exact ih1 _ _
      | exact ih2 _ _ _ _ _
      | exact LeO.none _
      | refine LeO.ite ?_ ?_
      | refine LeO.bind ?_ (fun _ => ?_)
    · intro y0 y1
      unfold fourinhandref02_Unwrap.j1
      repeat' first
      | (with_reducible exact ih0 _ _)
      | (with_reducible exact ih1 _ _)
      | (with_reducible exact ih2 _ _ _ _ _)
      | (with_reducible exact LeO.refl _)
      | (with_reducible exact LeO.none _)
      | (with_reducible refine LeO.ite ?_ ?_)
      | (with_reducible refine LeO.bind ?_ (fun _ => ?_))
      | exact ih0 _ _
      | exact ih1 _ _
      | exact ih2 _ _ _ _ _
      | exact LeO.none _
      | refine LeO.ite ?_ ?_
      | refine LeO.bind ?_ (fun _ => ?_)
    · intro y0 y1 y2 y3 y4
      unfold fourinhandref02_Unwrap.l0
      repeat' first
      | (with_reducible exact ih0 _ _)
      | (with_reducible exact ih1 _ _)
      | (with_reducible exact ih2 _ _ _ _ _)
      | (with_reducible exact LeO.refl _)
      | (with_reducible exact LeO.none _)
      | (with_reducible refine LeO.ite ?_ ?_)
      | (with_reducible refine LeO.bind ?_ (fun _ => ?_))
      | exact ih0 _ _
      | exact ih1 _ _
      | exact ih2 _ _ _ _ _
      | exact LeO.none _
      | refine LeO.ite ?_ ?_
      | refine LeO.bind ?_ (fun _ => ?_)
theorem fourinhandref02_Unwrap.mono : ∀ a0 a1 k, LeO (fourinhandref02_Unwrap.f k a0 a1) (fourinhandref02_Unwrap.f (k + 1) a0 a1) := by
  intro a0 a1 k
  obtain ⟨ih0, ih1, ih2⟩ := fourinhandref02_Unwrap.mono_l k
  unfold fourinhandref02_Unwrap.f
  repeat' first
      | (with_reducible exact ih0 _ _)
      | (with_reducible exact ih1 _ _)
      | (with_reducible exact ih2 _ _ _ _ _)
      | (with_reducible exact LeO.refl _)
      | (with_reducible exact LeO.none _)
      | (with_reducible refine LeO.ite ?_ ?_)
      | (with_reducible refine LeO.bind ?_ (fun _ => ?_))
      | exact ih0 _ _
      | exact ih1 _ _
      | exact ih2 _ _ _ _ _
      | exact LeO.none _
      | refine LeO.ite ?_ ?_
      | refine LeO.bind ?_ (fun _ => ?_)
set_option maxHeartbeats 8000000 in
set_option maxRecDepth 100000 in
theorem fourinhandref02_Unwrap.calls (k : Nat) (a0 : Int) (a1 : Int) (r : Int) (w : World) (h : fourinhandref02_Unwrap.f k a0 a1 = some r) :
    Calls Try.prog 17 #[.int .i64 a0, .int .u32 a1] w fun e w' => e = .returned (.int .i64 r) ∧ Drawn0 w w' := by
  have H : (if a0 < 0 then (fourinhandref02_Unwrap.j0 k 0 a1) else (fourinhandref02_Unwrap.j0 k a0 a1)) = some r := h
  clear h
  have HC3 := Aside0.mk H
  clear H
  go_enter Try.func17, Try.ntmps17
  go_upto_if 10 with (fail)
  go_cut [0] (fun v0 wc => ∃ (kq : Nat) (x0_2 : Int), v0 = .int .i64 x0_2 ∧ Aside0 (fourinhandref02_Unwrap.j0 kq x0_2 a1 = some r) ∧ Aside0 (kq ≤ k) ∧ Drawn0 w wc)
  case first =>
    have H := HC3.out
    clear HC3
    by_cases c4 : a0 < 0
    · rw [if_pos c4] at H
      have c4b0 : decide (a0 < 0) = true := decide_eq_true c4
      clear c4
      (first | rw [c4b0] | (simp only [i64_w, i32_w]; rw [c4b0]) | skip)
      have H' := Aside0.mk H
      clear H
      go_wp2
      go_meet
      case rel => exact ⟨_, (0), (by first | rfl | (simp; done) | (simp [*]; done)), H', ⟨by first | omega | exact Nat.le_refl _⟩, by repeat (first | exact Drawn0.refl _ | apply Drawn0.step)⟩
    · rw [if_neg c4] at H
      have c4b0 : decide (a0 < 0) = false := decide_eq_false c4
      clear c4
      (first | rw [c4b0] | (simp only [i64_w, i32_w]; rw [c4b0]) | skip)
      have H' := Aside0.mk H
      clear H
      go_wp2
      go_meet
      case rel => exact ⟨_, (a0), (by first | rfl | (simp; done) | (simp [*]; done)), H', ⟨by first | omega | exact Nat.le_refl _⟩, by repeat (first | exact Drawn0.refl _ | apply Drawn0.step)⟩
  case rest =>
    clear HC3
    try clear c1
    try clear p2
    try clear c4
    try clear c4b0
    obtain ⟨kq, x0_2, rfl, HA, HJ2, ⟨mc2, rfl⟩⟩ := hcut
    cases kq with
    | zero => exact absurd HA.out (by simp [fourinhandref02_Unwrap.j0])
    | succ kj2 =>
      have H := HA.out
      clear HA
      simp only [fourinhandref02_Unwrap.j0] at H
      have HC5 := Aside0.mk H
      clear H
      go_upto_if 12 with (fail)
      go_cut [0] (fun v0 wc => ∃ (kq : Nat) (x0_4 : Int), v0 = .int .i64 x0_4 ∧ Aside0 (fourinhandref02_Unwrap.j1 kq x0_4 a1 = some r) ∧ Aside0 (kq ≤ kj2) ∧ Drawn0 w wc)
      case first =>
        have H := HC5.out
        clear HC5
        by_cases c6 : x0_2 > 4611686018427387904
        · rw [if_pos c6] at H
          have c6b0 : decide (4611686018427387904 < x0_2) = true := decide_eq_true c6
          clear c6
          (first | rw [c6b0] | (simp only [i64_w, i32_w]; rw [c6b0]) | skip)
          have H' := Aside0.mk H
          clear H
          go_wp2
          go_meet
          case rel => exact ⟨_, (4611686018427387904), (by first | rfl | (simp; done) | (simp [*]; done)), H', ⟨by have := HJ2.out; first | omega | exact Nat.le_refl _⟩, by repeat (first | exact Drawn0.refl _ | apply Drawn0.step)⟩
        · rw [if_neg c6] at H
          have c6b0 : decide (4611686018427387904 < x0_2) = false := decide_eq_false c6
          clear c6
          (first | rw [c6b0] | (simp only [i64_w, i32_w]; rw [c6b0]) | skip)
          have H' := Aside0.mk H
          clear H
          go_wp2
          go_meet
          case rel => exact ⟨_, (x0_2), (by first | rfl | (simp; done) | (simp [*]; done)), H', ⟨by have := HJ2.out; first | omega | exact Nat.le_refl _⟩, by repeat (first | exact Drawn0.refl _ | apply Drawn0.step)⟩
      case rest =>
        clear HC5
        try clear c1
        try clear c2
        try clear p2
        try clear c4
        try clear c4b0
        try clear c6
        try clear c6b0
        try clear p2
        obtain ⟨kq, x0_4, rfl, HA, HJ4, ⟨mc4, rfl⟩⟩ := hcut
        cases kq with
        | zero => exact absurd HA.out (by simp [fourinhandref02_Unwrap.j1])
        | succ kj4 =>
          have H := HA.out
          clear HA
          simp only [fourinhandref02_Unwrap.j1] at H
          have H' := Aside0.mk H
          clear H
          go_wp2
          go_loopg [6, 7] kj4 (fun kq v6 v7 w' => ∃ (x6_3 : Int) (x7_3 : Int), v6 = .int .i64 x6_3 ∧ v7 = .int .i64 x7_3 ∧ Aside0 (fourinhandref02_Unwrap.l0 kq x0_4 a1 (wrap64 (Int.tdiv x0_4 4294967296)) x6_3 x7_3 = some r) ∧ Aside0 (kq ≤ kj4) ∧ Drawn0 w w')
          case atStart => exact ⟨((-1)), (wrap64 ((wrap64 (Int.tdiv x0_4 4294967296)) - 1)), (by first | rfl | (simp; done) | (simp [*]; done)), (by first | rfl | (simp; done) | (simp [*]; done)), H', ⟨Nat.le_refl _⟩, by repeat (first | exact Drawn0.refl _ | apply Drawn0.step)⟩
          case round =>
            clear H'
            try clear c1
            try clear c2
            try clear p2
            try clear c4
            try clear c4b0
            try clear c6
            try clear c6b0
            try clear p6
            try clear p2
            obtain ⟨x6_3, x7_3, rfl, rfl, HA, HK3, ⟨m3, rfl⟩⟩ := hrel
            cases gk with
            | zero => exact absurd HA.out (by simp [fourinhandref02_Unwrap.l0])
            | succ k3 =>
              have H := HA.out
              clear HA
              simp only [fourinhandref02_Unwrap.l0] at H
              by_cases c7 : x7_3 ≤ (wrap64 ((wrap64 (Int.tdiv x0_4 4294967296)) + 1))
              · rw [if_pos c7] at H
                have c7b0 : decide (x7_3 ≤ (wrap64 ((wrap64 (Int.tdiv x0_4 4294967296)) + 1))) = true := decide_eq_true c7
                clear c7
                by_cases c8 : x7_3 ≥ 0
                · rw [if_pos c8] at H
                  have c8b0 : decide (0 ≤ x7_3) = true := decide_eq_true c8
                  clear c8
                  by_cases c9 : x6_3 < 0
                  · rw [if_pos c9] at H
                    have c9b0 : decide (x6_3 < 0) = true := decide_eq_true c9
                    clear c9
                    have H' := Aside0.mk H
                    clear H
                    go_wp2
                    go_roundg k3
                    case measure => have := HJ2.out; have := HJ4.out; have := HK3.out; omega
                    case rel => exact ⟨(wrap64 ((wrap64 (4294967296 * x7_3)) + (wrap64 (a1)))), (wrap64 (x7_3 + 1)), (by first | rfl | (simp; done) | (simp [*]; done)), (by first | rfl | (simp; done) | (simp [*]; done)), H', ⟨by have := HJ2.out; have := HJ4.out; have := HK3.out; omega⟩, by repeat (first | exact Drawn0.refl _ | apply Drawn0.step)⟩
                  · rw [if_neg c9] at H
                    have c9b0 : decide (x6_3 < 0) = false := decide_eq_false c9
                    clear c9
                    replace H := Option.bind_eq_some_iff.mp H
                    obtain ⟨t108, A100, H⟩ := H
                    replace H : ((fourinhandref02_far.f x6_3 x0_4).bind fun t109 => (if t108 < t109 then (fourinhandref02_Unwrap.l0 k3 x0_4 a1 (wrap64 (Int.tdiv x0_4 4294967296)) (wrap64 ((wrap64 (4294967296 * x7_3)) + (wrap64 (a1)))) (wrap64 (x7_3 + 1))) else (fourinhandref02_Unwrap.l0 k3 x0_4 a1 (wrap64 (Int.tdiv x0_4 4294967296)) x6_3 (wrap64 (x7_3 + 1))))) = some r := H
                    have A10 := Aside0.mk A100
                    clear A100
                    replace H := Option.bind_eq_some_iff.mp H
                    obtain ⟨t109, A110, H⟩ := H
                    replace H : (if t108 < t109 then (fourinhandref02_Unwrap.l0 k3 x0_4 a1 (wrap64 (Int.tdiv x0_4 4294967296)) (wrap64 ((wrap64 (4294967296 * x7_3)) + (wrap64 (a1)))) (wrap64 (x7_3 + 1))) else (fourinhandref02_Unwrap.l0 k3 x0_4 a1 (wrap64 (Int.tdiv x0_4 4294967296)) x6_3 (wrap64 (x7_3 + 1)))) = some r := H
                    have A11 := Aside0.mk A110
                    clear A110
                    by_cases c12 : t108 < t109
                    · rw [if_pos c12] at H
                      have c12b0 : decide (t108 < t109) = true := decide_eq_true c12
                      clear c12
                      have H' := Aside0.mk H
                      clear H
                      go_wp2_with (first | (go_at_call 18; (with_reducible refine (fourinhandref02_far.calls (wrap64 ((wrap64 (4294967296 * x7_3)) + (wrap64 (a1)))) x0_4 t108 _ A10.out).mono ?_); rintro e w' ⟨rfl, ⟨nd, rfl⟩⟩) | (go_at_call 18; (with_reducible refine (fourinhandref02_far.calls x6_3 x0_4 t109 _ A11.out).mono ?_); rintro e w' ⟨rfl, ⟨nd, rfl⟩⟩))
                      go_roundg k3
                      case measure => have := HJ2.out; have := HJ4.out; have := HK3.out; omega
                      case rel => exact ⟨(wrap64 ((wrap64 (4294967296 * x7_3)) + (wrap64 (a1)))), (wrap64 (x7_3 + 1)), (by first | rfl | (simp; done) | (simp [*]; done)), (by first | rfl | (simp; done) | (simp [*]; done)), H', ⟨by have := HJ2.out; have := HJ4.out; have := HK3.out; omega⟩, by repeat (first | exact Drawn0.refl _ | apply Drawn0.step)⟩
                    · rw [if_neg c12] at H
                      have c12b0 : decide (t108 < t109) = false := decide_eq_false c12
                      clear c12
                      have H' := Aside0.mk H
                      clear H
                      go_wp2_with (first | (go_at_call 18; (with_reducible refine (fourinhandref02_far.calls (wrap64 ((wrap64 (4294967296 * x7_3)) + (wrap64 (a1)))) x0_4 t108 _ A10.out).mono ?_); rintro e w' ⟨rfl, ⟨nd, rfl⟩⟩) | (go_at_call 18; (with_reducible refine (fourinhandref02_far.calls x6_3 x0_4 t109 _ A11.out).mono ?_); rintro e w' ⟨rfl, ⟨nd, rfl⟩⟩))
                      go_roundg k3
                      case measure => have := HJ2.out; have := HJ4.out; have := HK3.out; omega
                      case rel => exact ⟨(x6_3), (wrap64 (x7_3 + 1)), (by first | rfl | (simp; done) | (simp [*]; done)), (by first | rfl | (simp; done) | (simp [*]; done)), H', ⟨by have := HJ2.out; have := HJ4.out; have := HK3.out; omega⟩, by repeat (first | exact Drawn0.refl _ | apply Drawn0.step)⟩
                · rw [if_neg c8] at H
                  have c8b0 : decide (0 ≤ x7_3) = false := decide_eq_false c8
                  clear c8
                  have H' := Aside0.mk H
                  clear H
                  go_wp2
                  go_roundg k3
                  case measure => have := HJ2.out; have := HJ4.out; have := HK3.out; omega
                  case rel => exact ⟨(x6_3), (wrap64 (x7_3 + 1)), (by first | rfl | (simp; done) | (simp [*]; done)), (by first | rfl | (simp; done) | (simp [*]; done)), H', ⟨by have := HJ2.out; have := HJ4.out; have := HK3.out; omega⟩, by repeat (first | exact Drawn0.refl _ | apply Drawn0.step)⟩
              · rw [if_neg c7] at H
                have c7b0 : decide (x7_3 ≤ (wrap64 ((wrap64 (Int.tdiv x0_4 4294967296)) + 1))) = false := decide_eq_false c7
                clear c7
                obtain rfl := Option.some.inj H
                go_wp2
                go_ret
                exact ⟨by first | rfl | (simp; done) | (simp [*]; done), by repeat (first | exact Drawn0.refl _ | apply Drawn0.step)⟩

/-! ### fourinhandlaw02_SeqnoTells: function 3 -/
def fourinhandlaw02_SeqnoTells.j0 : Nat → Int → Int → Int → Bool → Bool → Option (Bool)
  | 0, _, _, _, _, _ => none
  | k + 1, x0, x2, x3, x9, x10 => if x9 = true then (if x10 = true then ((seqno_Upto.f x2 x3).bind fun t115 => ((fourinhandref02_Upto.f x2 x3).bind fun t116 => (if t115 = t116 then ((seqno_Unwrap.f x0 x2).bind fun t117 => ((fourinhandref02_Unwrap.f k x0 x2).bind fun t118 => (some (t117 == t118)))) else (some false)))) else (some false)) else (some false)
def fourinhandlaw02_SeqnoTells.f (k : Nat) (a0 : Int) (a1 : Int) (a2 : Int) (a3 : Int) : Option (Bool) := (fourinhandlaw02_awake.f).bind fun t110 => ((seqno_Low.f a1).bind fun t111 => ((fourinhandref02_Low.f a1).bind fun t112 => (if t111 = t112 then ((seqno_Less.f a2 a3).bind fun t113 => ((fourinhandref02_Less.f a2 a3).bind fun t114 => (fourinhandlaw02_SeqnoTells.j0 k a0 a2 a3 t110 (t113 == t114)))) else (fourinhandlaw02_SeqnoTells.j0 k a0 a2 a3 t110 false))))
theorem fourinhandlaw02_SeqnoTells.mono_l : ∀ k, (∀ y0 y1 y2 y3 y4, LeO (fourinhandlaw02_SeqnoTells.j0 k y0 y1 y2 y3 y4) (fourinhandlaw02_SeqnoTells.j0 (k + 1) y0 y1 y2 y3 y4))
  | 0 => fun _ _ _ _ _ r h => by simp [fourinhandlaw02_SeqnoTells.j0] at h
  | k + 1 => by
    have ih0 := fourinhandlaw02_SeqnoTells.mono_l k
    · intro y0 y1 y2 y3 y4
      unfold fourinhandlaw02_SeqnoTells.j0
      repeat' first
      | (with_reducible exact ih0 _ _ _ _ _)
      | (with_reducible exact fourinhandref02_Unwrap.mono _ _ _)
      | (with_reducible exact LeO.refl _)
      | (with_reducible exact LeO.none _)
      | (with_reducible refine LeO.ite ?_ ?_)
      | (with_reducible refine LeO.bind ?_ (fun _ => ?_))
      | exact ih0 _ _ _ _ _
      | exact fourinhandref02_Unwrap.mono _ _ _
      | exact LeO.none _
      | refine LeO.ite ?_ ?_
      | refine LeO.bind ?_ (fun _ => ?_)
theorem fourinhandlaw02_SeqnoTells.mono : ∀ a0 a1 a2 a3 k, LeO (fourinhandlaw02_SeqnoTells.f k a0 a1 a2 a3) (fourinhandlaw02_SeqnoTells.f (k + 1) a0 a1 a2 a3) := by
  intro a0 a1 a2 a3 k
  have ih0 := fourinhandlaw02_SeqnoTells.mono_l k
  unfold fourinhandlaw02_SeqnoTells.f
  repeat' first
      | (with_reducible exact ih0 _ _ _ _ _)
      | (with_reducible exact fourinhandref02_Unwrap.mono _ _ _)
      | (with_reducible exact LeO.refl _)
      | (with_reducible exact LeO.none _)
      | (with_reducible refine LeO.ite ?_ ?_)
      | (with_reducible refine LeO.bind ?_ (fun _ => ?_))
      | exact ih0 _ _ _ _ _
      | exact fourinhandref02_Unwrap.mono _ _ _
      | exact LeO.none _
      | refine LeO.ite ?_ ?_
      | refine LeO.bind ?_ (fun _ => ?_)
set_option maxHeartbeats 8000000 in
set_option maxRecDepth 100000 in
theorem fourinhandlaw02_SeqnoTells.calls (k : Nat) (a0 : Int) (a1 : Int) (a2 : Int) (a3 : Int) (r : Bool) (w : World) (h : fourinhandlaw02_SeqnoTells.f k a0 a1 a2 a3 = some r) :
    Calls Try.prog 3 #[.int .i64 a0, .int .i64 a1, .int .u32 a2, .int .u32 a3] w fun e w' => e = .returned (.bool r) ∧ Drawn0 w w' := by
  have H : ((fourinhandlaw02_awake.f).bind fun t110 => ((seqno_Low.f a1).bind fun t111 => ((fourinhandref02_Low.f a1).bind fun t112 => (if t111 = t112 then ((seqno_Less.f a2 a3).bind fun t113 => ((fourinhandref02_Less.f a2 a3).bind fun t114 => (fourinhandlaw02_SeqnoTells.j0 k a0 a2 a3 t110 (t113 == t114)))) else (fourinhandlaw02_SeqnoTells.j0 k a0 a2 a3 t110 false))))) = some r := h
  clear h
  replace H := Option.bind_eq_some_iff.mp H
  obtain ⟨t110, A50, H⟩ := H
  replace H : ((seqno_Low.f a1).bind fun t111 => ((fourinhandref02_Low.f a1).bind fun t112 => (if t111 = t112 then ((seqno_Less.f a2 a3).bind fun t113 => ((fourinhandref02_Less.f a2 a3).bind fun t114 => (fourinhandlaw02_SeqnoTells.j0 k a0 a2 a3 t110 (t113 == t114)))) else (fourinhandlaw02_SeqnoTells.j0 k a0 a2 a3 t110 false)))) = some r := H
  have A5 := Aside0.mk A50
  clear A50
  have HC6 := Aside0.mk H
  clear H
  go_enter Try.func3, Try.ntmps3
  go_upto_region 2 with (first | ((with_reducible refine gate_callee (f := 9) rfl ?_); refine goesL_ (some 11) rfl rfl Try.func9 (by kernel_rfl) rfl #[] rfl (by (try simp only [List.map_toArray, List.map_cons, List.map_nil]); first | done | rfl | (simp only [List.length_drop, List.length_take]; rfl)) ?_; (with_reducible refine (fourinhandlaw02_awake.calls  t110 _ A5.out).mono ?_); rintro e w' ⟨rfl, ⟨nd, rfl⟩⟩; refine ⟨_, rfl, ?_⟩))
  (try simp only [Act.put, List.setIfInBounds_toArray, List.set_cons_zero, List.set_cons_succ])
  go_cut [10] (fun v10 wc => ∃ (kq : Nat) (x10_5 : Bool), v10 = .bool x10_5 ∧ Aside0 (fourinhandlaw02_SeqnoTells.j0 kq a0 a2 a3 t110 x10_5 = some r) ∧ Aside0 (kq ≤ k) ∧ Drawn0 w wc)
  case first =>
    have H := HC6.out
    clear HC6
    replace H := Option.bind_eq_some_iff.mp H
    obtain ⟨t111, A70, H⟩ := H
    replace H : ((fourinhandref02_Low.f a1).bind fun t112 => (if t111 = t112 then ((seqno_Less.f a2 a3).bind fun t113 => ((fourinhandref02_Less.f a2 a3).bind fun t114 => (fourinhandlaw02_SeqnoTells.j0 k a0 a2 a3 t110 (t113 == t114)))) else (fourinhandlaw02_SeqnoTells.j0 k a0 a2 a3 t110 false))) = some r := H
    have A7 := Aside0.mk A70
    clear A70
    replace H := Option.bind_eq_some_iff.mp H
    obtain ⟨t112, A80, H⟩ := H
    replace H : (if t111 = t112 then ((seqno_Less.f a2 a3).bind fun t113 => ((fourinhandref02_Less.f a2 a3).bind fun t114 => (fourinhandlaw02_SeqnoTells.j0 k a0 a2 a3 t110 (t113 == t114)))) else (fourinhandlaw02_SeqnoTells.j0 k a0 a2 a3 t110 false)) = some r := H
    have A8 := Aside0.mk A80
    clear A80
    by_cases c9 : t111 = t112
    · rw [if_pos c9] at H
      have c9b0 : (t111 == t112) = true := beq_iff_eq.mpr c9
      have c9b1 : (t111 != t112) = false := bne_eq_false_iff_eq.mpr c9
      clear c9
      (first | rw [c9b0] | (simp only [i64_w, i32_w]; rw [c9b0]) | skip)
      replace H := Option.bind_eq_some_iff.mp H
      obtain ⟨t113, A100, H⟩ := H
      replace H : ((fourinhandref02_Less.f a2 a3).bind fun t114 => (fourinhandlaw02_SeqnoTells.j0 k a0 a2 a3 t110 (t113 == t114))) = some r := H
      have A10 := Aside0.mk A100
      clear A100
      replace H := Option.bind_eq_some_iff.mp H
      obtain ⟨t114, A110, H⟩ := H
      replace H : (fourinhandlaw02_SeqnoTells.j0 k a0 a2 a3 t110 (t113 == t114)) = some r := H
      have A11 := Aside0.mk A110
      clear A110
      have H' := Aside0.mk H
      clear H
      go_wp2_with (first | ((with_reducible refine gate_callee (f := 10) rfl ?_); refine goesL_ (some 13) rfl rfl Try.func10 (by kernel_rfl) rfl #[.int .i64 a1] rfl (by (try simp only [List.map_toArray, List.map_cons, List.map_nil]); first | done | rfl | (simp only [List.length_drop, List.length_take]; rfl)) ?_; (with_reducible refine (seqno_Low.calls a1 t111 _ A7.out).mono ?_); rintro e w' ⟨rfl, ⟨nd, rfl⟩⟩; refine ⟨_, rfl, ?_⟩) | ((with_reducible refine gate_callee (f := 11) rfl ?_); refine goesL_ (some 15) rfl rfl Try.func11 (by kernel_rfl) rfl #[.int .i64 a1] rfl (by (try simp only [List.map_toArray, List.map_cons, List.map_nil]); first | done | rfl | (simp only [List.length_drop, List.length_take]; rfl)) ?_; (with_reducible refine (fourinhandref02_Low.calls a1 t112 _ A8.out).mono ?_); rintro e w' ⟨rfl, ⟨nd, rfl⟩⟩; refine ⟨_, rfl, ?_⟩) | (go_at_call 12; (with_reducible refine (seqno_Less.calls a2 a3 t113 _ A10.out).mono ?_); rintro e w' ⟨rfl, ⟨nd, rfl⟩⟩) | (go_at_call 13; (with_reducible refine (fourinhandref02_Less.calls a2 a3 t114 _ A11.out).mono ?_); rintro e w' ⟨rfl, ⟨nd, rfl⟩⟩))
      go_meet
      case rel => exact ⟨_, ((t113 == t114)), (by first | rfl | (simp; done) | (simp [*]; done)), H', ⟨by first | omega | exact Nat.le_refl _⟩, by repeat (first | exact Drawn0.refl _ | apply Drawn0.step)⟩
    · rw [if_neg c9] at H
      have c9b0 : (t111 == t112) = false := beq_eq_false_iff_ne.mpr c9
      have c9b1 : (t111 != t112) = true := bne_iff_ne.mpr c9
      (first | rw [c9b0] | (simp only [i64_w, i32_w]; rw [c9b0]) | skip)
      have H' := Aside0.mk H
      clear H
      go_wp2_with (first | ((with_reducible refine gate_callee (f := 10) rfl ?_); refine goesL_ (some 13) rfl rfl Try.func10 (by kernel_rfl) rfl #[.int .i64 a1] rfl (by (try simp only [List.map_toArray, List.map_cons, List.map_nil]); first | done | rfl | (simp only [List.length_drop, List.length_take]; rfl)) ?_; (with_reducible refine (seqno_Low.calls a1 t111 _ A7.out).mono ?_); rintro e w' ⟨rfl, ⟨nd, rfl⟩⟩; refine ⟨_, rfl, ?_⟩) | ((with_reducible refine gate_callee (f := 11) rfl ?_); refine goesL_ (some 15) rfl rfl Try.func11 (by kernel_rfl) rfl #[.int .i64 a1] rfl (by (try simp only [List.map_toArray, List.map_cons, List.map_nil]); first | done | rfl | (simp only [List.length_drop, List.length_take]; rfl)) ?_; (with_reducible refine (fourinhandref02_Low.calls a1 t112 _ A8.out).mono ?_); rintro e w' ⟨rfl, ⟨nd, rfl⟩⟩; refine ⟨_, rfl, ?_⟩))
      go_meet
      case rel => exact ⟨_, (false), (by first | rfl | (simp; done) | (simp [*]; done)), H', ⟨by first | omega | exact Nat.le_refl _⟩, by repeat (first | exact Drawn0.refl _ | apply Drawn0.step)⟩
  case rest =>
    clear HC6
    try clear c1
    try clear p2
    try clear c3
    try clear c9
    try clear c9b0
    try clear c9b1
    try clear c10
    try clear c11
    obtain ⟨kq, x10_5, rfl, HA, HJ5, ⟨mc5, rfl⟩⟩ := hcut
    cases kq with
    | zero => exact absurd HA.out (by simp [fourinhandlaw02_SeqnoTells.j0])
    | succ kj5 =>
      have H := HA.out
      clear HA
      simp only [fourinhandlaw02_SeqnoTells.j0] at H
      by_cases c12 : t110 = true
      · subst c12
        have H1 : (if x10_5 = true then ((seqno_Upto.f a2 a3).bind fun t115 => ((fourinhandref02_Upto.f a2 a3).bind fun t116 => (if t115 = t116 then ((seqno_Unwrap.f a0 a2).bind fun t117 => ((fourinhandref02_Unwrap.f kj5 a0 a2).bind fun t118 => (some (t117 == t118)))) else (some false)))) else (some false)) = some r := by rw [if_pos rfl] at H; exact H
        clear H
        have H := H1
        clear H1
        by_cases c13 : x10_5 = true
        · subst c13
          have H1 : ((seqno_Upto.f a2 a3).bind fun t115 => ((fourinhandref02_Upto.f a2 a3).bind fun t116 => (if t115 = t116 then ((seqno_Unwrap.f a0 a2).bind fun t117 => ((fourinhandref02_Unwrap.f kj5 a0 a2).bind fun t118 => (some (t117 == t118)))) else (some false)))) = some r := by rw [if_pos rfl] at H; exact H
          clear H
          have H := H1
          clear H1
          replace H := Option.bind_eq_some_iff.mp H
          obtain ⟨t115, A140, H⟩ := H
          replace H : ((fourinhandref02_Upto.f a2 a3).bind fun t116 => (if t115 = t116 then ((seqno_Unwrap.f a0 a2).bind fun t117 => ((fourinhandref02_Unwrap.f kj5 a0 a2).bind fun t118 => (some (t117 == t118)))) else (some false))) = some r := H
          have A14 := Aside0.mk A140
          clear A140
          replace H := Option.bind_eq_some_iff.mp H
          obtain ⟨t116, A150, H⟩ := H
          replace H : (if t115 = t116 then ((seqno_Unwrap.f a0 a2).bind fun t117 => ((fourinhandref02_Unwrap.f kj5 a0 a2).bind fun t118 => (some (t117 == t118)))) else (some false)) = some r := H
          have A15 := Aside0.mk A150
          clear A150
          by_cases c16 : t115 = t116
          · rw [if_pos c16] at H
            have c16b0 : (t115 == t116) = true := beq_iff_eq.mpr c16
            have c16b1 : (t115 != t116) = false := bne_eq_false_iff_eq.mpr c16
            clear c16
            replace H := Option.bind_eq_some_iff.mp H
            obtain ⟨t117, A170, H⟩ := H
            replace H : ((fourinhandref02_Unwrap.f kj5 a0 a2).bind fun t118 => (some (t117 == t118))) = some r := H
            have A17 := Aside0.mk A170
            clear A170
            replace H := Option.bind_eq_some_iff.mp H
            obtain ⟨t118, A180, H⟩ := H
            replace H : (some (t117 == t118)) = some r := H
            have A18 := Aside0.mk A180
            clear A180
            obtain rfl := Option.some.inj H
            go_wp2_with (first | (go_at_call 14; (with_reducible refine (seqno_Upto.calls a2 a3 t115 _ A14.out).mono ?_); rintro e w' ⟨rfl, ⟨nd, rfl⟩⟩) | (go_at_call 15; (with_reducible refine (fourinhandref02_Upto.calls a2 a3 t116 _ A15.out).mono ?_); rintro e w' ⟨rfl, ⟨nd, rfl⟩⟩) | (go_at_call 16; (with_reducible refine (seqno_Unwrap.calls a0 a2 t117 _ A17.out).mono ?_); rintro e w' ⟨rfl, ⟨nd, rfl⟩⟩) | (go_at_call 17; (with_reducible refine (fourinhandref02_Unwrap.calls kj5 a0 a2 t118 _ A18.out).mono ?_); rintro e w' ⟨rfl, ⟨nd, rfl⟩⟩))
            go_ret
            exact ⟨by first | rfl | (simp; done) | (simp [*]; done), by repeat (first | exact Drawn0.refl _ | apply Drawn0.step)⟩
          · rw [if_neg c16] at H
            have c16b0 : (t115 == t116) = false := beq_eq_false_iff_ne.mpr c16
            have c16b1 : (t115 != t116) = true := bne_iff_ne.mpr c16
            obtain rfl := Option.some.inj H
            go_wp2_with (first | (go_at_call 14; (with_reducible refine (seqno_Upto.calls a2 a3 t115 _ A14.out).mono ?_); rintro e w' ⟨rfl, ⟨nd, rfl⟩⟩) | (go_at_call 15; (with_reducible refine (fourinhandref02_Upto.calls a2 a3 t116 _ A15.out).mono ?_); rintro e w' ⟨rfl, ⟨nd, rfl⟩⟩))
            go_ret
            exact ⟨by first | rfl | (simp; done) | (simp [*]; done), by repeat (first | exact Drawn0.refl _ | apply Drawn0.step)⟩
        · replace c13 := Bool.eq_false_iff.mpr c13
          subst c13
          have H1 : (some false) = some r := by rw [if_neg (show ¬ (false = true) by decide)] at H; exact H
          clear H
          have H := H1
          clear H1
          obtain rfl := Option.some.inj H
          go_wp2
          go_ret
          exact ⟨by first | rfl | (simp; done) | (simp [*]; done), by repeat (first | exact Drawn0.refl _ | apply Drawn0.step)⟩
      · replace c12 := Bool.eq_false_iff.mpr c12
        subst c12
        have H1 : (some false) = some r := by rw [if_neg (show ¬ (false = true) by decide)] at H; exact H
        clear H
        have H := H1
        clear H1
        obtain rfl := Option.some.inj H
        go_wp2
        go_ret
        exact ⟨by first | rfl | (simp; done) | (simp [*]; done), by repeat (first | exact Drawn0.refl _ | apply Drawn0.step)⟩

/-- THE ONE PURE STATEMENT of fourinhandlaw02_SeqnoTells: yours. -/
def fourinhandlaw02_SeqnoTells.Pure : Prop := ∀ (a0 : Int) (a1 : Int) (a2 : Int) (a3 : Int), (Lit.int .i64 a0).wf = true → (Lit.int .i64 a1).wf = true → (Lit.int .u32 a2).wf = true → (Lit.int .u32 a3).wf = true → ∃ k, fourinhandlaw02_SeqnoTells.f k a0 a1 a2 a3 = some true
theorem fourinhandlaw02_SeqnoTells.walk (P : fourinhandlaw02_SeqnoTells.Pure) (a0 : Int) (a1 : Int) (a2 : Int) (a3 : Int) (w : World) (w0 : (Lit.int .i64 a0).wf = true) (w1 : (Lit.int .i64 a1).wf = true) (w2 : (Lit.int .u32 a2).wf = true) (w3 : (Lit.int .u32 a3).wf = true) :
    Calls Try.prog 3 #[.int .i64 a0, .int .i64 a1, .int .u32 a2, .int .u32 a3] w fun e w' => e = .returned (.bool true) ∧ Below w.heap.size w w' := by
  obtain ⟨k, h⟩ := P a0 a1 a2 a3 w0 w1 w2 w3
  refine (fourinhandlaw02_SeqnoTells.calls k a0 a1 a2 a3 true w h).mono ?_
  rintro e w' ⟨rfl, hd⟩
  exact ⟨rfl, hd.below⟩

end Go.Proofs.Ytiaaelokbfjpdaa.S
