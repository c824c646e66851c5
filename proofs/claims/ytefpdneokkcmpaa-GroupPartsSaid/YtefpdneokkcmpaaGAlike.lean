/- The walk of group.Alike: complex numbers that hold whole numbers. -/
import Derived.Test.YtefpdneokkcmpaaGAlikeP
import Derived.WalkSpells
import Derived.LoopTactic
import Derived.Deep.QuietTactic
import Derived.BigQuiet
import Derived.Outline
namespace Go.Proofs.Ytefpdneokkcmpaa.Given
open Go.RowKit Go.Proofs.YtefpdneokkcmpaaW.PrintWords Go.Proofs.YtefpdneokkcmpaaW.PrintLast Go.Proofs.YtefpdneokkcmpaaW.PrintMore Go.Proofs.Ytefpdneokkcmpaa.S Go.Proofs.Ytefpdneokkcmpaa.Fl
attribute [local go_sem] min_two
set_option linter.unusedVariables false
set_option linter.unusedSimpArgs false
set_option maxHeartbeats 4000000 in
set_option maxRecDepth 100000 in
theorem alike_yes (A0 A1 : Option Addr) (c0 c1 : Nat) (l0 l1 : List Int) (w : World) (hr0 : Kd.C (Kd.int .i64) w A0 l0.length l0) (hc0 : l0.length ≤ c0) (hr1 : Kd.C (Kd.int .i64) w A1 l1.length l1) (hc1 : l1.length ≤ c1)
    (hm0 : mayB l0 = true) (hm1 : mayB l1 = true) (n : Nat) (hn : n = min l0.length l1.length) (h4 : 4 ≤ n) :
    Calls Try.prog 11 #[.slice A0 l0.length c0, .slice A1 l1.length c1] w fun e w' => e = .returned (.bool (alikeB l0 l1)) ∧ Below w.heap.size w w' := by
  have hM0 := group_May.calls A0 c0 l0 true w hr0 hc0 (by unfold group_May.f; exact congrArg some hm0)
  have hM1 := fun nd => group_May.calls A1 c1 l1 true (w.drewN nd) (Kd.C_drewN hr1 nd) hc1 (by unfold group_May.f; exact congrArg some hm1)
  have hR0 := Aside0.mk hr0
  have hR1 := Aside0.mk hr1
  obtain ⟨hE0, hL0⟩ := may_ok hm0
  obtain ⟨hE1, hL1⟩ := may_ok hm1
  have hD0 := fun nd => group_deviations.calls 100 A0 c0 l0 (n : Int) (devL l0 n) (w.drewN nd) (Kd.C_drewN hr0 nd) hc0 (dev_eq 100 (by omega) l0 hL0 hE0 n (by omega))
  have hD1 := fun W (e : Below w.heap.size w W) => group_deviations.calls 100 A1 c1 l1 (n : Int) (devL l1 n) W (Kd.C_below hr1 e) hc1 (dev_eq 100 (by omega) l1 hL1 hE1 n (by omega))
  have hX := Aside0.mk (dev_okD hE0 hL0 n (by omega))
  have hY := Aside0.mk (dev_okD hE1 hL1 n (by omega))
  have hlX := Aside0.mk (dev_len l0 n (by omega))
  have hlY := Aside0.mk (dev_len l1 n (by omega))
  have hn4 : decide ((n : Int) < 4) = false := decide_eq_false (by omega)
  have hmin := Aside0.mk hn
  have hn16 : n ≤ 16 := by omega
  have HM0 := Aside0.mk hm0
  have HM1 := Aside0.mk hm1
  have hmn : (Builtin.min2 (.int .i64 (l0.length : Int)) (.int .i64 (l1.length : Int)) : Sem Value) = pure (.int .i64 (n : Int)) := by rw [min2_int]; congr 2; split <;> omega
  clear hr0 hr1 hn hm0 hm1 hE0 hE1
  go_enter Try.func11, Try.ntmps11
  go_wp2_with (first | (go_at_call 12; first | ((with_reducible refine hM0.mono ?_); rintro e w' ⟨rfl, ⟨⟨n1, rfl⟩⟩⟩) | ((with_reducible refine (hM1 _).mono ?_); rintro e w' ⟨rfl, ⟨⟨n2, rfl⟩⟩⟩)))
  refine (hD0 _).mono ?_
  rintro e w1 ⟨v0, rfl, ho0, hb0⟩
  have hbw := (pw_below_drewN (Below.refl w.heap.size w) (n1 + n2)).trans (hb0.mono (by simp))
  have hD1' := hD1 _ hbw
  have hb01 := hb0
  obtain ⟨B0, d0, rfl, hd0, hC0⟩ := Kd.R_reads ho0
  have HC0 := Aside0.mk hC0
  have HB0 := Aside0.mk hb0
  have HBW := Aside0.mk hbw
  rw [hlX.out]
  clear ho0 hb0 hb01 hbw hD1 hC0 hd0
  go_wp2_with fail
  refine hD1'.mono ?_
  rintro e w2 ⟨v1, rfl, ho1, hb1⟩
  obtain ⟨B1, d1, rfl, hd1, hC1⟩ := Kd.R_reads ho1
  have HC1 := Aside0.mk hC1
  have HB1 := Aside0.mk hb1
  rw [hlY.out]
  clear ho1 hb1 hd1 hC1 hD1'
  have hC0 := Kd.C_below HC0.out HB1.out
  have hC1 := HC1.out
  rw [hlX.out] at hC0
  rw [hlY.out] at hC1
  have hBB : Below w.heap.size w w2 := HBW.out.trans (HB1.out.mono HBW.out.size)
  clear HC0 HC1 HB0 HB1 HBW
  have hAl : alikeB l0 l1 = ((decide (0 < 2 * dotL (devL l0 n) (devL l1 n)) && decide (dotL (devL l0 n) (devL l0 n) ≤ 2 * dotL (devL l0 n) (devL l1 n))) && decide (dotL (devL l1 n) (devL l1 n) ≤ 2 * dotL (devL l0 n) (devL l1 n))) := by
    unfold alikeB
    rw [← hmin.out]
    simp only [HM0.out, HM1.out, Bool.true_and]
    rw [if_pos (decide_eq_true h4)]
  have HAL := Aside0.mk hAl
  clear hAl HM0 HM1 hmin
  generalize devL l0 n = X at *
  generalize devL l1 n = Y at *
  have hxl := hlX.out
  have hyl := hlY.out
  have hST := Aside0.mk (sums_start X Y)
  obtain ⟨ad0, rfl, _⟩ := Kd.at_int hC0 0 (by omega) (by omega)
  obtain ⟨ad1, rfl, _⟩ := Kd.at_int hC1 0 (by omega) (by omega)
  have HC0 := Aside0.mk hC0
  have HC1 := Aside0.mk hC1
  have HBB := Aside0.mk hBB
  have HXL := Aside0.mk hxl
  have HYL := Aside0.mk hyl
  clear hC0 hC1 hBB hxl hyl hlX hlY hmn hR0 hR1 hn4
  go_wp2
  go_loopg [8, 9, 40] n (fun gg s8 s9 s40 wr => ∃ kk nd a b c d : Nat, kk ≤ n ∧ n - kk ≤ gg ∧ s8 = .complex .f64 a b ∧ s9 = .complex .f64 c d ∧ s40 = .int .i64 kk ∧ wr = w2.drewN nd ∧ Aside0 (Sums X Y kk a b c d))
  case atStart => exact ⟨0, 0, 0, 0, 0, 0, by omega, by omega, rfl, rfl, rfl, rfl, hST⟩
  case round =>
    obtain ⟨kk, nd, a, b, c, d, hkk, hg, rfl, rfl, rfl, rfl, HS⟩ := hrel
    by_cases hlt : kk < n
    · have hltz : decide ((kk : Int) < (n : Int)) = true := decide_eq_true (by omega)
      obtain ⟨ad, e, hp0⟩ := Kd.at_int HC0.out (kk : Int) (by omega) (by omega)
      cases e
      obtain ⟨ad, e, hp1⟩ := Kd.at_int HC1.out (kk : Int) (by omega) (by omega)
      cases e
      have hkx : kk < X.length := by rw [HXL.out]; exact hlt
      have hky : kk < Y.length := by rw [HYL.out]; exact hlt
      rw [Int.toNat_natCast] at hp0 hp1
      rw [rd_at X kk hkx] at hp0
      rw [rd_at Y kk hky] at hp1
      obtain ⟨p, q, a', b', p2, q2, c', d', e1, e2, e3, e4, hs⟩ := sums_step hX.out hY.out (by rw [HXL.out, HYL.out]) (by rw [HXL.out]; exact hn16) hkx hky HS.out
      have HS2 := Aside0.mk hs
      clear hs HS
      generalize X[kk]'hkx = x at *
      generalize Y[kk]'hky = y at *
      clear hkx hky
      have kx := fun W => run_convert_int_float (P := Try.prog) W 3 38 .i64 .f64 x (by kernel_rfl) (by kernel_rfl)
      have ky := fun W => run_convert_int_float (P := Try.prog) W 3 38 .i64 .f64 y (by kernel_rfl) (by kernel_rfl)
      have m1 := fun W => run_complex_mul (P := Try.prog) W 37 _ _ _ _ _ _ e1
      have m2 := fun W => run_complex_sum (P := Try.prog) W .add (.inl rfl) 37 .f64 _ _ _ _ _ _ e2
      have m3 := fun W => run_complex_mul (P := Try.prog) W 37 _ _ _ _ _ _ e3
      have m4 := fun W => run_complex_sum (P := Try.prog) W .add (.inl rfl) 37 .f64 _ _ _ _ _ _ e4
      have kn := fun (W : World) (b : Nat) => (show (Op.unary .neg (.float .f64 b)).run Try.prog W = .ok (.float .f64 (Op.negFloat .f64 b)) W from rfl)
      unfold floatOfInt at kx ky
      generalize FloatKind.f64.nearest x = xb at *
      generalize FloatKind.f64.nearest y = yb at *
      clear e1 e2 e3 e4
      go_wp2
      go_quiet (fail)
      go_wp2
      go_roundg (n - (kk + 1))
      case measure => omega
      case rel => exact ⟨kk + 1, nd + nq, a', b', c', d', by omega, by omega, rfl, rfl, by go_num, rfl, HS2⟩
    · have hltz : decide ((kk : Int) < (n : Int)) = false := decide_eq_false (by omega)
      obtain rfl : kk = n := by omega
      obtain ⟨s1, own, s2, other, e1, e2, e3, e4, t1, t2, t3⟩ := sums_end hX.out hY.out (by rw [HXL.out, HYL.out]) (by rw [HXL.out]; exact hn16) (by rw [HXL.out]; exact HS.out)
      rw [← t1, ← t2, ← t3] at HAL
      replace HAL : Aside0 (alikeB l0 l1 = (((FloatKind.f64.format.order b 0 == some Ordering.gt) && (FloatKind.f64.format.order b own == some Ordering.gt || FloatKind.f64.format.order b own == some Ordering.eq)) && (FloatKind.f64.format.order b other == some Ordering.gt || FloatKind.f64.format.order b other == some Ordering.eq))) := HAL
      have q1 := fun W => run_float_arith (P := Try.prog) W .add 38 .f64 _ _ _ e1
      have q2 := fun W => run_float_arith (P := Try.prog) W .quo 38 .f64 _ _ _ e2
      have q3 := fun W => run_float_arith (P := Try.prog) W .sub 38 .f64 _ _ _ e3
      have q4 := fun W => run_float_arith (P := Try.prog) W .quo 38 .f64 _ _ _ e4
      clear e1 e2 e3 e4 t1 t2 t3
      go_wp2
      all_goals
        go_ret
        refine ⟨?_, pw_below_drewN HBB.out _⟩
        rw [HAL.out]
        simp [*]
set_option maxHeartbeats 4000000 in
set_option maxRecDepth 100000 in
theorem alike_no (A0 A1 : Option Addr) (c0 c1 : Nat) (l0 l1 : List Int) (w : World) (hr0 : Kd.C (Kd.int .i64) w A0 l0.length l0) (hc0 : l0.length ≤ c0) (hr1 : Kd.C (Kd.int .i64) w A1 l1.length l1) (hc1 : l1.length ≤ c1)
    (n : Nat) (hn : n = min l0.length l1.length) (h : ¬ (mayB l0 = true ∧ mayB l1 = true ∧ 4 ≤ n)) :
    Calls Try.prog 11 #[.slice A0 l0.length c0, .slice A1 l1.length c1] w fun e w' => e = .returned (.bool false) ∧ Below w.heap.size w w' := by
  have hM0 := group_May.calls A0 c0 l0 (mayB l0) w hr0 hc0 rfl
  have hM1 := fun nd => group_May.calls A1 c1 l1 (mayB l1) (w.drewN nd) (Kd.C_drewN hr1 nd) hc1 rfl
  have hmn : (Builtin.min2 (.int .i64 (l0.length : Int)) (.int .i64 (l1.length : Int)) : Sem Value) = pure (.int .i64 (n : Int)) := by rw [min2_int]; congr 2; split <;> omega
  clear hr0 hr1 hn
  generalize mayB l0 = m0 at *
  generalize mayB l1 = m1 at *
  cases m0 with
  | false =>
    clear h
    go_enter Try.func11, Try.ntmps11
    go_wp2_with (go_at_call 12; (with_reducible refine hM0.mono ?_); rintro e w' ⟨rfl, ⟨⟨n1, rfl⟩⟩⟩)
    go_ret
    exact ⟨rfl, pw_below_drewN (Below.refl _ _) _⟩
  | true =>
    cases m1 with
    | false =>
      clear h
      go_enter Try.func11, Try.ntmps11
      go_wp2_with (go_at_call 12; first | ((with_reducible refine hM0.mono ?_); rintro e w' ⟨rfl, ⟨⟨n1, rfl⟩⟩⟩) | ((with_reducible refine (hM1 _).mono ?_); rintro e w' ⟨rfl, ⟨⟨n2, rfl⟩⟩⟩))
      go_ret
      exact ⟨rfl, pw_below_drewN (Below.refl _ _) _⟩
    | true =>
      have h4 : n < 4 := by
        rcases Nat.lt_or_ge n 4 with h4 | h4
        · exact h4
        · exact absurd ⟨rfl, rfl, h4⟩ h
      have hn4 : decide ((n : Int) < 4) = true := decide_eq_true (by omega)
      clear h
      go_enter Try.func11, Try.ntmps11
      go_wp2_with (go_at_call 12; first | ((with_reducible refine hM0.mono ?_); rintro e w' ⟨rfl, ⟨⟨n1, rfl⟩⟩⟩) | ((with_reducible refine (hM1 _).mono ?_); rintro e w' ⟨rfl, ⟨⟨n2, rfl⟩⟩⟩))
      go_ret
      exact ⟨rfl, pw_below_drewN (Below.refl _ _) _⟩
theorem group_Alike.calls (A0 : Option Addr) (c0 : Nat) (l0 : List Int) (A1 : Option Addr) (c1 : Nat) (l1 : List Int) (r : Bool) (w : World) (hr0 : Kd.C (Kd.int .i64) w A0 l0.length l0) (hc0 : l0.length ≤ c0) (hr1 : Kd.C (Kd.int .i64) w A1 l1.length l1) (hc1 : l1.length ≤ c1) (h : group_Alike.f l0 l1 = some r) :
    Calls Try.prog 11 #[.slice A0 l0.length c0, .slice A1 l1.length c1] w fun e w' => e = .returned (.bool r) ∧ Below w.heap.size w w' := by
  unfold group_Alike.f at h
  obtain rfl := Option.some.inj h
  by_cases c : mayB l0 = true ∧ mayB l1 = true ∧ 4 ≤ min l0.length l1.length
  · exact alike_yes A0 A1 c0 c1 l0 l1 w hr0 hc0 hr1 hc1 c.1 c.2.1 _ rfl c.2.2
  · have hf : alikeB l0 l1 = false := by
      unfold alikeB
      simp only
      rw [if_neg]
      intro h
      simp only [Bool.and_eq_true, decide_eq_true_eq] at h
      exact c ⟨h.1.1, h.1.2, h.2⟩
    rw [hf]
    exact alike_no A0 A1 c0 c1 l0 l1 w hr0 hc0 hr1 hc1 _ rfl c
end Go.Proofs.Ytefpdneokkcmpaa.Given
