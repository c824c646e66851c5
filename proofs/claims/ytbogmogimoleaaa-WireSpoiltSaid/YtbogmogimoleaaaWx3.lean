/- What the program's functions compute, as plain functions, and that they do: walks laid by a program of the session's. -/
import Derived.Test.YtbogmogimoleaaaWx0
import Derived.Test.YtbogmogimoleaaaWx2
namespace Go.Proofs.Ytbogmogimoleaaa.W
open Go.RowKit Go.Proofs.YtbogmogimoleaaaW.PrintWords Go.Proofs.YtbogmogimoleaaaW.PrintLast Go.Proofs.YtbogmogimoleaaaW.PrintMore
open Go.Proofs.Ytbogmogimoleaaa.Given
attribute [local go_sem] max2_int min2_int max_two min_two max_three min_three max_four min_four   -- for this text's walks alone
set_option linter.unusedVariables false
set_option linter.unusedSimpArgs false

/-! ### check_Open: function 16 -/
def check_Open.f (k : Nat) (l0 : List Int) : Option (List Int × Int) := if (l0.length : Int) < 4 then (some (([] : List Int), 7)) else (if 4 ≤ (l0.length : Int) then ((some (l0.drop 4 : List Int)).bind fun y125 => ((check_Sum.f (([y125] : List (List Int)))).bind fun t133 => ((check_told.f k t133).bind fun t134 => ((bytes_Equal.f t134 (l0.take 4)).bind fun t142 => (if t142 = true then ((bytes_Clone.f y125).bind fun t143 => (some (t143, 0))) else (some (([] : List Int), 8))))))) else (none))
theorem check_Open.mono : ∀ a0 k, LeO (check_Open.f k a0) (check_Open.f (k + 1) a0) := by
  intro a0 k
  unfold check_Open.f
  repeat' first
      | (with_reducible exact check_told.mono _ _)
      | (with_reducible exact LeO.refl _)
      | (with_reducible exact LeO.none _)
      | (with_reducible refine LeO.ite ?_ ?_)
      | (with_reducible refine LeO.bind ?_ (fun _ => ?_))
      | exact check_told.mono _ _
      | exact LeO.none _
      | refine LeO.ite ?_ ?_
      | refine LeO.bind ?_ (fun _ => ?_)
def check_Open.T4 : Bool × List (List Nat × List Nat) := (true, [([], []), ([0], [0]), ([1], [1]), ([2, 2], [2]), ([], []), ([4], [4]), ([3, 5, 3], [3, 5]), ([6], [6])])
def check_Open.B4 : List Nat := [0, 1, 3, 7, 0, 16, 63, 127]
theorem check_Open.tab4 : rtab .any (opsOf Try.f16 4) = check_Open.T4 := by kernel_rfl
theorem check_Open.bits4 : waitsOk check_Open.T4.2 check_Open.B4 = true := by kernel_rfl
set_option maxHeartbeats 8000000 in
set_option maxRecDepth 100000 in
theorem check_Open.calls (k : Nat) (P0_ : Nat → Prop) (A0 : Option Addr) (c0 : Nat) (l0 : List Int) (r1 : List Int) (r2 : Int) (w : World) (hs0 : Kd.V (Kd.int .u8) 5 w w.heap.size (fun k_ => P0_ k_) (.slice A0 l0.length c0) l0) (h : check_Open.f k l0 = some (r1, r2)) :
    Calls Try.prog 16 #[.slice A0 l0.length c0] w fun e w' => ∃ v0_ : Value, e = .returned (.tuple #[v0_, .int .i64 r2]) ∧ Kd.R (Kd.int .u8) 5 w' w.heap.size (fun k_ => (w.heap.size ≤ k_)) v0_ r1 ∧ Below w.heap.size w w' := by
  have HO0 := Aside0.mk (show Kd.V (Kd.int .u8) 5 w w.heap.size (fun k_ => (P0_ k_ ∨ w.heap.size ≤ k_)) (.slice A0 l0.length c0) l0 from Kd.V_mono hs0 (fun k_ hk => .inl hk))
  have HB := Aside0.mk (Below.refl w.heap.size w)
  have H : (if (l0.length : Int) < 4 then (some (([] : List Int), 7)) else (if 4 ≤ (l0.length : Int) then ((some (l0.drop 4 : List Int)).bind fun y125 => ((check_Sum.f (([y125] : List (List Int)))).bind fun t133 => ((check_told.f k t133).bind fun t134 => ((bytes_Equal.f t134 (l0.take 4)).bind fun t142 => (if t142 = true then ((bytes_Clone.f y125).bind fun t143 => (some (t143, 0))) else (some (([] : List Int), 8))))))) else (none))) = some (r1, r2) := h
  clear h
  by_cases c2 : (l0.length : Int) < 4
  · rw [if_pos c2] at H
    have c2b0 : decide ((l0.length : Int) < 4) = true := decide_eq_true c2
    have c2b1 : decide (l0.length < 4) = true := decide_eq_true (by omega)
    clear c2
    simp only [Option.some.injEq, Prod.mk.injEq] at H
    obtain ⟨rfl, rfl⟩ := H
    go_enter Try.func16, Try.ntmps16
    go_wp2
    go_ret2
    exact ⟨_, by first | rfl | (simp [errW_none, errW_some] <;> rfl) | (simp [*, errW_none, errW_some] <;> rfl), by first | exact Kd.R_nil _ _ _ _ _ | exact Kd.N_nil _ _ _ _ _ | exact Kd.V_nil _ _ _ _ _ | exact Kd.Q_nil _ _ _ _ _ | exact Kd.S_nil _ _ _ _ _, by repeat (first | (with_reducible first | exact HB.out | apply below_alloc | apply pw_below_drewN | apply below_drew1) | exact HB.out)⟩
  · rw [if_neg c2] at H
    have c2b0 : decide ((l0.length : Int) < 4) = false := decide_eq_false c2
    have c2b1 : decide (l0.length < 4) = false := decide_eq_false (by omega)
    clear c2
    by_cases c3 : 4 ≤ (l0.length : Int)
    · rw [if_pos c3] at H
      have c3b0 := eq_true c3
      have c3b1 : decide (4 ≤ (l0.length : Int)) = true := decide_eq_true c3
      clear c3
      obtain ⟨y125, hy125⟩ : ∃ y_ : List Int, y_ = (l0.drop 4) := ⟨_, rfl⟩
      replace H : ((check_Sum.f (([y125] : List (List Int)))).bind fun t133 => ((check_told.f k t133).bind fun t134 => ((bytes_Equal.f t134 (l0.take 4)).bind fun t142 => (if t142 = true then ((bytes_Clone.f y125).bind fun t143 => (some (t143, 0))) else (some (([] : List Int), 8)))))) = some (r1, r2) := by first | (rw [hy125]; with_reducible exact H) | (have H2_ := (Option.bind_some _ _).symm.trans H; rw [hy125]; with_reducible exact H2_) | (have H2_ := (Option.bind_some _ _).symm.trans H; with_reducible exact H2_) | with_reducible exact H | (rw [hy125]; exact H) | exact H
      have Ny125 := Aside0.mk hy125
      clear hy125
      obtain ⟨y130, hy130⟩ : ∃ y_ : List (List Int), y_ = (([y125] : List (List Int))) := ⟨_, rfl⟩
      replace H : ((check_Sum.f y130).bind fun t133 => ((check_told.f k t133).bind fun t134 => ((bytes_Equal.f t134 (l0.take 4)).bind fun t142 => (if t142 = true then ((bytes_Clone.f y125).bind fun t143 => (some (t143, 0))) else (some (([] : List Int), 8)))))) = some (r1, r2) := by first | (rw [hy130]; with_reducible exact H) | (have H2_ := (Option.bind_some _ _).symm.trans H; rw [hy130]; with_reducible exact H2_) | (have H2_ := (Option.bind_some _ _).symm.trans H; with_reducible exact H2_) | with_reducible exact H | (rw [hy130]; exact H) | exact H
      have Ny130 := Aside0.mk hy130
      clear hy130
      replace H := Option.bind_eq_some_iff.mp H
      obtain ⟨t133, A40, H⟩ := H
      replace H : ((check_told.f k t133).bind fun t134 => ((bytes_Equal.f t134 (l0.take 4)).bind fun t142 => (if t142 = true then ((bytes_Clone.f y125).bind fun t143 => (some (t143, 0))) else (some (([] : List Int), 8))))) = some (r1, r2) := H
      have A4 := Aside0.mk A40
      clear A40
      replace H := Option.bind_eq_some_iff.mp H
      obtain ⟨t134, A50, H⟩ := H
      replace H : ((bytes_Equal.f t134 (l0.take 4)).bind fun t142 => (if t142 = true then ((bytes_Clone.f y125).bind fun t143 => (some (t143, 0))) else (some (([] : List Int), 8)))) = some (r1, r2) := H
      have A5 := Aside0.mk A50
      clear A50
      have c6b0 := eq_true (of_decide_eq_true (by first | (with_reducible assumption) | assumption) : 4 ≤ (l0.length : Int))
      obtain ⟨y137, hy137⟩ : ∃ y_ : List Int, y_ = (l0.take 4) := ⟨_, rfl⟩
      replace H : ((bytes_Equal.f t134 y137).bind fun t142 => (if t142 = true then ((bytes_Clone.f y125).bind fun t143 => (some (t143, 0))) else (some (([] : List Int), 8)))) = some (r1, r2) := by first | (rw [hy137]; with_reducible exact H) | (have H2_ := (Option.bind_some _ _).symm.trans H; rw [hy137]; with_reducible exact H2_) | (have H2_ := (Option.bind_some _ _).symm.trans H; with_reducible exact H2_) | with_reducible exact H | (rw [hy137]; exact H) | exact H
      have Ny137 := Aside0.mk hy137
      clear hy137
      replace H := Option.bind_eq_some_iff.mp H
      obtain ⟨t142, A70, H⟩ := H
      replace H : (if t142 = true then ((bytes_Clone.f y125).bind fun t143 => (some (t143, 0))) else (some (([] : List Int), 8))) = some (r1, r2) := H
      have A7 := Aside0.mk A70
      clear A70
      by_cases c8 : t142 = true
      · subst c8
        have H1 : ((bytes_Clone.f y125).bind fun t143 => (some (t143, 0))) = some (r1, r2) := by rw [if_pos rfl] at H; exact H
        clear H
        have H := H1
        clear H1
        replace H := Option.bind_eq_some_iff.mp H
        obtain ⟨t143, A90, H⟩ := H
        replace H : (some (t143, 0)) = some (r1, r2) := H
        have A9 := Aside0.mk A90
        clear A90
        simp only [Option.some.injEq, Prod.mk.injEq] at H
        obtain ⟨rfl, rfl⟩ := H
        have q10 : (4 : Int) ≤ ((l0.length : Int) : Int) := of_decide_eq_true (by first | (with_reducible assumption) | assumption)
        obtain ⟨i010, hi010, _, hsz10, _⟩ := info_parts info5
        have hroom10 : l0.length ≤ c0 := (Kd.V_reads' HO0.out).2.1
        have hC10 : Kd.F (Kd.int .u8) _ _ A0 l0.length l0 := (Kd.V_at (base := w.heap.size) HO0.out).2.2
        have hcut10 := cut_from (P := Try.prog) 23 5 .i64 Try.underlying23 hi010 1 hsz10 A0 l0.length c0 4 (by omega) q10
        have hr10 := Kd.F_cut (m := (4 : Int).toNat) (c := c0) hC10 (by omega) hroom10
        obtain ⟨A10, hA10⟩ : ∃ A1, A1 = (if c0 = (4 : Int).toNat then A0 else (A0 : Option Addr).map (·.add ((4 : Int).toNat * 1))) := ⟨_, rfl⟩
        obtain ⟨c10, hc10⟩ : ∃ c1, c1 = c0 - (4 : Int).toNat := ⟨_, rfl⟩
        have hy10 : y125.length = l0.length - (4 : Int).toNat := (by rw [Ny125.out, List.length_drop] <;> omega)
        rw [show (l0).drop (4 : Int).toNat = y125 from Ny125.out.symm] at hr10
        replace hr10 : Kd.F (Kd.int .u8) _ _ A10 y125.length y125 := (by rw [hA10]; exact hr10)
        rw [← hy10, ← hA10, ← hc10] at hcut10
        have HO129 := Aside0.mk (show Kd.V (Kd.int .u8) 5 _ w.heap.size _ (.slice A10 y125.length c10) y125 from Kd.V_mk (by rw [hy10, hc10]; exact Nat.sub_le_sub_right hroom10 _) hr10)
        have HC129 := Aside0.mk (show y125.length ≤ c10 from by rw [hy10, hc10]; exact Nat.sub_le_sub_right hroom10 _)
        clear hr10 hC10 hroom10 hi010 hsz10 hc10
        have KY10 := Aside0.mk hy10
        have KA10 := Aside0.mk hA10
        clear hy10 hA10
        replace q10 := eq_true q10
        go_enter Try.func16, Try.ntmps16
        try go_wp2
        have n0_ := Aside0.mk (Kd.V_drew HO0.out)
        have n1_ := Aside0.mk (Kd.V_drew HO129.out)
        have n2_ := Aside0.mk (below_drew1 HB.out)
        clear HO0
        clear HO129
        clear HB
        have HO0 := n0_
        have HO129 := n1_
        have HB := n2_
        clear n0_ n1_ n2_
        have q12 : (4 : Int) ≤ ((l0.length : Int) : Int) := of_decide_eq_true (by first | (with_reducible assumption) | assumption)
        obtain ⟨i012, hi012, _, hsz12, _⟩ := info_parts info5
        have hroom12 : l0.length ≤ c0 := (Kd.V_reads' HO0.out).2.1
        have hC12 : Kd.F (Kd.int .u8) _ _ A0 l0.length l0 := (Kd.V_at (base := w.heap.size) HO0.out).2.2
        have hcut12 := cut_to (P := Try.prog) 23 5 .i64 Try.underlying23 hi012 A0 l0.length c0 4 (by omega) q12 hroom12
        have hr12 := Kd.F_take (m := 4) hC12 (by omega)
        have hy12 : y137.length = (4 : Int).toNat := (by rw [Ny137.out, List.length_take]; omega)
        rw [← Ny137.out] at hr12
        rw [← hy12] at hcut12
        have HO141 := Aside0.mk (show Kd.V (Kd.int .u8) 5 _ w.heap.size _ (.slice A0 y137.length c0) y137 from Kd.V_mk (by omega) hr12)
        have HC141 := Aside0.mk (show y137.length ≤ c0 from by omega)
        clear hr12 hC12 hroom12 hi012 hsz12
        have KY12 := Aside0.mk hy12
        clear hy12
        replace q12 := eq_true q12
        refine start_ (n := 8) (S := fun w' => True) (ds := []) #[false, false, false, false, false, false, false, false] (by kernel_rfl) rfl rfl trivial (fun hHeld => ?_); refine with_tabW check_Open.tab4 check_Open.bits4 (fun HT_ HW_ => ?_)
        generalize w.drew = w11 at HO0 HO129 HB HO141 hHeld ⊢
        refine pure_ (i := 0) (N := some 10) (v := ?_) (a' := ?_) #[true, false, false, false, false, false, false, false] rfl rfl (any_of HT_.out (by kernel_rfl)) (fun _ _ _ h => h) (Or.inl ⟨by rfl, ?_⟩) ?_ ?_
        rotate_left
        · intro w'
          go_simp
          with_reducible rfl
        rotate_left
        · simp only [Act.put, List.setIfInBounds_toArray, List.set_cons_zero, List.set_cons_succ, i64_w, i32_w]
          rfl
        refine pure_ (i := 4) (N := some 14) (v := ?_) (a' := ?_) #[true, false, false, false, true, false, false, false] rfl rfl (any_of HT_.out (by kernel_rfl)) (fun _ _ _ h => h) (Or.inl ⟨by rfl, ?_⟩) ?_ ?_
        rotate_left
        · intro w'
          go_simp
          with_reducible rfl
        rotate_left
        · simp only [Act.put, List.setIfInBounds_toArray, List.set_cons_zero, List.set_cons_succ, i64_w, i32_w]
          rfl
        refine pure_ (i := 5) (N := some 15) (v := ?_) (a' := ?_) #[true, false, false, false, true, true, false, false] rfl rfl (any_of HT_.out (by kernel_rfl)) (fun _ _ _ h => h) (Or.inl ⟨by rfl, ?_⟩) ?_ ?_
        rotate_left
        · intro w'
          go_simp
          with_reducible rfl
        rotate_left
        · simp only [Act.put, List.setIfInBounds_toArray, List.set_cons_zero, List.set_cons_succ, i64_w, i32_w]
          rfl
        refine one_ (i := 1) (N := some 11) #[true, true, false, false, true, true, false, false] rfl rfl (one_of HT_.out (by kernel_rfl)) (by decide) (fun K hK => ?_)
        refine Kd.N_lit_step (Kd.slice 5 (Kd.int .u8)) _ 23 ?hg (N' := 11) ?hd (xs := ([y125] : List (List Int))) (inner := [.slice A10 y125.length c10]) (ok := (fun k_ => (P0_ k_ ∨ w.heap.size ≤ k_))) (okp := (fun k_ => (P0_ k_ ∨ w.heap.size ≤ k_))) ?hr ?hp (fun _ hk => hk) ((show ∀ k_, w11.heap.size ≤ k_ → (fun k_ => (P0_ k_ ∨ w.heap.size ≤ k_)) k_ from fun k_ hk => (.inr (Nat.le_trans (below_size (by repeat (first | (with_reducible first | exact HB.out | apply below_alloc | apply pw_below_drewN | apply below_drew1) | exact HB.out))) hk))) _ (Nat.le_refl _)) (Below.refl _ _) (Nat.le_refl _) (by simp) ?_; (case hd => rfl); (case hg => rfl); (case hr => first | (go_simp; done) | (go_simp; rfl)); (case hp => exact (Reps.one (show Kd.FK (Kd.slice 5 (Kd.int .u8)) _ _ y125 [.slice A10 y125.length c10] from (Kd.FK_slice_mk (Kd.V_reads' (Kd.V_mono (ok' := (fun k_ => (P0_ k_ ∨ w.heap.size ≤ k_))) (HO129.out) (fun k_ hk => hk))).2.1 (Kd.V_F (Kd.V_mono (ok' := (fun k_ => (P0_ k_ ∨ w.heap.size ≤ k_))) (HO129.out) (fun k_ hk => hk))))) (Reps.none _ _)))
        intro v131 w13 ho14 hb hg_ hnew_
        clear hg_ hnew_
        (first | rw [← Ny130.out] at ho14 | (simp only [Int.reduceToNat] at ho14; rw [← Ny130.out] at ho14))
        have n0_ := Aside0.mk (Kd.V_elder' (by (with_reducible repeat (first | apply Kd.V_alloc | apply Kd.V_drewN | apply Kd.V_drew)); exact HO0.out) (Kd.N_base ho14) hb)
        have n1_ := Aside0.mk (Kd.V_elder' (by (with_reducible repeat (first | apply Kd.V_alloc | apply Kd.V_drewN | apply Kd.V_drew)); exact HO129.out) (Kd.N_base ho14) hb)
        have n2_ := Aside0.mk (Kd.V_elder' (by (with_reducible repeat (first | apply Kd.V_alloc | apply Kd.V_drewN | apply Kd.V_drew)); exact HO141.out) (Kd.N_base ho14) hb)
        have n3_ := Aside0.mk (Kd.N_lower ho14 (below_size (by repeat (first | (with_reducible first | exact HB.out | apply below_alloc | apply pw_below_drewN | apply below_drew1) | exact HB.out))))
        have n4_ := Aside0.mk (below_step (by repeat (first | (with_reducible first | exact HB.out | apply below_alloc | apply pw_below_drewN | apply below_drew1) | exact HB.out)) hb)
        clear HO0
        clear HO129
        clear HO141
        clear HB
        have HO0 := n0_
        have HO129 := n1_
        have HO141 := n2_
        have HO132 := n3_
        have HB := n4_
        clear n0_ n1_ n2_ n3_ n4_
        clear hb ho14
        obtain ⟨Ao15, co15, eo15⟩ := Kd.N_slice HO132.out
        (first | subst eo15 | (injection eo15 with f1_ f2_ f3_; have f4_ := f1_.symm; have f5_ := f3_.symm; clear f1_ f2_ f3_; subst f4_; subst f5_))
        refine hK.out _ _ trivial (fun hHeld => ?_)
        clear hK K
        refine norm_ (a' := ?_) ?_ ?_
        rotate_left
        · show Act.put _ (some 11) _ = _
          simp only [Act.put, List.setIfInBounds_toArray, List.set_cons_zero, List.set_cons_succ, i64_w, i32_w]
          rfl
        refine one_ (i := 2) (N := some 12) #[true, true, true, false, true, true, false, false] rfl rfl (one_of HT_.out (by kernel_rfl)) (by decide) (fun K hK => ?_)
        refine goes_ Try.func21 (by kernel_rfl) rfl #[.slice Ao15 y130.length co15] (by rfl) rfl rfl (by (try simp only [List.map_toArray, List.map_cons, List.map_nil]); first | done | rfl | (simp only [List.length_drop, List.length_take]; rfl)) ?_
        with_reducible refine (check_Sum.calls _ _ y130 t133 _ ?side1 ?side2 A4.out).mono ?_
        (case side1 => repeat (first | exact (Kd.N_reads' HO132.out).2.2 | (with_reducible refine Kd.C_alloc ?_ _) | (with_reducible refine Kd.C_drewN ?_ _) | (with_reducible refine Kd.C_drew ?_)))
        (case side2 => exact (Kd.N_reads' HO132.out).2.1)
        rintro e w16 ⟨rfl, hb⟩
        refine ⟨_, rfl, ?_⟩
        have n0_ := Aside0.mk (Kd.V_below (by (with_reducible repeat (first | apply Kd.V_alloc | apply Kd.V_drewN | apply Kd.V_drew)); exact HO0.out) hb)
        have n1_ := Aside0.mk (Kd.V_below (by (with_reducible repeat (first | apply Kd.V_alloc | apply Kd.V_drewN | apply Kd.V_drew)); exact HO129.out) hb)
        have n2_ := Aside0.mk (Kd.V_below (by (with_reducible repeat (first | apply Kd.V_alloc | apply Kd.V_drewN | apply Kd.V_drew)); exact HO141.out) hb)
        have n3_ := Aside0.mk (Kd.N_below (by (with_reducible repeat (first | apply Kd.N_alloc | apply Kd.N_drewN | apply Kd.N_drew)); exact HO132.out) hb)
        have n4_ := Aside0.mk (below_step (by repeat (first | (with_reducible first | exact HB.out | apply below_alloc | apply pw_below_drewN | apply below_drew1) | exact HB.out)) hb)
        clear HO0
        clear HO129
        clear HO141
        clear HO132
        clear HB
        have HO0 := n0_
        have HO129 := n1_
        have HO141 := n2_
        have HO132 := n3_
        have HB := n4_
        clear n0_ n1_ n2_ n3_ n4_
        (try clear hb)
        (try clear hb2)
        (try clear hk)
        (try clear hi)
        refine hK.out _ _ trivial (fun hHeld => ?_)
        clear hK K
        refine norm_ (a' := ?_) ?_ ?_
        rotate_left
        · show Act.put _ (some 12) _ = _
          simp only [Act.put, List.setIfInBounds_toArray, List.set_cons_zero, List.set_cons_succ, i64_w, i32_w]
          rfl
        refine one_ (i := 3) (N := some 13) #[true, true, true, true, true, true, false, false] rfl rfl (one_of HT_.out (by kernel_rfl)) (by decide) (fun K hK => ?_)
        refine goes_ Try.func34 (by kernel_rfl) rfl #[.int .u32 t133] (by rfl) rfl rfl (by (try simp only [List.map_toArray, List.map_cons, List.map_nil]); first | done | rfl | (simp only [List.length_drop, List.length_take]; rfl)) ?_
        with_reducible refine (check_told.calls k t133 t134 _ A5.out).mono ?_
        rintro e w17 ⟨v135, rfl, ho0, hb⟩
        refine ⟨_, rfl, ?_⟩
        have n0_ := Aside0.mk (Kd.V_elder' (by (with_reducible repeat (first | apply Kd.V_alloc | apply Kd.V_drewN | apply Kd.V_drew)); exact HO0.out) (Kd.R_base ho0) hb)
        have n1_ := Aside0.mk (Kd.V_elder' (by (with_reducible repeat (first | apply Kd.V_alloc | apply Kd.V_drewN | apply Kd.V_drew)); exact HO129.out) (Kd.R_base ho0) hb)
        have n2_ := Aside0.mk (Kd.V_elder' (by (with_reducible repeat (first | apply Kd.V_alloc | apply Kd.V_drewN | apply Kd.V_drew)); exact HO141.out) (Kd.R_base ho0) hb)
        have n3_ := Aside0.mk (Kd.N_elder' (by (with_reducible repeat (first | apply Kd.N_alloc | apply Kd.N_drewN | apply Kd.N_drew)); exact HO132.out) (Kd.R_base ho0) hb)
        have n4_ := Aside0.mk (Kd.R_lower (Kd.R_newM (M := fun k_ => (w.heap.size ≤ k_)) ho0 (below_size (by repeat (first | (with_reducible first | exact HB.out | apply below_alloc | apply pw_below_drewN | apply below_drew1) | exact HB.out))) (fun k_ h_ => h_)) (below_size (by repeat (first | (with_reducible first | exact HB.out | apply below_alloc | apply pw_below_drewN | apply below_drew1) | exact HB.out))))
        have n5_ := Aside0.mk (below_step (by repeat (first | (with_reducible first | exact HB.out | apply below_alloc | apply pw_below_drewN | apply below_drew1) | exact HB.out)) hb)
        clear HO0
        clear HO129
        clear HO141
        clear HO132
        clear HB
        have HO0 := n0_
        have HO129 := n1_
        have HO141 := n2_
        have HO132 := n3_
        have HO136 := n4_
        have HB := n5_
        clear n0_ n1_ n2_ n3_ n4_ n5_
        (try clear hb)
        (try clear hb2)
        (try clear hk)
        (try clear hi)
        (try clear ho0)
        obtain ⟨Ao18, co18, eo18⟩ := Kd.R_slice HO136.out
        (first | subst eo18 | (injection eo18 with f1_ f2_ f3_; have f4_ := f1_.symm; have f5_ := f3_.symm; clear f1_ f2_ f3_; subst f4_; subst f5_))
        refine hK.out _ _ trivial (fun hHeld => ?_)
        clear hK K
        refine norm_ (a' := ?_) ?_ ?_
        rotate_left
        · show Act.put _ (some 13) _ = _
          simp only [Act.put, List.setIfInBounds_toArray, List.set_cons_zero, List.set_cons_succ, i64_w, i32_w]
          rfl
        refine one_ (i := 6) (N := some 16) #[true, true, true, true, true, true, true, false] rfl rfl (one_of HT_.out (by kernel_rfl)) (by decide) (fun K hK => ?_)
        refine goes_ Try.func33 (by kernel_rfl) rfl #[.slice Ao18 t134.length co18, .slice A0 y137.length c0] (by rfl) rfl rfl (by (try simp only [List.map_toArray, List.map_cons, List.map_nil]); first | done | rfl | (simp only [List.length_drop, List.length_take]; rfl)) ?_
        with_reducible refine (bytes_Equal.calls _ _ t134 _ _ y137 true _ ?side1 ?side2 ?side3 ?side4 A7.out).mono ?_
        (case side1 => repeat (first | exact (Kd.R_reads' HO136.out).2.2 | (with_reducible refine Kd.C_alloc ?_ _) | (with_reducible refine Kd.C_drewN ?_ _) | (with_reducible refine Kd.C_drew ?_)))
        (case side2 => exact (Kd.R_reads' HO136.out).2.1)
        (case side3 => repeat (first | exact (Kd.V_reads' HO141.out).2.2 | (with_reducible refine Kd.C_alloc ?_ _) | (with_reducible refine Kd.C_drewN ?_ _) | (with_reducible refine Kd.C_drew ?_)))
        (case side4 => exact (Kd.V_reads' HO141.out).2.1)
        rintro e w' ⟨rfl, ⟨nd, rfl⟩⟩
        refine ⟨_, rfl, ?_⟩
        refine hK.out _ _ trivial (fun hHeld => ?_)
        clear hK K
        refine norm_ (a' := ?_) ?_ ?_
        rotate_left
        · show Act.put _ (some 16) _ = _
          simp only [Act.put, List.setIfInBounds_toArray, List.set_cons_zero, List.set_cons_succ, i64_w, i32_w]
          rfl
        refine pure_ (i := 7) (N := some 17) (v := ?_) (a' := ?_) #[true, true, true, true, true, true, true, true] rfl rfl (any_of HT_.out (by kernel_rfl)) (fun _ _ _ h => h) (Or.inl ⟨by rfl, ?_⟩) ?_ ?_
        rotate_left
        · intro w'
          go_simp
          with_reducible rfl
        rotate_left
        · simp only [Act.put, List.setIfInBounds_toArray, List.set_cons_zero, List.set_cons_succ, i64_w, i32_w]
          rfl
        refine done_ (done_of HT_.out (by kernel_rfl)) ?_
        try go_wp2_with (first | ((with_reducible refine gate_callee (f := 35) rfl ?_); refine goesL_ (some 19) rfl rfl Try.func35 (by kernel_rfl) rfl #[.slice A10 y125.length c10] rfl (by (try simp only [List.map_toArray, List.map_cons, List.map_nil]); first | done | rfl | (simp only [List.length_drop, List.length_take]; rfl)) ?_; (with_reducible refine (bytes_Clone.calls _ _ y125 t143 _ ?side1 ?side2 A9.out).mono ?_); (case side1 => repeat (first | exact (Kd.V_reads' HO129.out).2.2 | (with_reducible refine Kd.C_alloc ?_ _) | (with_reducible refine Kd.C_drewN ?_ _) | (with_reducible refine Kd.C_drew ?_))); (case side2 => exact (Kd.V_reads' HO129.out).2.1); rintro e w19 ⟨v144, rfl, ho0, hb⟩; refine ⟨_, rfl, ?_⟩; have n0_ := Aside0.mk (Kd.V_elder' (by (with_reducible repeat (first | apply Kd.V_alloc | apply Kd.V_drewN | apply Kd.V_drew)); exact HO0.out) (Kd.R_base ho0) hb); have n1_ := Aside0.mk (Kd.V_elder' (by (with_reducible repeat (first | apply Kd.V_alloc | apply Kd.V_drewN | apply Kd.V_drew)); exact HO129.out) (Kd.R_base ho0) hb); have n2_ := Aside0.mk (Kd.V_elder' (by (with_reducible repeat (first | apply Kd.V_alloc | apply Kd.V_drewN | apply Kd.V_drew)); exact HO141.out) (Kd.R_base ho0) hb); have n3_ := Aside0.mk (Kd.N_elder' (by (with_reducible repeat (first | apply Kd.N_alloc | apply Kd.N_drewN | apply Kd.N_drew)); exact HO132.out) (Kd.R_base ho0) hb); have n4_ := Aside0.mk (Kd.R_elder' (by (with_reducible repeat (first | apply Kd.R_alloc | apply Kd.R_drewN | apply Kd.R_drew)); exact HO136.out) (Kd.R_base ho0) hb); have n5_ := Aside0.mk (Kd.R_lower (Kd.R_new' (Kd.R_newM (M := fun k_ => (w.heap.size ≤ k_)) ho0 (below_size (by repeat (first | (with_reducible first | exact HB.out | apply below_alloc | apply pw_below_drewN | apply below_drew1) | exact HB.out))) (fun k_ h_ => h_)) (Kd.R_lt (by (with_reducible repeat (first | apply Kd.R_alloc | apply Kd.R_drewN | apply Kd.R_drew)); exact HO136.out))) (below_size (by repeat (first | (with_reducible first | exact HB.out | apply below_alloc | apply pw_below_drewN | apply below_drew1) | exact HB.out)))); have n6_ := Aside0.mk (below_step (by repeat (first | (with_reducible first | exact HB.out | apply below_alloc | apply pw_below_drewN | apply below_drew1) | exact HB.out)) hb); clear HO0; clear HO129; clear HO141; clear HO132; clear HO136; clear HB; have HO0 := n0_; have HO129 := n1_; have HO141 := n2_; have HO132 := n3_; have HO136 := n4_; have HO145 := n5_; have HB := n6_; clear n0_ n1_ n2_ n3_ n4_ n5_ n6_; (try clear hb); (try clear hb2); (try clear hk); (try clear hi); (try clear ho0)))
        go_ret2
        exact ⟨_, by first | rfl | (simp [errW_none, errW_some] <;> rfl) | (simp [*, errW_none, errW_some] <;> rfl), by (with_reducible repeat (first | apply Kd.R_alloc | apply Kd.R_drewN | apply Kd.R_drew)); exact Kd.R_mono HO145.out (fun _ hk => hk.1.1), by repeat (first | (with_reducible first | exact HB.out | apply below_alloc | apply pw_below_drewN | apply below_drew1) | exact HB.out)⟩
      · replace c8 := Bool.eq_false_iff.mpr c8
        subst c8
        have H1 : (some (([] : List Int), 8)) = some (r1, r2) := by rw [if_neg (show ¬ (false = true) by decide)] at H; exact H
        clear H
        have H := H1
        clear H1
        simp only [Option.some.injEq, Prod.mk.injEq] at H
        obtain ⟨rfl, rfl⟩ := H
        have q20 : (4 : Int) ≤ ((l0.length : Int) : Int) := of_decide_eq_true (by first | (with_reducible assumption) | assumption)
        obtain ⟨i020, hi020, _, hsz20, _⟩ := info_parts info5
        have hroom20 : l0.length ≤ c0 := (Kd.V_reads' HO0.out).2.1
        have hC20 : Kd.F (Kd.int .u8) _ _ A0 l0.length l0 := (Kd.V_at (base := w.heap.size) HO0.out).2.2
        have hcut20 := cut_from (P := Try.prog) 23 5 .i64 Try.underlying23 hi020 1 hsz20 A0 l0.length c0 4 (by omega) q20
        have hr20 := Kd.F_cut (m := (4 : Int).toNat) (c := c0) hC20 (by omega) hroom20
        obtain ⟨A20, hA20⟩ : ∃ A1, A1 = (if c0 = (4 : Int).toNat then A0 else (A0 : Option Addr).map (·.add ((4 : Int).toNat * 1))) := ⟨_, rfl⟩
        obtain ⟨c20, hc20⟩ : ∃ c1, c1 = c0 - (4 : Int).toNat := ⟨_, rfl⟩
        have hy20 : y125.length = l0.length - (4 : Int).toNat := (by rw [Ny125.out, List.length_drop] <;> omega)
        rw [show (l0).drop (4 : Int).toNat = y125 from Ny125.out.symm] at hr20
        replace hr20 : Kd.F (Kd.int .u8) _ _ A20 y125.length y125 := (by rw [hA20]; exact hr20)
        rw [← hy20, ← hA20, ← hc20] at hcut20
        have HO129 := Aside0.mk (show Kd.V (Kd.int .u8) 5 _ w.heap.size _ (.slice A20 y125.length c20) y125 from Kd.V_mk (by rw [hy20, hc20]; exact Nat.sub_le_sub_right hroom20 _) hr20)
        have HC129 := Aside0.mk (show y125.length ≤ c20 from by rw [hy20, hc20]; exact Nat.sub_le_sub_right hroom20 _)
        clear hr20 hC20 hroom20 hi020 hsz20 hc20
        have KY20 := Aside0.mk hy20
        have KA20 := Aside0.mk hA20
        clear hy20 hA20
        replace q20 := eq_true q20
        go_enter Try.func16, Try.ntmps16
        try go_wp2
        have n0_ := Aside0.mk (Kd.V_drew HO0.out)
        have n1_ := Aside0.mk (Kd.V_drew HO129.out)
        have n2_ := Aside0.mk (below_drew1 HB.out)
        clear HO0
        clear HO129
        clear HB
        have HO0 := n0_
        have HO129 := n1_
        have HB := n2_
        clear n0_ n1_ n2_
        have q22 : (4 : Int) ≤ ((l0.length : Int) : Int) := of_decide_eq_true (by first | (with_reducible assumption) | assumption)
        obtain ⟨i022, hi022, _, hsz22, _⟩ := info_parts info5
        have hroom22 : l0.length ≤ c0 := (Kd.V_reads' HO0.out).2.1
        have hC22 : Kd.F (Kd.int .u8) _ _ A0 l0.length l0 := (Kd.V_at (base := w.heap.size) HO0.out).2.2
        have hcut22 := cut_to (P := Try.prog) 23 5 .i64 Try.underlying23 hi022 A0 l0.length c0 4 (by omega) q22 hroom22
        have hr22 := Kd.F_take (m := 4) hC22 (by omega)
        have hy22 : y137.length = (4 : Int).toNat := (by rw [Ny137.out, List.length_take]; omega)
        rw [← Ny137.out] at hr22
        rw [← hy22] at hcut22
        have HO141 := Aside0.mk (show Kd.V (Kd.int .u8) 5 _ w.heap.size _ (.slice A0 y137.length c0) y137 from Kd.V_mk (by omega) hr22)
        have HC141 := Aside0.mk (show y137.length ≤ c0 from by omega)
        clear hr22 hC22 hroom22 hi022 hsz22
        have KY22 := Aside0.mk hy22
        clear hy22
        replace q22 := eq_true q22
        refine start_ (n := 8) (S := fun w' => True) (ds := []) #[false, false, false, false, false, false, false, false] (by kernel_rfl) rfl rfl trivial (fun hHeld => ?_); refine with_tabW check_Open.tab4 check_Open.bits4 (fun HT_ HW_ => ?_)
        generalize w.drew = w21 at HO0 HO129 HB HO141 hHeld ⊢
        refine pure_ (i := 0) (N := some 10) (v := ?_) (a' := ?_) #[true, false, false, false, false, false, false, false] rfl rfl (any_of HT_.out (by kernel_rfl)) (fun _ _ _ h => h) (Or.inl ⟨by rfl, ?_⟩) ?_ ?_
        rotate_left
        · intro w'
          go_simp
          with_reducible rfl
        rotate_left
        · simp only [Act.put, List.setIfInBounds_toArray, List.set_cons_zero, List.set_cons_succ, i64_w, i32_w]
          rfl
        refine pure_ (i := 4) (N := some 14) (v := ?_) (a' := ?_) #[true, false, false, false, true, false, false, false] rfl rfl (any_of HT_.out (by kernel_rfl)) (fun _ _ _ h => h) (Or.inl ⟨by rfl, ?_⟩) ?_ ?_
        rotate_left
        · intro w'
          go_simp
          with_reducible rfl
        rotate_left
        · simp only [Act.put, List.setIfInBounds_toArray, List.set_cons_zero, List.set_cons_succ, i64_w, i32_w]
          rfl
        refine pure_ (i := 5) (N := some 15) (v := ?_) (a' := ?_) #[true, false, false, false, true, true, false, false] rfl rfl (any_of HT_.out (by kernel_rfl)) (fun _ _ _ h => h) (Or.inl ⟨by rfl, ?_⟩) ?_ ?_
        rotate_left
        · intro w'
          go_simp
          with_reducible rfl
        rotate_left
        · simp only [Act.put, List.setIfInBounds_toArray, List.set_cons_zero, List.set_cons_succ, i64_w, i32_w]
          rfl
        refine one_ (i := 1) (N := some 11) #[true, true, false, false, true, true, false, false] rfl rfl (one_of HT_.out (by kernel_rfl)) (by decide) (fun K hK => ?_)
        refine Kd.N_lit_step (Kd.slice 5 (Kd.int .u8)) _ 23 ?hg (N' := 11) ?hd (xs := ([y125] : List (List Int))) (inner := [.slice A20 y125.length c20]) (ok := (fun k_ => (P0_ k_ ∨ w.heap.size ≤ k_))) (okp := (fun k_ => (P0_ k_ ∨ w.heap.size ≤ k_))) ?hr ?hp (fun _ hk => hk) ((show ∀ k_, w21.heap.size ≤ k_ → (fun k_ => (P0_ k_ ∨ w.heap.size ≤ k_)) k_ from fun k_ hk => (.inr (Nat.le_trans (below_size (by repeat (first | (with_reducible first | exact HB.out | apply below_alloc | apply pw_below_drewN | apply below_drew1) | exact HB.out))) hk))) _ (Nat.le_refl _)) (Below.refl _ _) (Nat.le_refl _) (by simp) ?_; (case hd => rfl); (case hg => rfl); (case hr => first | (go_simp; done) | (go_simp; rfl)); (case hp => exact (Reps.one (show Kd.FK (Kd.slice 5 (Kd.int .u8)) _ _ y125 [.slice A20 y125.length c20] from (Kd.FK_slice_mk (Kd.V_reads' (Kd.V_mono (ok' := (fun k_ => (P0_ k_ ∨ w.heap.size ≤ k_))) (HO129.out) (fun k_ hk => hk))).2.1 (Kd.V_F (Kd.V_mono (ok' := (fun k_ => (P0_ k_ ∨ w.heap.size ≤ k_))) (HO129.out) (fun k_ hk => hk))))) (Reps.none _ _)))
        intro v131 w23 ho24 hb hg_ hnew_
        clear hg_ hnew_
        (first | rw [← Ny130.out] at ho24 | (simp only [Int.reduceToNat] at ho24; rw [← Ny130.out] at ho24))
        have n0_ := Aside0.mk (Kd.V_elder' (by (with_reducible repeat (first | apply Kd.V_alloc | apply Kd.V_drewN | apply Kd.V_drew)); exact HO0.out) (Kd.N_base ho24) hb)
        have n1_ := Aside0.mk (Kd.V_elder' (by (with_reducible repeat (first | apply Kd.V_alloc | apply Kd.V_drewN | apply Kd.V_drew)); exact HO129.out) (Kd.N_base ho24) hb)
        have n2_ := Aside0.mk (Kd.V_elder' (by (with_reducible repeat (first | apply Kd.V_alloc | apply Kd.V_drewN | apply Kd.V_drew)); exact HO141.out) (Kd.N_base ho24) hb)
        have n3_ := Aside0.mk (Kd.N_lower ho24 (below_size (by repeat (first | (with_reducible first | exact HB.out | apply below_alloc | apply pw_below_drewN | apply below_drew1) | exact HB.out))))
        have n4_ := Aside0.mk (below_step (by repeat (first | (with_reducible first | exact HB.out | apply below_alloc | apply pw_below_drewN | apply below_drew1) | exact HB.out)) hb)
        clear HO0
        clear HO129
        clear HO141
        clear HB
        have HO0 := n0_
        have HO129 := n1_
        have HO141 := n2_
        have HO132 := n3_
        have HB := n4_
        clear n0_ n1_ n2_ n3_ n4_
        clear hb ho24
        obtain ⟨Ao25, co25, eo25⟩ := Kd.N_slice HO132.out
        (first | subst eo25 | (injection eo25 with f1_ f2_ f3_; have f4_ := f1_.symm; have f5_ := f3_.symm; clear f1_ f2_ f3_; subst f4_; subst f5_))
        refine hK.out _ _ trivial (fun hHeld => ?_)
        clear hK K
        refine norm_ (a' := ?_) ?_ ?_
        rotate_left
        · show Act.put _ (some 11) _ = _
          simp only [Act.put, List.setIfInBounds_toArray, List.set_cons_zero, List.set_cons_succ, i64_w, i32_w]
          rfl
        refine one_ (i := 2) (N := some 12) #[true, true, true, false, true, true, false, false] rfl rfl (one_of HT_.out (by kernel_rfl)) (by decide) (fun K hK => ?_)
        refine goes_ Try.func21 (by kernel_rfl) rfl #[.slice Ao25 y130.length co25] (by rfl) rfl rfl (by (try simp only [List.map_toArray, List.map_cons, List.map_nil]); first | done | rfl | (simp only [List.length_drop, List.length_take]; rfl)) ?_
        with_reducible refine (check_Sum.calls _ _ y130 t133 _ ?side1 ?side2 A4.out).mono ?_
        (case side1 => repeat (first | exact (Kd.N_reads' HO132.out).2.2 | (with_reducible refine Kd.C_alloc ?_ _) | (with_reducible refine Kd.C_drewN ?_ _) | (with_reducible refine Kd.C_drew ?_)))
        (case side2 => exact (Kd.N_reads' HO132.out).2.1)
        rintro e w26 ⟨rfl, hb⟩
        refine ⟨_, rfl, ?_⟩
        have n0_ := Aside0.mk (Kd.V_below (by (with_reducible repeat (first | apply Kd.V_alloc | apply Kd.V_drewN | apply Kd.V_drew)); exact HO0.out) hb)
        have n1_ := Aside0.mk (Kd.V_below (by (with_reducible repeat (first | apply Kd.V_alloc | apply Kd.V_drewN | apply Kd.V_drew)); exact HO129.out) hb)
        have n2_ := Aside0.mk (Kd.V_below (by (with_reducible repeat (first | apply Kd.V_alloc | apply Kd.V_drewN | apply Kd.V_drew)); exact HO141.out) hb)
        have n3_ := Aside0.mk (Kd.N_below (by (with_reducible repeat (first | apply Kd.N_alloc | apply Kd.N_drewN | apply Kd.N_drew)); exact HO132.out) hb)
        have n4_ := Aside0.mk (below_step (by repeat (first | (with_reducible first | exact HB.out | apply below_alloc | apply pw_below_drewN | apply below_drew1) | exact HB.out)) hb)
        clear HO0
        clear HO129
        clear HO141
        clear HO132
        clear HB
        have HO0 := n0_
        have HO129 := n1_
        have HO141 := n2_
        have HO132 := n3_
        have HB := n4_
        clear n0_ n1_ n2_ n3_ n4_
        (try clear hb)
        (try clear hb2)
        (try clear hk)
        (try clear hi)
        refine hK.out _ _ trivial (fun hHeld => ?_)
        clear hK K
        refine norm_ (a' := ?_) ?_ ?_
        rotate_left
        · show Act.put _ (some 12) _ = _
          simp only [Act.put, List.setIfInBounds_toArray, List.set_cons_zero, List.set_cons_succ, i64_w, i32_w]
          rfl
        refine one_ (i := 3) (N := some 13) #[true, true, true, true, true, true, false, false] rfl rfl (one_of HT_.out (by kernel_rfl)) (by decide) (fun K hK => ?_)
        refine goes_ Try.func34 (by kernel_rfl) rfl #[.int .u32 t133] (by rfl) rfl rfl (by (try simp only [List.map_toArray, List.map_cons, List.map_nil]); first | done | rfl | (simp only [List.length_drop, List.length_take]; rfl)) ?_
        with_reducible refine (check_told.calls k t133 t134 _ A5.out).mono ?_
        rintro e w27 ⟨v135, rfl, ho0, hb⟩
        refine ⟨_, rfl, ?_⟩
        have n0_ := Aside0.mk (Kd.V_elder' (by (with_reducible repeat (first | apply Kd.V_alloc | apply Kd.V_drewN | apply Kd.V_drew)); exact HO0.out) (Kd.R_base ho0) hb)
        have n1_ := Aside0.mk (Kd.V_elder' (by (with_reducible repeat (first | apply Kd.V_alloc | apply Kd.V_drewN | apply Kd.V_drew)); exact HO129.out) (Kd.R_base ho0) hb)
        have n2_ := Aside0.mk (Kd.V_elder' (by (with_reducible repeat (first | apply Kd.V_alloc | apply Kd.V_drewN | apply Kd.V_drew)); exact HO141.out) (Kd.R_base ho0) hb)
        have n3_ := Aside0.mk (Kd.N_elder' (by (with_reducible repeat (first | apply Kd.N_alloc | apply Kd.N_drewN | apply Kd.N_drew)); exact HO132.out) (Kd.R_base ho0) hb)
        have n4_ := Aside0.mk (Kd.R_lower (Kd.R_newM (M := fun k_ => (w.heap.size ≤ k_)) ho0 (below_size (by repeat (first | (with_reducible first | exact HB.out | apply below_alloc | apply pw_below_drewN | apply below_drew1) | exact HB.out))) (fun k_ h_ => h_)) (below_size (by repeat (first | (with_reducible first | exact HB.out | apply below_alloc | apply pw_below_drewN | apply below_drew1) | exact HB.out))))
        have n5_ := Aside0.mk (below_step (by repeat (first | (with_reducible first | exact HB.out | apply below_alloc | apply pw_below_drewN | apply below_drew1) | exact HB.out)) hb)
        clear HO0
        clear HO129
        clear HO141
        clear HO132
        clear HB
        have HO0 := n0_
        have HO129 := n1_
        have HO141 := n2_
        have HO132 := n3_
        have HO136 := n4_
        have HB := n5_
        clear n0_ n1_ n2_ n3_ n4_ n5_
        (try clear hb)
        (try clear hb2)
        (try clear hk)
        (try clear hi)
        (try clear ho0)
        obtain ⟨Ao28, co28, eo28⟩ := Kd.R_slice HO136.out
        (first | subst eo28 | (injection eo28 with f1_ f2_ f3_; have f4_ := f1_.symm; have f5_ := f3_.symm; clear f1_ f2_ f3_; subst f4_; subst f5_))
        refine hK.out _ _ trivial (fun hHeld => ?_)
        clear hK K
        refine norm_ (a' := ?_) ?_ ?_
        rotate_left
        · show Act.put _ (some 13) _ = _
          simp only [Act.put, List.setIfInBounds_toArray, List.set_cons_zero, List.set_cons_succ, i64_w, i32_w]
          rfl
        refine one_ (i := 6) (N := some 16) #[true, true, true, true, true, true, true, false] rfl rfl (one_of HT_.out (by kernel_rfl)) (by decide) (fun K hK => ?_)
        refine goes_ Try.func33 (by kernel_rfl) rfl #[.slice Ao28 t134.length co28, .slice A0 y137.length c0] (by rfl) rfl rfl (by (try simp only [List.map_toArray, List.map_cons, List.map_nil]); first | done | rfl | (simp only [List.length_drop, List.length_take]; rfl)) ?_
        with_reducible refine (bytes_Equal.calls _ _ t134 _ _ y137 false _ ?side1 ?side2 ?side3 ?side4 A7.out).mono ?_
        (case side1 => repeat (first | exact (Kd.R_reads' HO136.out).2.2 | (with_reducible refine Kd.C_alloc ?_ _) | (with_reducible refine Kd.C_drewN ?_ _) | (with_reducible refine Kd.C_drew ?_)))
        (case side2 => exact (Kd.R_reads' HO136.out).2.1)
        (case side3 => repeat (first | exact (Kd.V_reads' HO141.out).2.2 | (with_reducible refine Kd.C_alloc ?_ _) | (with_reducible refine Kd.C_drewN ?_ _) | (with_reducible refine Kd.C_drew ?_)))
        (case side4 => exact (Kd.V_reads' HO141.out).2.1)
        rintro e w' ⟨rfl, ⟨nd, rfl⟩⟩
        refine ⟨_, rfl, ?_⟩
        refine hK.out _ _ trivial (fun hHeld => ?_)
        clear hK K
        refine norm_ (a' := ?_) ?_ ?_
        rotate_left
        · show Act.put _ (some 16) _ = _
          simp only [Act.put, List.setIfInBounds_toArray, List.set_cons_zero, List.set_cons_succ, i64_w, i32_w]
          rfl
        refine pure_ (i := 7) (N := some 17) (v := ?_) (a' := ?_) #[true, true, true, true, true, true, true, true] rfl rfl (any_of HT_.out (by kernel_rfl)) (fun _ _ _ h => h) (Or.inl ⟨by rfl, ?_⟩) ?_ ?_
        rotate_left
        · intro w'
          go_simp
          with_reducible rfl
        rotate_left
        · simp only [Act.put, List.setIfInBounds_toArray, List.set_cons_zero, List.set_cons_succ, i64_w, i32_w]
          rfl
        refine done_ (done_of HT_.out (by kernel_rfl)) ?_
        try go_wp2
        go_ret2
        exact ⟨_, by first | rfl | (simp [errW_none, errW_some] <;> rfl) | (simp [*, errW_none, errW_some] <;> rfl), by first | exact Kd.R_nil _ _ _ _ _ | exact Kd.N_nil _ _ _ _ _ | exact Kd.V_nil _ _ _ _ _ | exact Kd.Q_nil _ _ _ _ _ | exact Kd.S_nil _ _ _ _ _, by repeat (first | (with_reducible first | exact HB.out | apply below_alloc | apply pw_below_drewN | apply below_drew1) | exact HB.out)⟩
    · rw [if_neg c3] at H
      exact absurd H (by simp)

-- NOT PRINTED: function 44 (wire_reader_number)

-- NOT PRINTED: function 43 (wire_reader_read)

-- NOT PRINTED: function 40 (wire_got)

-- NOT PRINTED: function 30 (wire_Get)

-- NOT PRINTED: function 24 (fourinhandlaw07_awake)

/-! ### fourinhandlaw07_light: function 25 -/
def fourinhandlaw07_light.f (a0_0 : Int) (a0_1 : Int) (a0_2 : Bool) (a0_3 : Bool) (a0_4 : Int) (a0_5 : Int) (a0_6 : Int) (a0_7 : Int) (a0_8 : Int) (a0_9 : Int) (a0_10 : Int) (a0_11 : Int) (a0_12 : Int) (l0_13 : List (S58)) (l0_14 : List Int) : Option (Bool) := if (l0_14.length : Int) ≤ 1600 then (some (decide ((l0_13.length : Int) ≤ 50))) else (some false)
set_option maxHeartbeats 8000000 in
set_option maxRecDepth 100000 in
theorem fourinhandlaw07_light.calls (a0_0 : Int) (a0_1 : Int) (a0_2 : Bool) (a0_3 : Bool) (a0_4 : Int) (a0_5 : Int) (a0_6 : Int) (a0_7 : Int) (a0_8 : Int) (a0_9 : Int) (a0_10 : Int) (a0_11 : Int) (a0_12 : Int) (A0_13 : Option Addr) (c0_13 : Nat) (l0_13 : List (S58)) (A0_14 : Option Addr) (c0_14 : Nat) (l0_14 : List Int) (r : Bool) (w : World) (hr0_13 : Kd.C k58 w A0_13 l0_13.length l0_13) (hc0_13 : l0_13.length ≤ c0_13) (hr0_14 : Kd.C (Kd.int .u8) w A0_14 l0_14.length l0_14) (hc0_14 : l0_14.length ≤ c0_14) (h : fourinhandlaw07_light.f a0_0 a0_1 a0_2 a0_3 a0_4 a0_5 a0_6 a0_7 a0_8 a0_9 a0_10 a0_11 a0_12 l0_13 l0_14 = some r) :
    Calls Try.prog 25 #[.agg #[.int .i64 a0_0, .int .i64 a0_1, .bool a0_2, .bool a0_3, .int .u32 a0_4, .int .u32 a0_5, .int .u32 a0_6, .int .u32 a0_7, .int .i64 a0_8, .int .i64 a0_9, .int .u32 a0_10, .int .u32 a0_11, .int .u32 a0_12, .slice A0_13 l0_13.length c0_13, .slice A0_14 l0_14.length c0_14]] w fun e w' => e = .returned (.bool r) ∧ Below w.heap.size w w' := by
  have hu41 := Try.underlying41
  have HR0_13 := Aside0.mk hr0_13
  have HC0_13 := Aside0.mk hc0_13
  clear hr0_13 hc0_13
  have HR0_14 := Aside0.mk hr0_14
  have HC0_14 := Aside0.mk hc0_14
  clear hr0_14 hc0_14
  have HB := Aside0.mk (Below.refl w.heap.size w)
  have H : (if (l0_14.length : Int) ≤ 1600 then (some (decide ((l0_13.length : Int) ≤ 50))) else (some false)) = some r := h
  clear h
  by_cases c2 : (l0_14.length : Int) ≤ 1600
  · rw [if_pos c2] at H
    have c2b0 : decide ((l0_14.length : Int) ≤ 1600) = true := decide_eq_true c2
    have c2b1 : decide (l0_14.length ≤ 1600) = true := decide_eq_true (by omega)
    clear c2
    obtain rfl := Option.some.inj H
    go_enter Try.func25, Try.ntmps25
    go_wp2_with (first | ((with_reducible refine gate_dst (N := 1) rfl ?_); (try (refine gate_guard (by rfl) ?_; dsimp only)); refine box_event ?hg (N := 1) ?hd (cs := #[.int .i64 a0_0, .int .i64 a0_1, .bool a0_2, .bool a0_3, .int .u32 a0_4, .int .u32 a0_5, .int .u32 a0_6, .int .u32 a0_7, .int .i64 a0_8, .int .i64 a0_9, .int .u32 a0_10, .int .u32 a0_11, .int .u32 a0_12, .slice A0_13 l0_13.length c0_13, .slice A0_14 l0_14.length c0_14]) (t := 41) ?hr ?_; (case hd => rfl); (case hg => rfl); (case hr => first | (go_simp; done) | (go_simp; rfl)); intro gb152 hg w3 hbox hb; have n0_ := Aside0.mk (below_step (by repeat (first | (with_reducible first | exact HB.out | apply below_alloc | apply pw_below_drewN | apply below_drew1) | exact HB.out)) hb); have n1_ := Aside0.mk (hbox); have n2_ := Aside0.mk ((by rw [hg]; exact (below_size (by repeat (first | (with_reducible first | exact HB.out | apply below_alloc | apply pw_below_drewN | apply below_drew1) | exact HB.out))) : w.heap.size ≤ gb152)); have n3_ := Aside0.mk ((by rw [hg]; exact (below_size (by repeat (first | (with_reducible first | exact HB.out | apply below_alloc | apply pw_below_drewN | apply below_drew1) | exact HB.out))) : w.heap.size ≤ gb152)); clear HB; have HB := n0_; have BK152 := n1_; have GW152 := n2_; have GE152 := n3_; clear n0_ n1_ n2_ n3_; clear hb hbox hg; have hcz4_0 : w3.cell? ⟨gb152, 0, none⟩ = some (.int .i64 a0_0) := (blk_cell BK152.out 0).trans rfl; have hcz4_1 : w3.cell? ⟨gb152, 1, none⟩ = some (.int .i64 a0_1) := (blk_cell BK152.out 1).trans rfl; have hcz4_2 : w3.cell? ⟨gb152, 2, none⟩ = some (.bool a0_2) := (blk_cell BK152.out 2).trans rfl; have hcz4_3 : w3.cell? ⟨gb152, 3, none⟩ = some (.bool a0_3) := (blk_cell BK152.out 3).trans rfl; have hcz4_4 : w3.cell? ⟨gb152, 4, none⟩ = some (.int .u32 a0_4) := (blk_cell BK152.out 4).trans rfl; have hcz4_5 : w3.cell? ⟨gb152, 5, none⟩ = some (.int .u32 a0_5) := (blk_cell BK152.out 5).trans rfl; have hcz4_6 : w3.cell? ⟨gb152, 6, none⟩ = some (.int .u32 a0_6) := (blk_cell BK152.out 6).trans rfl; have hcz4_7 : w3.cell? ⟨gb152, 7, none⟩ = some (.int .u32 a0_7) := (blk_cell BK152.out 7).trans rfl; have hcz4_8 : w3.cell? ⟨gb152, 8, none⟩ = some (.int .i64 a0_8) := (blk_cell BK152.out 8).trans rfl; have hcz4_9 : w3.cell? ⟨gb152, 9, none⟩ = some (.int .i64 a0_9) := (blk_cell BK152.out 9).trans rfl; have hcz4_10 : w3.cell? ⟨gb152, 10, none⟩ = some (.int .u32 a0_10) := (blk_cell BK152.out 10).trans rfl; have hcz4_11 : w3.cell? ⟨gb152, 11, none⟩ = some (.int .u32 a0_11) := (blk_cell BK152.out 11).trans rfl; have hcz4_12 : w3.cell? ⟨gb152, 12, none⟩ = some (.int .u32 a0_12) := (blk_cell BK152.out 12).trans rfl; have hcz4_13 : w3.cell? ⟨gb152, 13, none⟩ = some (.slice A0_13 l0_13.length c0_13) := (blk_cell BK152.out 13).trans rfl; have hcz4_14 : w3.cell? ⟨gb152, 14, none⟩ = some (.slice A0_14 l0_14.length c0_14) := (blk_cell BK152.out 14).trans rfl; have hfz4_0 := blk_frozen BK152.out 0; have hfz4_1 := blk_frozen BK152.out 1; have hfz4_2 := blk_frozen BK152.out 2; have hfz4_3 := blk_frozen BK152.out 3; have hfz4_4 := blk_frozen BK152.out 4; have hfz4_5 := blk_frozen BK152.out 5; have hfz4_6 := blk_frozen BK152.out 6; have hfz4_7 := blk_frozen BK152.out 7; have hfz4_8 := blk_frozen BK152.out 8; have hfz4_9 := blk_frozen BK152.out 9; have hfz4_10 := blk_frozen BK152.out 10; have hfz4_11 := blk_frozen BK152.out 11; have hfz4_12 := blk_frozen BK152.out 12; have hfz4_13 := blk_frozen BK152.out 13; have hfz4_14 := blk_frozen BK152.out 14))
    go_ret
    exact ⟨by first | rfl | (simp [errW_none, errW_some] <;> rfl) | (simp [*, errW_none, errW_some] <;> rfl), by repeat (first | (with_reducible first | exact HB.out | apply below_alloc | apply pw_below_drewN | apply below_drew1 | refine below_set ?_ GE152.out) | exact HB.out)⟩
  · rw [if_neg c2] at H
    have c2b0 : decide ((l0_14.length : Int) ≤ 1600) = false := decide_eq_false c2
    have c2b1 : decide (l0_14.length ≤ 1600) = false := decide_eq_false (by omega)
    clear c2
    obtain rfl := Option.some.inj H
    go_enter Try.func25, Try.ntmps25
    go_wp2_with (first | ((with_reducible refine gate_dst (N := 1) rfl ?_); (try (refine gate_guard (by rfl) ?_; dsimp only)); refine box_event ?hg (N := 1) ?hd (cs := #[.int .i64 a0_0, .int .i64 a0_1, .bool a0_2, .bool a0_3, .int .u32 a0_4, .int .u32 a0_5, .int .u32 a0_6, .int .u32 a0_7, .int .i64 a0_8, .int .i64 a0_9, .int .u32 a0_10, .int .u32 a0_11, .int .u32 a0_12, .slice A0_13 l0_13.length c0_13, .slice A0_14 l0_14.length c0_14]) (t := 41) ?hr ?_; (case hd => rfl); (case hg => rfl); (case hr => first | (go_simp; done) | (go_simp; rfl)); intro gb152 hg w5 hbox hb; have n0_ := Aside0.mk (below_step (by repeat (first | (with_reducible first | exact HB.out | apply below_alloc | apply pw_below_drewN | apply below_drew1) | exact HB.out)) hb); have n1_ := Aside0.mk (hbox); have n2_ := Aside0.mk ((by rw [hg]; exact (below_size (by repeat (first | (with_reducible first | exact HB.out | apply below_alloc | apply pw_below_drewN | apply below_drew1) | exact HB.out))) : w.heap.size ≤ gb152)); have n3_ := Aside0.mk ((by rw [hg]; exact (below_size (by repeat (first | (with_reducible first | exact HB.out | apply below_alloc | apply pw_below_drewN | apply below_drew1) | exact HB.out))) : w.heap.size ≤ gb152)); clear HB; have HB := n0_; have BK152 := n1_; have GW152 := n2_; have GE152 := n3_; clear n0_ n1_ n2_ n3_; clear hb hbox hg; have hcz6_0 : w5.cell? ⟨gb152, 0, none⟩ = some (.int .i64 a0_0) := (blk_cell BK152.out 0).trans rfl; have hcz6_1 : w5.cell? ⟨gb152, 1, none⟩ = some (.int .i64 a0_1) := (blk_cell BK152.out 1).trans rfl; have hcz6_2 : w5.cell? ⟨gb152, 2, none⟩ = some (.bool a0_2) := (blk_cell BK152.out 2).trans rfl; have hcz6_3 : w5.cell? ⟨gb152, 3, none⟩ = some (.bool a0_3) := (blk_cell BK152.out 3).trans rfl; have hcz6_4 : w5.cell? ⟨gb152, 4, none⟩ = some (.int .u32 a0_4) := (blk_cell BK152.out 4).trans rfl; have hcz6_5 : w5.cell? ⟨gb152, 5, none⟩ = some (.int .u32 a0_5) := (blk_cell BK152.out 5).trans rfl; have hcz6_6 : w5.cell? ⟨gb152, 6, none⟩ = some (.int .u32 a0_6) := (blk_cell BK152.out 6).trans rfl; have hcz6_7 : w5.cell? ⟨gb152, 7, none⟩ = some (.int .u32 a0_7) := (blk_cell BK152.out 7).trans rfl; have hcz6_8 : w5.cell? ⟨gb152, 8, none⟩ = some (.int .i64 a0_8) := (blk_cell BK152.out 8).trans rfl; have hcz6_9 : w5.cell? ⟨gb152, 9, none⟩ = some (.int .i64 a0_9) := (blk_cell BK152.out 9).trans rfl; have hcz6_10 : w5.cell? ⟨gb152, 10, none⟩ = some (.int .u32 a0_10) := (blk_cell BK152.out 10).trans rfl; have hcz6_11 : w5.cell? ⟨gb152, 11, none⟩ = some (.int .u32 a0_11) := (blk_cell BK152.out 11).trans rfl; have hcz6_12 : w5.cell? ⟨gb152, 12, none⟩ = some (.int .u32 a0_12) := (blk_cell BK152.out 12).trans rfl; have hcz6_13 : w5.cell? ⟨gb152, 13, none⟩ = some (.slice A0_13 l0_13.length c0_13) := (blk_cell BK152.out 13).trans rfl; have hcz6_14 : w5.cell? ⟨gb152, 14, none⟩ = some (.slice A0_14 l0_14.length c0_14) := (blk_cell BK152.out 14).trans rfl; have hfz6_0 := blk_frozen BK152.out 0; have hfz6_1 := blk_frozen BK152.out 1; have hfz6_2 := blk_frozen BK152.out 2; have hfz6_3 := blk_frozen BK152.out 3; have hfz6_4 := blk_frozen BK152.out 4; have hfz6_5 := blk_frozen BK152.out 5; have hfz6_6 := blk_frozen BK152.out 6; have hfz6_7 := blk_frozen BK152.out 7; have hfz6_8 := blk_frozen BK152.out 8; have hfz6_9 := blk_frozen BK152.out 9; have hfz6_10 := blk_frozen BK152.out 10; have hfz6_11 := blk_frozen BK152.out 11; have hfz6_12 := blk_frozen BK152.out 12; have hfz6_13 := blk_frozen BK152.out 13; have hfz6_14 := blk_frozen BK152.out 14))
    go_ret
    exact ⟨by first | rfl | (simp [errW_none, errW_some] <;> rfl) | (simp [*, errW_none, errW_some] <;> rfl), by repeat (first | (with_reducible first | exact HB.out | apply below_alloc | apply pw_below_drewN | apply below_drew1 | refine below_set ?_ GE152.out) | exact HB.out)⟩

/-! ### fourinhandref03_Sum: function 22 -/
def fourinhandref03_Sum.l0 : Nat → List Int → Int → Int → Int → Option (Int)
  | 0, _, _, _, _ => none
  | k + 1, x0, x3, x4, x5 => if x5 < (x0.length : Int) then (if 0 ≤ x5 then (fourinhandref03_Sum.l0 k x0 (wrap64 (x3 + (wrap64 (rd x0 x5)))) (wrap64 (x4 + (Int.tmod (wrap64 (x3 + (wrap64 (rd x0 x5)))) 65521))) (wrap64 (x5 + 1))) else (none)) else (some (wrap64 ((wrap64 (65536 * (Int.tmod x4 65521))) + (Int.tmod x3 65521))))
def fourinhandref03_Sum.f (k : Nat) (l0 : List Int) : Option (Int) := fourinhandref03_Sum.l0 k l0 1 0 0
theorem fourinhandref03_Sum.mono_l : ∀ k, (∀ y0 y1 y2 y3, LeO (fourinhandref03_Sum.l0 k y0 y1 y2 y3) (fourinhandref03_Sum.l0 (k + 1) y0 y1 y2 y3))
  | 0 => fun _ _ _ _ r h => by simp [fourinhandref03_Sum.l0] at h
  | k + 1 => by
    have ih0 := fourinhandref03_Sum.mono_l k
    · intro y0 y1 y2 y3
      unfold fourinhandref03_Sum.l0
      repeat' first
      | (with_reducible exact ih0 _ _ _ _)
      | (with_reducible exact LeO.refl _)
      | (with_reducible exact LeO.none _)
      | (with_reducible refine LeO.ite ?_ ?_)
      | (with_reducible refine LeO.bind ?_ (fun _ => ?_))
      | exact ih0 _ _ _ _
      | exact LeO.none _
      | refine LeO.ite ?_ ?_
      | refine LeO.bind ?_ (fun _ => ?_)
theorem fourinhandref03_Sum.mono : ∀ a0 k, LeO (fourinhandref03_Sum.f k a0) (fourinhandref03_Sum.f (k + 1) a0) := by
  intro a0 k
  have ih0 := fourinhandref03_Sum.mono_l k
  unfold fourinhandref03_Sum.f
  repeat' first
      | (with_reducible exact ih0 _ _ _ _)
      | (with_reducible exact LeO.refl _)
      | (with_reducible exact LeO.none _)
      | (with_reducible refine LeO.ite ?_ ?_)
      | (with_reducible refine LeO.bind ?_ (fun _ => ?_))
      | exact ih0 _ _ _ _
      | exact LeO.none _
      | refine LeO.ite ?_ ?_
      | refine LeO.bind ?_ (fun _ => ?_)
set_option maxHeartbeats 8000000 in
set_option maxRecDepth 100000 in
theorem fourinhandref03_Sum.calls (k : Nat) (A0 : Option Addr) (c0 : Nat) (l0 : List Int) (r : Int) (w : World) (hr0 : Kd.C (Kd.int .u8) w A0 l0.length l0) (hc0 : l0.length ≤ c0) (h : fourinhandref03_Sum.f k l0 = some r) :
    Calls Try.prog 22 #[.slice A0 l0.length c0] w fun e w' => e = .returned (.int .i64 r) ∧ Drawn0 w w' := by
  have HR0 := Aside0.mk hr0
  have HC0 := Aside0.mk hc0
  clear hr0 hc0
  have H : (fourinhandref03_Sum.l0 k l0 1 0 0) = some r := h
  clear h
  have H' := Aside0.mk H
  clear H
  go_enter Try.func22, Try.ntmps22
  go_wp2
  go_loopg [3, 4, 5] k (fun kq v3 v4 v5 w' => ∃ (x3_1 : Int) (x4_1 : Int) (x5_1 : Int), v3 = .int .i64 x3_1 ∧ v4 = .int .i64 x4_1 ∧ v5 = .int .i64 x5_1 ∧ Aside0 (fourinhandref03_Sum.l0 kq l0 x3_1 x4_1 x5_1 = some r) ∧ Aside0 (kq ≤ k) ∧ Drawn0 w w')
  case atStart => exact ⟨(1), (0), (0), (by first | rfl | (simp; done) | (simp [*]; done)), (by first | rfl | (simp; done) | (simp [*]; done)), (by first | rfl | (simp; done) | (simp [*]; done)), H', ⟨Nat.le_refl _⟩, by repeat (first | exact Drawn0.refl _ | apply Drawn0.step)⟩
  case round =>
    clear H'
    obtain ⟨x3_1, x4_1, x5_1, rfl, rfl, rfl, HA, HK1, ⟨m1, rfl⟩⟩ := hrel
    cases gk with
    | zero => exact absurd HA.out (by simp [fourinhandref03_Sum.l0])
    | succ k1 =>
      have H := HA.out
      clear HA
      simp only [fourinhandref03_Sum.l0] at H
      by_cases c2 : x5_1 < (l0.length : Int)
      · rw [if_pos c2] at H
        have c2b0 : decide (x5_1 < (l0.length : Int)) = true := decide_eq_true c2
        clear c2
        by_cases c3 : 0 ≤ x5_1
        · rw [if_pos c3] at H
          have c3b0 : decide (0 ≤ x5_1) = true := decide_eq_true c3
          clear c3
          have H' := Aside0.mk H
          clear H
          have p153 : 0 ≤ (x5_1 : Int) := of_decide_eq_true (by first | (with_reducible assumption) | assumption)
          have q153 : x5_1 < (l0.length : Int) := of_decide_eq_true (by first | (with_reducible assumption) | assumption)
          obtain ⟨ad153, e153, hx153_0⟩ := Kd.at_int HR0.out x5_1 p153 q153
          cases e153
          replace p153 := eq_true p153
          replace q153 := eq_true q153
          go_wp2
          go_roundg k1
          case measure => have := HK1.out; omega
          case rel => exact ⟨(wrap64 (x3_1 + (wrap64 (rd l0 x5_1)))), (wrap64 (x4_1 + (Int.tmod (wrap64 (x3_1 + (wrap64 (rd l0 x5_1)))) 65521))), (wrap64 (x5_1 + 1)), (by first | rfl | (simp; done) | (simp [*]; done)), (by first | rfl | (simp; done) | (simp [*]; done)), (by first | rfl | (simp; done) | (simp [*]; done)), H', ⟨by have := HK1.out; omega⟩, by repeat (first | exact Drawn0.refl _ | apply Drawn0.step)⟩
        · rw [if_neg c3] at H
          exact absurd H (by simp)
      · rw [if_neg c2] at H
        have c2b0 : decide (x5_1 < (l0.length : Int)) = false := decide_eq_false c2
        clear c2
        obtain rfl := Option.some.inj H
        go_wp2
        go_ret
        exact ⟨by first | rfl | (simp; done) | (simp [*]; done), by repeat (first | exact Drawn0.refl _ | apply Drawn0.step)⟩

/-! ### fourinhandref03_Four: function 36 -/
def fourinhandref03_Four.f (a0 : Int) : Option (List Int) := some (([(Int.tmod (wrap64 (Int.tdiv a0 16777216)) 256) % 256, (Int.tmod (wrap64 (Int.tdiv a0 65536)) 256) % 256, (Int.tmod (wrap64 (Int.tdiv a0 256)) 256) % 256, (Int.tmod a0 256) % 256] : List Int))
set_option maxHeartbeats 8000000 in
set_option maxRecDepth 100000 in
theorem fourinhandref03_Four.calls (a0 : Int) (r : List Int) (w : World) (h : fourinhandref03_Four.f a0 = some r) :
    Calls Try.prog 36 #[.int .i64 a0] w fun e w' => ∃ v0_ : Value, e = .returned (v0_) ∧ Kd.R (Kd.int .u8) 5 w' w.heap.size (fun _ => True) v0_ r ∧ Below w.heap.size w w' := by
  have HB := Aside0.mk (Below.refl w.heap.size w)
  have H : (some (([(Int.tmod (wrap64 (Int.tdiv a0 16777216)) 256) % 256, (Int.tmod (wrap64 (Int.tdiv a0 65536)) 256) % 256, (Int.tmod (wrap64 (Int.tdiv a0 256)) 256) % 256, (Int.tmod a0 256) % 256] : List Int))) = some r := h
  clear h
  obtain ⟨y154, hy154⟩ : ∃ y_ : List Int, y_ = (([(Int.tmod (wrap64 (Int.tdiv a0 16777216)) 256) % 256, (Int.tmod (wrap64 (Int.tdiv a0 65536)) 256) % 256, (Int.tmod (wrap64 (Int.tdiv a0 256)) 256) % 256, (Int.tmod a0 256) % 256] : List Int)) := ⟨_, rfl⟩
  replace H : (some y154) = some r := by first | (rw [hy154]; with_reducible exact H) | (have H2_ := (Option.bind_some _ _).symm.trans H; rw [hy154]; with_reducible exact H2_) | (have H2_ := (Option.bind_some _ _).symm.trans H; with_reducible exact H2_) | with_reducible exact H | (rw [hy154]; exact H) | exact H
  have Ny154 := Aside0.mk hy154
  clear hy154
  obtain rfl := Option.some.inj H
  go_enter Try.func36, Try.ntmps36
  go_wp2_with (first | ((with_reducible refine gate_dst (N := 18) rfl ?_); refine Kd.R_lit (Kd.int .u8) _ 5 ?hg (N := 18) ?hd (xs := ([(Int.tmod (wrap64 (Int.tdiv a0 16777216)) 256) % 256, (Int.tmod (wrap64 (Int.tdiv a0 65536)) 256) % 256, (Int.tmod (wrap64 (Int.tdiv a0 256)) 256) % 256, (Int.tmod a0 256) % 256] : List Int)) (inner := [.int .u8 ((Int.tmod (wrap64 (Int.tdiv a0 16777216)) 256) % 256), .int .u8 ((Int.tmod (wrap64 (Int.tdiv a0 65536)) 256) % 256), .int .u8 ((Int.tmod (wrap64 (Int.tdiv a0 256)) 256) % 256), .int .u8 ((Int.tmod a0 256) % 256)]) (ok := fun _ => True) (okp := fun _ => True) ?hr ?hp (fun _ hk => hk) trivial (Below.refl _ _) (Nat.le_refl _) (by simp) ?_; (case hd => rfl); (case hg => rfl); (case hr => first | (go_simp; done) | (go_simp; rfl)); (case hp => exact (Reps.one (show Kd.M (Kd.int .u8) _ _ _ ((Int.tmod (wrap64 (Int.tdiv a0 16777216)) 256) % 256) [.int .u8 ((Int.tmod (wrap64 (Int.tdiv a0 16777216)) 256) % 256)] from rfl) (Reps.one (show Kd.M (Kd.int .u8) _ _ _ ((Int.tmod (wrap64 (Int.tdiv a0 65536)) 256) % 256) [.int .u8 ((Int.tmod (wrap64 (Int.tdiv a0 65536)) 256) % 256)] from rfl) (Reps.one (show Kd.M (Kd.int .u8) _ _ _ ((Int.tmod (wrap64 (Int.tdiv a0 256)) 256) % 256) [.int .u8 ((Int.tmod (wrap64 (Int.tdiv a0 256)) 256) % 256)] from rfl) (Reps.one (show Kd.M (Kd.int .u8) _ _ _ ((Int.tmod a0 256) % 256) [.int .u8 ((Int.tmod a0 256) % 256)] from rfl) (Reps.none _ _)))))); intro v155 w2 ho3 hb hg_ hnew_; clear hg_ hnew_; (first | rw [← Ny154.out] at ho3 | (simp only [Int.reduceToNat] at ho3; rw [← Ny154.out] at ho3)); have n0_ := Aside0.mk (Kd.R_lower ho3 (below_size (by repeat (first | (with_reducible first | exact HB.out | apply below_alloc | apply pw_below_drewN | apply below_drew1) | exact HB.out)))); have n1_ := Aside0.mk (below_step (by repeat (first | (with_reducible first | exact HB.out | apply below_alloc | apply pw_below_drewN | apply below_drew1) | exact HB.out)) hb); clear HB; have HO156 := n0_; have HB := n1_; clear n0_ n1_; clear hb ho3))
  go_ret
  exact ⟨_, by first | rfl | (simp [errW_none, errW_some] <;> rfl) | (simp [*, errW_none, errW_some] <;> rfl), by (with_reducible repeat (first | apply Kd.R_alloc | apply Kd.R_drewN | apply Kd.R_drew)); exact HO156.out, by repeat (first | (with_reducible first | exact HB.out | apply below_alloc | apply pw_below_drewN | apply below_drew1) | exact HB.out)⟩

/-! ### fourinhandref03_Seal: function 20 -/
def fourinhandref03_Seal.f (k : Nat) (l0 : List Int) : Option (List Int) := (fourinhandref03_Sum.f k l0).bind fun t157 => ((fourinhandref03_Four.f t157).bind fun t158 => (if t158.length + l0.length < 140737488355328 then (some (t158 ++ l0)) else (none)))
theorem fourinhandref03_Seal.mono : ∀ a0 k, LeO (fourinhandref03_Seal.f k a0) (fourinhandref03_Seal.f (k + 1) a0) := by
  intro a0 k
  unfold fourinhandref03_Seal.f
  repeat' first
      | (with_reducible exact fourinhandref03_Sum.mono _ _)
      | (with_reducible exact LeO.refl _)
      | (with_reducible exact LeO.none _)
      | (with_reducible refine LeO.ite ?_ ?_)
      | (with_reducible refine LeO.bind ?_ (fun _ => ?_))
      | exact fourinhandref03_Sum.mono _ _
      | exact LeO.none _
      | refine LeO.ite ?_ ?_
      | refine LeO.bind ?_ (fun _ => ?_)
set_option maxHeartbeats 8000000 in
set_option maxRecDepth 100000 in
theorem fourinhandref03_Seal.calls (k : Nat) (A0 : Option Addr) (c0 : Nat) (l0 : List Int) (r : List Int) (w : World) (hr0 : Kd.C (Kd.int .u8) w A0 l0.length l0) (hc0 : l0.length ≤ c0) (h : fourinhandref03_Seal.f k l0 = some r) :
    Calls Try.prog 20 #[.slice A0 l0.length c0] w fun e w' => ∃ v0_ : Value, e = .returned (v0_) ∧ Kd.R (Kd.int .u8) 5 w' w.heap.size (fun _ => True) v0_ r ∧ Below w.heap.size w w' := by
  have HR0 := Aside0.mk hr0
  have HC0 := Aside0.mk hc0
  clear hr0 hc0
  have HB := Aside0.mk (Below.refl w.heap.size w)
  have H : ((fourinhandref03_Sum.f k l0).bind fun t157 => ((fourinhandref03_Four.f t157).bind fun t158 => (if t158.length + l0.length < 140737488355328 then (some (t158 ++ l0)) else (none)))) = some r := h
  clear h
  replace H := Option.bind_eq_some_iff.mp H
  obtain ⟨t157, A20, H⟩ := H
  replace H : ((fourinhandref03_Four.f t157).bind fun t158 => (if t158.length + l0.length < 140737488355328 then (some (t158 ++ l0)) else (none))) = some r := H
  have A2 := Aside0.mk A20
  clear A20
  replace H := Option.bind_eq_some_iff.mp H
  obtain ⟨t158, A30, H⟩ := H
  replace H : (if t158.length + l0.length < 140737488355328 then (some (t158 ++ l0)) else (none)) = some r := H
  have A3 := Aside0.mk A30
  clear A30
  by_cases c4 : t158.length + l0.length < 140737488355328
  · rw [if_pos c4] at H
    have LMc4 := Aside0.mk c4
    clear c4
    obtain ⟨y161, hy161⟩ : ∃ y_ : List Int, y_ = (t158 ++ l0) := ⟨_, rfl⟩
    replace H : (some y161) = some r := by first | (rw [hy161]; with_reducible exact H) | (have H2_ := (Option.bind_some _ _).symm.trans H; rw [hy161]; with_reducible exact H2_) | (have H2_ := (Option.bind_some _ _).symm.trans H; with_reducible exact H2_) | with_reducible exact H | (rw [hy161]; exact H) | exact H
    have Ny161 := Aside0.mk hy161
    clear hy161
    obtain rfl := Option.some.inj H
    go_enter Try.func20, Try.ntmps20
    go_wp2_with (first | ((with_reducible refine gate_callee (f := 22) rfl ?_); refine goesL_ (some 4) rfl rfl Try.func22 (by kernel_rfl) rfl #[.slice A0 l0.length c0] rfl (by (try simp only [List.map_toArray, List.map_cons, List.map_nil]); first | done | rfl | (simp only [List.length_drop, List.length_take]; rfl)) ?_; (with_reducible refine (fourinhandref03_Sum.calls k _ _ l0 t157 _ ?side1 ?side2 A2.out).mono ?_); (case side1 => repeat (first | exact HR0.out | (with_reducible refine Kd.C_alloc ?_ _) | (with_reducible refine Kd.C_drewN ?_ _) | (with_reducible refine Kd.C_drew ?_))); (case side2 => exact HC0.out); rintro e w' ⟨rfl, ⟨nd, rfl⟩⟩; refine ⟨_, rfl, ?_⟩) | ((with_reducible refine gate_callee (f := 36) rfl ?_); refine goesL_ (some 5) rfl rfl Try.func36 (by kernel_rfl) rfl #[.int .i64 t157] rfl (by (try simp only [List.map_toArray, List.map_cons, List.map_nil]); first | done | rfl | (simp only [List.length_drop, List.length_take]; rfl)) ?_; (with_reducible refine (fourinhandref03_Four.calls t157 t158 _ A3.out).mono ?_); rintro e w5 ⟨v159, rfl, ho0, hb⟩; refine ⟨_, rfl, ?_⟩; have n0_ := Aside0.mk (Kd.R_lower ho0 (below_size (by repeat (first | (with_reducible first | exact HB.out | apply below_alloc | apply pw_below_drewN | apply below_drew1) | exact HB.out)))); have n1_ := Aside0.mk (below_step (by repeat (first | (with_reducible first | exact HB.out | apply below_alloc | apply pw_below_drewN | apply below_drew1) | exact HB.out)) hb); clear HB; have HO160 := n0_; have HB := n1_; clear n0_ n1_; (try clear hb); (try clear hb2); (try clear hk); (try clear hi); (try clear ho0)) | ((with_reducible refine gate_builtin (b := .append) (xs := #[.tmp 5, .tmp 6]) rfl ?_); at_builtin; refine Kd.R_append_rows (Kd.int .u8) (w0 := w) w.heap.size rfl (.tmp 5) (.tmp 6) 23 5 (.int .u8 0) 1 rfl Try.underlying23 info5 rfl (by decide) (by omega) v159 t158 l0 _ _ _ (fun _ => True) (fun _ => False) rfl rfl ?aO ?aR (fun _ _ h => h) (fun _ h => h.elim) ?aF ?aB ?aS ?aL ?_; (case aR => repeat (first | exact (Kd.C_below HR0.out HB.out) | (with_reducible refine Kd.C_alloc ?_ _) | (with_reducible refine Kd.C_drewN ?_ _) | (with_reducible refine Kd.C_drew ?_))); (case aB => exact (by repeat (first | (with_reducible first | exact HB.out | apply below_alloc | apply pw_below_drewN | apply below_drew1) | exact HB.out))); (case aF => exact (fun _ _ => trivial)); (case aO => exact (by (with_reducible repeat (first | apply Kd.R_alloc | apply Kd.R_drewN | apply Kd.R_drew)); exact HO160.out)); (case aS => exact (below_size (by repeat (first | (with_reducible first | exact HB.out | apply below_alloc | apply pw_below_drewN | apply below_drew1) | exact HB.out)))); (case aL => have := LMc4.out; omega); intro v162 w6 ho hb hg hat; rw [← Ny161.out] at ho; have n0_ := Aside0.mk (hb); have n1_ := Aside0.mk (ho); clear HB; clear HO160; have HB := n0_; have HO163 := n1_; clear n0_ n1_; clear ho hb hg hat))
    go_ret
    exact ⟨_, by first | rfl | (simp [errW_none, errW_some] <;> rfl) | (simp [*, errW_none, errW_some] <;> rfl), by (with_reducible repeat (first | apply Kd.R_alloc | apply Kd.R_drewN | apply Kd.R_drew)); exact HO163.out, by repeat (first | (with_reducible first | exact HB.out | apply below_alloc | apply pw_below_drewN | apply below_drew1) | exact HB.out)⟩
  · rw [if_neg c4] at H
    exact absurd H (by simp)

/-! ### fourinhandref07_May: function 29 -/
def fourinhandref07_May.f (a0_0 : Int) (a0_1 : Int) (a0_2 : Bool) (a0_3 : Bool) (a0_4 : Int) (a0_5 : Int) (a0_6 : Int) (a0_7 : Int) (a0_8 : Int) (a0_9 : Int) (a0_10 : Int) (a0_11 : Int) (a0_12 : Int) (l0_13 : List (S58)) (l0_14 : List Int) : Option (Bool) := if a0_0 < 0 then (some false) else (if a0_0 > 4 then (some false) else (if a0_1 < 0 then (some false) else (if a0_1 > 3 then (some false) else (if a0_8 < 0 then (some false) else (if a0_8 > 65535 then (some false) else (if a0_9 < 0 then (some false) else (if a0_9 > 7 then (some false) else (if a0_10 < 16777216 then (if (l0_13.length : Int) ≤ 3 then (some (decide ((l0_14.length : Int) ≤ 1460))) else (some false)) else (some false)))))))))
set_option maxHeartbeats 8000000 in
set_option maxRecDepth 100000 in
theorem fourinhandref07_May.calls (a0_0 : Int) (a0_1 : Int) (a0_2 : Bool) (a0_3 : Bool) (a0_4 : Int) (a0_5 : Int) (a0_6 : Int) (a0_7 : Int) (a0_8 : Int) (a0_9 : Int) (a0_10 : Int) (a0_11 : Int) (a0_12 : Int) (A0_13 : Option Addr) (c0_13 : Nat) (l0_13 : List (S58)) (A0_14 : Option Addr) (c0_14 : Nat) (l0_14 : List Int) (r : Bool) (w : World) (hr0_13 : Kd.C k58 w A0_13 l0_13.length l0_13) (hc0_13 : l0_13.length ≤ c0_13) (hr0_14 : Kd.C (Kd.int .u8) w A0_14 l0_14.length l0_14) (hc0_14 : l0_14.length ≤ c0_14) (h : fourinhandref07_May.f a0_0 a0_1 a0_2 a0_3 a0_4 a0_5 a0_6 a0_7 a0_8 a0_9 a0_10 a0_11 a0_12 l0_13 l0_14 = some r) :
    Calls Try.prog 29 #[.agg #[.int .i64 a0_0, .int .i64 a0_1, .bool a0_2, .bool a0_3, .int .u32 a0_4, .int .u32 a0_5, .int .u32 a0_6, .int .u32 a0_7, .int .i64 a0_8, .int .i64 a0_9, .int .u32 a0_10, .int .u32 a0_11, .int .u32 a0_12, .slice A0_13 l0_13.length c0_13, .slice A0_14 l0_14.length c0_14]] w fun e w' => e = .returned (.bool r) ∧ Below w.heap.size w w' := by
  have hu41 := Try.underlying41
  have HR0_13 := Aside0.mk hr0_13
  have HC0_13 := Aside0.mk hc0_13
  clear hr0_13 hc0_13
  have HR0_14 := Aside0.mk hr0_14
  have HC0_14 := Aside0.mk hc0_14
  clear hr0_14 hc0_14
  have HB := Aside0.mk (Below.refl w.heap.size w)
  have H : (if a0_0 < 0 then (some false) else (if a0_0 > 4 then (some false) else (if a0_1 < 0 then (some false) else (if a0_1 > 3 then (some false) else (if a0_8 < 0 then (some false) else (if a0_8 > 65535 then (some false) else (if a0_9 < 0 then (some false) else (if a0_9 > 7 then (some false) else (if a0_10 < 16777216 then (if (l0_13.length : Int) ≤ 3 then (some (decide ((l0_14.length : Int) ≤ 1460))) else (some false)) else (some false)))))))))) = some r := h
  clear h
  by_cases c2 : a0_0 < 0
  · rw [if_pos c2] at H
    have c2b0 : decide (a0_0 < 0) = true := decide_eq_true c2
    clear c2
    obtain rfl := Option.some.inj H
    go_enter Try.func29, Try.ntmps29
    go_wp2_with (first | ((with_reducible refine gate_dst (N := 1) rfl ?_); (try (refine gate_guard (by rfl) ?_; dsimp only)); refine box_event ?hg (N := 1) ?hd (cs := #[.int .i64 a0_0, .int .i64 a0_1, .bool a0_2, .bool a0_3, .int .u32 a0_4, .int .u32 a0_5, .int .u32 a0_6, .int .u32 a0_7, .int .i64 a0_8, .int .i64 a0_9, .int .u32 a0_10, .int .u32 a0_11, .int .u32 a0_12, .slice A0_13 l0_13.length c0_13, .slice A0_14 l0_14.length c0_14]) (t := 41) ?hr ?_; (case hd => rfl); (case hg => rfl); (case hr => first | (go_simp; done) | (go_simp; rfl)); intro gb164 hg w3 hbox hb; have n0_ := Aside0.mk (below_step (by repeat (first | (with_reducible first | exact HB.out | apply below_alloc | apply pw_below_drewN | apply below_drew1) | exact HB.out)) hb); have n1_ := Aside0.mk (hbox); have n2_ := Aside0.mk ((by rw [hg]; exact (below_size (by repeat (first | (with_reducible first | exact HB.out | apply below_alloc | apply pw_below_drewN | apply below_drew1) | exact HB.out))) : w.heap.size ≤ gb164)); have n3_ := Aside0.mk ((by rw [hg]; exact (below_size (by repeat (first | (with_reducible first | exact HB.out | apply below_alloc | apply pw_below_drewN | apply below_drew1) | exact HB.out))) : w.heap.size ≤ gb164)); clear HB; have HB := n0_; have BK164 := n1_; have GW164 := n2_; have GE164 := n3_; clear n0_ n1_ n2_ n3_; clear hb hbox hg; have hcz4_0 : w3.cell? ⟨gb164, 0, none⟩ = some (.int .i64 a0_0) := (blk_cell BK164.out 0).trans rfl; have hcz4_1 : w3.cell? ⟨gb164, 1, none⟩ = some (.int .i64 a0_1) := (blk_cell BK164.out 1).trans rfl; have hcz4_2 : w3.cell? ⟨gb164, 2, none⟩ = some (.bool a0_2) := (blk_cell BK164.out 2).trans rfl; have hcz4_3 : w3.cell? ⟨gb164, 3, none⟩ = some (.bool a0_3) := (blk_cell BK164.out 3).trans rfl; have hcz4_4 : w3.cell? ⟨gb164, 4, none⟩ = some (.int .u32 a0_4) := (blk_cell BK164.out 4).trans rfl; have hcz4_5 : w3.cell? ⟨gb164, 5, none⟩ = some (.int .u32 a0_5) := (blk_cell BK164.out 5).trans rfl; have hcz4_6 : w3.cell? ⟨gb164, 6, none⟩ = some (.int .u32 a0_6) := (blk_cell BK164.out 6).trans rfl; have hcz4_7 : w3.cell? ⟨gb164, 7, none⟩ = some (.int .u32 a0_7) := (blk_cell BK164.out 7).trans rfl; have hcz4_8 : w3.cell? ⟨gb164, 8, none⟩ = some (.int .i64 a0_8) := (blk_cell BK164.out 8).trans rfl; have hcz4_9 : w3.cell? ⟨gb164, 9, none⟩ = some (.int .i64 a0_9) := (blk_cell BK164.out 9).trans rfl; have hcz4_10 : w3.cell? ⟨gb164, 10, none⟩ = some (.int .u32 a0_10) := (blk_cell BK164.out 10).trans rfl; have hcz4_11 : w3.cell? ⟨gb164, 11, none⟩ = some (.int .u32 a0_11) := (blk_cell BK164.out 11).trans rfl; have hcz4_12 : w3.cell? ⟨gb164, 12, none⟩ = some (.int .u32 a0_12) := (blk_cell BK164.out 12).trans rfl; have hcz4_13 : w3.cell? ⟨gb164, 13, none⟩ = some (.slice A0_13 l0_13.length c0_13) := (blk_cell BK164.out 13).trans rfl; have hcz4_14 : w3.cell? ⟨gb164, 14, none⟩ = some (.slice A0_14 l0_14.length c0_14) := (blk_cell BK164.out 14).trans rfl; have hfz4_0 := blk_frozen BK164.out 0; have hfz4_1 := blk_frozen BK164.out 1; have hfz4_2 := blk_frozen BK164.out 2; have hfz4_3 := blk_frozen BK164.out 3; have hfz4_4 := blk_frozen BK164.out 4; have hfz4_5 := blk_frozen BK164.out 5; have hfz4_6 := blk_frozen BK164.out 6; have hfz4_7 := blk_frozen BK164.out 7; have hfz4_8 := blk_frozen BK164.out 8; have hfz4_9 := blk_frozen BK164.out 9; have hfz4_10 := blk_frozen BK164.out 10; have hfz4_11 := blk_frozen BK164.out 11; have hfz4_12 := blk_frozen BK164.out 12; have hfz4_13 := blk_frozen BK164.out 13; have hfz4_14 := blk_frozen BK164.out 14))
    go_ret
    exact ⟨by first | rfl | (simp [errW_none, errW_some] <;> rfl) | (simp [*, errW_none, errW_some] <;> rfl), by repeat (first | (with_reducible first | exact HB.out | apply below_alloc | apply pw_below_drewN | apply below_drew1 | refine below_set ?_ GE164.out) | exact HB.out)⟩
  · rw [if_neg c2] at H
    have c2b0 : decide (a0_0 < 0) = false := decide_eq_false c2
    clear c2
    by_cases c5 : a0_0 > 4
    · rw [if_pos c5] at H
      have c5b0 : decide (4 < a0_0) = true := decide_eq_true c5
      clear c5
      obtain rfl := Option.some.inj H
      go_enter Try.func29, Try.ntmps29
      go_wp2_with (first | ((with_reducible refine gate_dst (N := 1) rfl ?_); (try (refine gate_guard (by rfl) ?_; dsimp only)); refine box_event ?hg (N := 1) ?hd (cs := #[.int .i64 a0_0, .int .i64 a0_1, .bool a0_2, .bool a0_3, .int .u32 a0_4, .int .u32 a0_5, .int .u32 a0_6, .int .u32 a0_7, .int .i64 a0_8, .int .i64 a0_9, .int .u32 a0_10, .int .u32 a0_11, .int .u32 a0_12, .slice A0_13 l0_13.length c0_13, .slice A0_14 l0_14.length c0_14]) (t := 41) ?hr ?_; (case hd => rfl); (case hg => rfl); (case hr => first | (go_simp; done) | (go_simp; rfl)); intro gb164 hg w6 hbox hb; have n0_ := Aside0.mk (below_step (by repeat (first | (with_reducible first | exact HB.out | apply below_alloc | apply pw_below_drewN | apply below_drew1) | exact HB.out)) hb); have n1_ := Aside0.mk (hbox); have n2_ := Aside0.mk ((by rw [hg]; exact (below_size (by repeat (first | (with_reducible first | exact HB.out | apply below_alloc | apply pw_below_drewN | apply below_drew1) | exact HB.out))) : w.heap.size ≤ gb164)); have n3_ := Aside0.mk ((by rw [hg]; exact (below_size (by repeat (first | (with_reducible first | exact HB.out | apply below_alloc | apply pw_below_drewN | apply below_drew1) | exact HB.out))) : w.heap.size ≤ gb164)); clear HB; have HB := n0_; have BK164 := n1_; have GW164 := n2_; have GE164 := n3_; clear n0_ n1_ n2_ n3_; clear hb hbox hg; have hcz7_0 : w6.cell? ⟨gb164, 0, none⟩ = some (.int .i64 a0_0) := (blk_cell BK164.out 0).trans rfl; have hcz7_1 : w6.cell? ⟨gb164, 1, none⟩ = some (.int .i64 a0_1) := (blk_cell BK164.out 1).trans rfl; have hcz7_2 : w6.cell? ⟨gb164, 2, none⟩ = some (.bool a0_2) := (blk_cell BK164.out 2).trans rfl; have hcz7_3 : w6.cell? ⟨gb164, 3, none⟩ = some (.bool a0_3) := (blk_cell BK164.out 3).trans rfl; have hcz7_4 : w6.cell? ⟨gb164, 4, none⟩ = some (.int .u32 a0_4) := (blk_cell BK164.out 4).trans rfl; have hcz7_5 : w6.cell? ⟨gb164, 5, none⟩ = some (.int .u32 a0_5) := (blk_cell BK164.out 5).trans rfl; have hcz7_6 : w6.cell? ⟨gb164, 6, none⟩ = some (.int .u32 a0_6) := (blk_cell BK164.out 6).trans rfl; have hcz7_7 : w6.cell? ⟨gb164, 7, none⟩ = some (.int .u32 a0_7) := (blk_cell BK164.out 7).trans rfl; have hcz7_8 : w6.cell? ⟨gb164, 8, none⟩ = some (.int .i64 a0_8) := (blk_cell BK164.out 8).trans rfl; have hcz7_9 : w6.cell? ⟨gb164, 9, none⟩ = some (.int .i64 a0_9) := (blk_cell BK164.out 9).trans rfl; have hcz7_10 : w6.cell? ⟨gb164, 10, none⟩ = some (.int .u32 a0_10) := (blk_cell BK164.out 10).trans rfl; have hcz7_11 : w6.cell? ⟨gb164, 11, none⟩ = some (.int .u32 a0_11) := (blk_cell BK164.out 11).trans rfl; have hcz7_12 : w6.cell? ⟨gb164, 12, none⟩ = some (.int .u32 a0_12) := (blk_cell BK164.out 12).trans rfl; have hcz7_13 : w6.cell? ⟨gb164, 13, none⟩ = some (.slice A0_13 l0_13.length c0_13) := (blk_cell BK164.out 13).trans rfl; have hcz7_14 : w6.cell? ⟨gb164, 14, none⟩ = some (.slice A0_14 l0_14.length c0_14) := (blk_cell BK164.out 14).trans rfl; have hfz7_0 := blk_frozen BK164.out 0; have hfz7_1 := blk_frozen BK164.out 1; have hfz7_2 := blk_frozen BK164.out 2; have hfz7_3 := blk_frozen BK164.out 3; have hfz7_4 := blk_frozen BK164.out 4; have hfz7_5 := blk_frozen BK164.out 5; have hfz7_6 := blk_frozen BK164.out 6; have hfz7_7 := blk_frozen BK164.out 7; have hfz7_8 := blk_frozen BK164.out 8; have hfz7_9 := blk_frozen BK164.out 9; have hfz7_10 := blk_frozen BK164.out 10; have hfz7_11 := blk_frozen BK164.out 11; have hfz7_12 := blk_frozen BK164.out 12; have hfz7_13 := blk_frozen BK164.out 13; have hfz7_14 := blk_frozen BK164.out 14))
      go_ret
      exact ⟨by first | rfl | (simp [errW_none, errW_some] <;> rfl) | (simp [*, errW_none, errW_some] <;> rfl), by repeat (first | (with_reducible first | exact HB.out | apply below_alloc | apply pw_below_drewN | apply below_drew1 | refine below_set ?_ GE164.out) | exact HB.out)⟩
    · rw [if_neg c5] at H
      have c5b0 : decide (4 < a0_0) = false := decide_eq_false c5
      clear c5
      by_cases c8 : a0_1 < 0
      · rw [if_pos c8] at H
        have c8b0 : decide (a0_1 < 0) = true := decide_eq_true c8
        clear c8
        obtain rfl := Option.some.inj H
        go_enter Try.func29, Try.ntmps29
        go_wp2_with (first | ((with_reducible refine gate_dst (N := 1) rfl ?_); (try (refine gate_guard (by rfl) ?_; dsimp only)); refine box_event ?hg (N := 1) ?hd (cs := #[.int .i64 a0_0, .int .i64 a0_1, .bool a0_2, .bool a0_3, .int .u32 a0_4, .int .u32 a0_5, .int .u32 a0_6, .int .u32 a0_7, .int .i64 a0_8, .int .i64 a0_9, .int .u32 a0_10, .int .u32 a0_11, .int .u32 a0_12, .slice A0_13 l0_13.length c0_13, .slice A0_14 l0_14.length c0_14]) (t := 41) ?hr ?_; (case hd => rfl); (case hg => rfl); (case hr => first | (go_simp; done) | (go_simp; rfl)); intro gb164 hg w9 hbox hb; have n0_ := Aside0.mk (below_step (by repeat (first | (with_reducible first | exact HB.out | apply below_alloc | apply pw_below_drewN | apply below_drew1) | exact HB.out)) hb); have n1_ := Aside0.mk (hbox); have n2_ := Aside0.mk ((by rw [hg]; exact (below_size (by repeat (first | (with_reducible first | exact HB.out | apply below_alloc | apply pw_below_drewN | apply below_drew1) | exact HB.out))) : w.heap.size ≤ gb164)); have n3_ := Aside0.mk ((by rw [hg]; exact (below_size (by repeat (first | (with_reducible first | exact HB.out | apply below_alloc | apply pw_below_drewN | apply below_drew1) | exact HB.out))) : w.heap.size ≤ gb164)); clear HB; have HB := n0_; have BK164 := n1_; have GW164 := n2_; have GE164 := n3_; clear n0_ n1_ n2_ n3_; clear hb hbox hg; have hcz10_0 : w9.cell? ⟨gb164, 0, none⟩ = some (.int .i64 a0_0) := (blk_cell BK164.out 0).trans rfl; have hcz10_1 : w9.cell? ⟨gb164, 1, none⟩ = some (.int .i64 a0_1) := (blk_cell BK164.out 1).trans rfl; have hcz10_2 : w9.cell? ⟨gb164, 2, none⟩ = some (.bool a0_2) := (blk_cell BK164.out 2).trans rfl; have hcz10_3 : w9.cell? ⟨gb164, 3, none⟩ = some (.bool a0_3) := (blk_cell BK164.out 3).trans rfl; have hcz10_4 : w9.cell? ⟨gb164, 4, none⟩ = some (.int .u32 a0_4) := (blk_cell BK164.out 4).trans rfl; have hcz10_5 : w9.cell? ⟨gb164, 5, none⟩ = some (.int .u32 a0_5) := (blk_cell BK164.out 5).trans rfl; have hcz10_6 : w9.cell? ⟨gb164, 6, none⟩ = some (.int .u32 a0_6) := (blk_cell BK164.out 6).trans rfl; have hcz10_7 : w9.cell? ⟨gb164, 7, none⟩ = some (.int .u32 a0_7) := (blk_cell BK164.out 7).trans rfl; have hcz10_8 : w9.cell? ⟨gb164, 8, none⟩ = some (.int .i64 a0_8) := (blk_cell BK164.out 8).trans rfl; have hcz10_9 : w9.cell? ⟨gb164, 9, none⟩ = some (.int .i64 a0_9) := (blk_cell BK164.out 9).trans rfl; have hcz10_10 : w9.cell? ⟨gb164, 10, none⟩ = some (.int .u32 a0_10) := (blk_cell BK164.out 10).trans rfl; have hcz10_11 : w9.cell? ⟨gb164, 11, none⟩ = some (.int .u32 a0_11) := (blk_cell BK164.out 11).trans rfl; have hcz10_12 : w9.cell? ⟨gb164, 12, none⟩ = some (.int .u32 a0_12) := (blk_cell BK164.out 12).trans rfl; have hcz10_13 : w9.cell? ⟨gb164, 13, none⟩ = some (.slice A0_13 l0_13.length c0_13) := (blk_cell BK164.out 13).trans rfl; have hcz10_14 : w9.cell? ⟨gb164, 14, none⟩ = some (.slice A0_14 l0_14.length c0_14) := (blk_cell BK164.out 14).trans rfl; have hfz10_0 := blk_frozen BK164.out 0; have hfz10_1 := blk_frozen BK164.out 1; have hfz10_2 := blk_frozen BK164.out 2; have hfz10_3 := blk_frozen BK164.out 3; have hfz10_4 := blk_frozen BK164.out 4; have hfz10_5 := blk_frozen BK164.out 5; have hfz10_6 := blk_frozen BK164.out 6; have hfz10_7 := blk_frozen BK164.out 7; have hfz10_8 := blk_frozen BK164.out 8; have hfz10_9 := blk_frozen BK164.out 9; have hfz10_10 := blk_frozen BK164.out 10; have hfz10_11 := blk_frozen BK164.out 11; have hfz10_12 := blk_frozen BK164.out 12; have hfz10_13 := blk_frozen BK164.out 13; have hfz10_14 := blk_frozen BK164.out 14))
        go_ret
        exact ⟨by first | rfl | (simp [errW_none, errW_some] <;> rfl) | (simp [*, errW_none, errW_some] <;> rfl), by repeat (first | (with_reducible first | exact HB.out | apply below_alloc | apply pw_below_drewN | apply below_drew1 | refine below_set ?_ GE164.out) | exact HB.out)⟩
      · rw [if_neg c8] at H
        have c8b0 : decide (a0_1 < 0) = false := decide_eq_false c8
        clear c8
        by_cases c11 : a0_1 > 3
        · rw [if_pos c11] at H
          have c11b0 : decide (3 < a0_1) = true := decide_eq_true c11
          clear c11
          obtain rfl := Option.some.inj H
          go_enter Try.func29, Try.ntmps29
          go_wp2_with (first | ((with_reducible refine gate_dst (N := 1) rfl ?_); (try (refine gate_guard (by rfl) ?_; dsimp only)); refine box_event ?hg (N := 1) ?hd (cs := #[.int .i64 a0_0, .int .i64 a0_1, .bool a0_2, .bool a0_3, .int .u32 a0_4, .int .u32 a0_5, .int .u32 a0_6, .int .u32 a0_7, .int .i64 a0_8, .int .i64 a0_9, .int .u32 a0_10, .int .u32 a0_11, .int .u32 a0_12, .slice A0_13 l0_13.length c0_13, .slice A0_14 l0_14.length c0_14]) (t := 41) ?hr ?_; (case hd => rfl); (case hg => rfl); (case hr => first | (go_simp; done) | (go_simp; rfl)); intro gb164 hg w12 hbox hb; have n0_ := Aside0.mk (below_step (by repeat (first | (with_reducible first | exact HB.out | apply below_alloc | apply pw_below_drewN | apply below_drew1) | exact HB.out)) hb); have n1_ := Aside0.mk (hbox); have n2_ := Aside0.mk ((by rw [hg]; exact (below_size (by repeat (first | (with_reducible first | exact HB.out | apply below_alloc | apply pw_below_drewN | apply below_drew1) | exact HB.out))) : w.heap.size ≤ gb164)); have n3_ := Aside0.mk ((by rw [hg]; exact (below_size (by repeat (first | (with_reducible first | exact HB.out | apply below_alloc | apply pw_below_drewN | apply below_drew1) | exact HB.out))) : w.heap.size ≤ gb164)); clear HB; have HB := n0_; have BK164 := n1_; have GW164 := n2_; have GE164 := n3_; clear n0_ n1_ n2_ n3_; clear hb hbox hg; have hcz13_0 : w12.cell? ⟨gb164, 0, none⟩ = some (.int .i64 a0_0) := (blk_cell BK164.out 0).trans rfl; have hcz13_1 : w12.cell? ⟨gb164, 1, none⟩ = some (.int .i64 a0_1) := (blk_cell BK164.out 1).trans rfl; have hcz13_2 : w12.cell? ⟨gb164, 2, none⟩ = some (.bool a0_2) := (blk_cell BK164.out 2).trans rfl; have hcz13_3 : w12.cell? ⟨gb164, 3, none⟩ = some (.bool a0_3) := (blk_cell BK164.out 3).trans rfl; have hcz13_4 : w12.cell? ⟨gb164, 4, none⟩ = some (.int .u32 a0_4) := (blk_cell BK164.out 4).trans rfl; have hcz13_5 : w12.cell? ⟨gb164, 5, none⟩ = some (.int .u32 a0_5) := (blk_cell BK164.out 5).trans rfl; have hcz13_6 : w12.cell? ⟨gb164, 6, none⟩ = some (.int .u32 a0_6) := (blk_cell BK164.out 6).trans rfl; have hcz13_7 : w12.cell? ⟨gb164, 7, none⟩ = some (.int .u32 a0_7) := (blk_cell BK164.out 7).trans rfl; have hcz13_8 : w12.cell? ⟨gb164, 8, none⟩ = some (.int .i64 a0_8) := (blk_cell BK164.out 8).trans rfl; have hcz13_9 : w12.cell? ⟨gb164, 9, none⟩ = some (.int .i64 a0_9) := (blk_cell BK164.out 9).trans rfl; have hcz13_10 : w12.cell? ⟨gb164, 10, none⟩ = some (.int .u32 a0_10) := (blk_cell BK164.out 10).trans rfl; have hcz13_11 : w12.cell? ⟨gb164, 11, none⟩ = some (.int .u32 a0_11) := (blk_cell BK164.out 11).trans rfl; have hcz13_12 : w12.cell? ⟨gb164, 12, none⟩ = some (.int .u32 a0_12) := (blk_cell BK164.out 12).trans rfl; have hcz13_13 : w12.cell? ⟨gb164, 13, none⟩ = some (.slice A0_13 l0_13.length c0_13) := (blk_cell BK164.out 13).trans rfl; have hcz13_14 : w12.cell? ⟨gb164, 14, none⟩ = some (.slice A0_14 l0_14.length c0_14) := (blk_cell BK164.out 14).trans rfl; have hfz13_0 := blk_frozen BK164.out 0; have hfz13_1 := blk_frozen BK164.out 1; have hfz13_2 := blk_frozen BK164.out 2; have hfz13_3 := blk_frozen BK164.out 3; have hfz13_4 := blk_frozen BK164.out 4; have hfz13_5 := blk_frozen BK164.out 5; have hfz13_6 := blk_frozen BK164.out 6; have hfz13_7 := blk_frozen BK164.out 7; have hfz13_8 := blk_frozen BK164.out 8; have hfz13_9 := blk_frozen BK164.out 9; have hfz13_10 := blk_frozen BK164.out 10; have hfz13_11 := blk_frozen BK164.out 11; have hfz13_12 := blk_frozen BK164.out 12; have hfz13_13 := blk_frozen BK164.out 13; have hfz13_14 := blk_frozen BK164.out 14))
          go_ret
          exact ⟨by first | rfl | (simp [errW_none, errW_some] <;> rfl) | (simp [*, errW_none, errW_some] <;> rfl), by repeat (first | (with_reducible first | exact HB.out | apply below_alloc | apply pw_below_drewN | apply below_drew1 | refine below_set ?_ GE164.out) | exact HB.out)⟩
        · rw [if_neg c11] at H
          have c11b0 : decide (3 < a0_1) = false := decide_eq_false c11
          clear c11
          by_cases c14 : a0_8 < 0
          · rw [if_pos c14] at H
            have c14b0 : decide (a0_8 < 0) = true := decide_eq_true c14
            clear c14
            obtain rfl := Option.some.inj H
            go_enter Try.func29, Try.ntmps29
            go_wp2_with (first | ((with_reducible refine gate_dst (N := 1) rfl ?_); (try (refine gate_guard (by rfl) ?_; dsimp only)); refine box_event ?hg (N := 1) ?hd (cs := #[.int .i64 a0_0, .int .i64 a0_1, .bool a0_2, .bool a0_3, .int .u32 a0_4, .int .u32 a0_5, .int .u32 a0_6, .int .u32 a0_7, .int .i64 a0_8, .int .i64 a0_9, .int .u32 a0_10, .int .u32 a0_11, .int .u32 a0_12, .slice A0_13 l0_13.length c0_13, .slice A0_14 l0_14.length c0_14]) (t := 41) ?hr ?_; (case hd => rfl); (case hg => rfl); (case hr => first | (go_simp; done) | (go_simp; rfl)); intro gb164 hg w15 hbox hb; have n0_ := Aside0.mk (below_step (by repeat (first | (with_reducible first | exact HB.out | apply below_alloc | apply pw_below_drewN | apply below_drew1) | exact HB.out)) hb); have n1_ := Aside0.mk (hbox); have n2_ := Aside0.mk ((by rw [hg]; exact (below_size (by repeat (first | (with_reducible first | exact HB.out | apply below_alloc | apply pw_below_drewN | apply below_drew1) | exact HB.out))) : w.heap.size ≤ gb164)); have n3_ := Aside0.mk ((by rw [hg]; exact (below_size (by repeat (first | (with_reducible first | exact HB.out | apply below_alloc | apply pw_below_drewN | apply below_drew1) | exact HB.out))) : w.heap.size ≤ gb164)); clear HB; have HB := n0_; have BK164 := n1_; have GW164 := n2_; have GE164 := n3_; clear n0_ n1_ n2_ n3_; clear hb hbox hg; have hcz16_0 : w15.cell? ⟨gb164, 0, none⟩ = some (.int .i64 a0_0) := (blk_cell BK164.out 0).trans rfl; have hcz16_1 : w15.cell? ⟨gb164, 1, none⟩ = some (.int .i64 a0_1) := (blk_cell BK164.out 1).trans rfl; have hcz16_2 : w15.cell? ⟨gb164, 2, none⟩ = some (.bool a0_2) := (blk_cell BK164.out 2).trans rfl; have hcz16_3 : w15.cell? ⟨gb164, 3, none⟩ = some (.bool a0_3) := (blk_cell BK164.out 3).trans rfl; have hcz16_4 : w15.cell? ⟨gb164, 4, none⟩ = some (.int .u32 a0_4) := (blk_cell BK164.out 4).trans rfl; have hcz16_5 : w15.cell? ⟨gb164, 5, none⟩ = some (.int .u32 a0_5) := (blk_cell BK164.out 5).trans rfl; have hcz16_6 : w15.cell? ⟨gb164, 6, none⟩ = some (.int .u32 a0_6) := (blk_cell BK164.out 6).trans rfl; have hcz16_7 : w15.cell? ⟨gb164, 7, none⟩ = some (.int .u32 a0_7) := (blk_cell BK164.out 7).trans rfl; have hcz16_8 : w15.cell? ⟨gb164, 8, none⟩ = some (.int .i64 a0_8) := (blk_cell BK164.out 8).trans rfl; have hcz16_9 : w15.cell? ⟨gb164, 9, none⟩ = some (.int .i64 a0_9) := (blk_cell BK164.out 9).trans rfl; have hcz16_10 : w15.cell? ⟨gb164, 10, none⟩ = some (.int .u32 a0_10) := (blk_cell BK164.out 10).trans rfl; have hcz16_11 : w15.cell? ⟨gb164, 11, none⟩ = some (.int .u32 a0_11) := (blk_cell BK164.out 11).trans rfl; have hcz16_12 : w15.cell? ⟨gb164, 12, none⟩ = some (.int .u32 a0_12) := (blk_cell BK164.out 12).trans rfl; have hcz16_13 : w15.cell? ⟨gb164, 13, none⟩ = some (.slice A0_13 l0_13.length c0_13) := (blk_cell BK164.out 13).trans rfl; have hcz16_14 : w15.cell? ⟨gb164, 14, none⟩ = some (.slice A0_14 l0_14.length c0_14) := (blk_cell BK164.out 14).trans rfl; have hfz16_0 := blk_frozen BK164.out 0; have hfz16_1 := blk_frozen BK164.out 1; have hfz16_2 := blk_frozen BK164.out 2; have hfz16_3 := blk_frozen BK164.out 3; have hfz16_4 := blk_frozen BK164.out 4; have hfz16_5 := blk_frozen BK164.out 5; have hfz16_6 := blk_frozen BK164.out 6; have hfz16_7 := blk_frozen BK164.out 7; have hfz16_8 := blk_frozen BK164.out 8; have hfz16_9 := blk_frozen BK164.out 9; have hfz16_10 := blk_frozen BK164.out 10; have hfz16_11 := blk_frozen BK164.out 11; have hfz16_12 := blk_frozen BK164.out 12; have hfz16_13 := blk_frozen BK164.out 13; have hfz16_14 := blk_frozen BK164.out 14))
            go_ret
            exact ⟨by first | rfl | (simp [errW_none, errW_some] <;> rfl) | (simp [*, errW_none, errW_some] <;> rfl), by repeat (first | (with_reducible first | exact HB.out | apply below_alloc | apply pw_below_drewN | apply below_drew1 | refine below_set ?_ GE164.out) | exact HB.out)⟩
          · rw [if_neg c14] at H
            have c14b0 : decide (a0_8 < 0) = false := decide_eq_false c14
            clear c14
            by_cases c17 : a0_8 > 65535
            · rw [if_pos c17] at H
              have c17b0 : decide (65535 < a0_8) = true := decide_eq_true c17
              clear c17
              obtain rfl := Option.some.inj H
              go_enter Try.func29, Try.ntmps29
              go_wp2_with (first | ((with_reducible refine gate_dst (N := 1) rfl ?_); (try (refine gate_guard (by rfl) ?_; dsimp only)); refine box_event ?hg (N := 1) ?hd (cs := #[.int .i64 a0_0, .int .i64 a0_1, .bool a0_2, .bool a0_3, .int .u32 a0_4, .int .u32 a0_5, .int .u32 a0_6, .int .u32 a0_7, .int .i64 a0_8, .int .i64 a0_9, .int .u32 a0_10, .int .u32 a0_11, .int .u32 a0_12, .slice A0_13 l0_13.length c0_13, .slice A0_14 l0_14.length c0_14]) (t := 41) ?hr ?_; (case hd => rfl); (case hg => rfl); (case hr => first | (go_simp; done) | (go_simp; rfl)); intro gb164 hg w18 hbox hb; have n0_ := Aside0.mk (below_step (by repeat (first | (with_reducible first | exact HB.out | apply below_alloc | apply pw_below_drewN | apply below_drew1) | exact HB.out)) hb); have n1_ := Aside0.mk (hbox); have n2_ := Aside0.mk ((by rw [hg]; exact (below_size (by repeat (first | (with_reducible first | exact HB.out | apply below_alloc | apply pw_below_drewN | apply below_drew1) | exact HB.out))) : w.heap.size ≤ gb164)); have n3_ := Aside0.mk ((by rw [hg]; exact (below_size (by repeat (first | (with_reducible first | exact HB.out | apply below_alloc | apply pw_below_drewN | apply below_drew1) | exact HB.out))) : w.heap.size ≤ gb164)); clear HB; have HB := n0_; have BK164 := n1_; have GW164 := n2_; have GE164 := n3_; clear n0_ n1_ n2_ n3_; clear hb hbox hg; have hcz19_0 : w18.cell? ⟨gb164, 0, none⟩ = some (.int .i64 a0_0) := (blk_cell BK164.out 0).trans rfl; have hcz19_1 : w18.cell? ⟨gb164, 1, none⟩ = some (.int .i64 a0_1) := (blk_cell BK164.out 1).trans rfl; have hcz19_2 : w18.cell? ⟨gb164, 2, none⟩ = some (.bool a0_2) := (blk_cell BK164.out 2).trans rfl; have hcz19_3 : w18.cell? ⟨gb164, 3, none⟩ = some (.bool a0_3) := (blk_cell BK164.out 3).trans rfl; have hcz19_4 : w18.cell? ⟨gb164, 4, none⟩ = some (.int .u32 a0_4) := (blk_cell BK164.out 4).trans rfl; have hcz19_5 : w18.cell? ⟨gb164, 5, none⟩ = some (.int .u32 a0_5) := (blk_cell BK164.out 5).trans rfl; have hcz19_6 : w18.cell? ⟨gb164, 6, none⟩ = some (.int .u32 a0_6) := (blk_cell BK164.out 6).trans rfl; have hcz19_7 : w18.cell? ⟨gb164, 7, none⟩ = some (.int .u32 a0_7) := (blk_cell BK164.out 7).trans rfl; have hcz19_8 : w18.cell? ⟨gb164, 8, none⟩ = some (.int .i64 a0_8) := (blk_cell BK164.out 8).trans rfl; have hcz19_9 : w18.cell? ⟨gb164, 9, none⟩ = some (.int .i64 a0_9) := (blk_cell BK164.out 9).trans rfl; have hcz19_10 : w18.cell? ⟨gb164, 10, none⟩ = some (.int .u32 a0_10) := (blk_cell BK164.out 10).trans rfl; have hcz19_11 : w18.cell? ⟨gb164, 11, none⟩ = some (.int .u32 a0_11) := (blk_cell BK164.out 11).trans rfl; have hcz19_12 : w18.cell? ⟨gb164, 12, none⟩ = some (.int .u32 a0_12) := (blk_cell BK164.out 12).trans rfl; have hcz19_13 : w18.cell? ⟨gb164, 13, none⟩ = some (.slice A0_13 l0_13.length c0_13) := (blk_cell BK164.out 13).trans rfl; have hcz19_14 : w18.cell? ⟨gb164, 14, none⟩ = some (.slice A0_14 l0_14.length c0_14) := (blk_cell BK164.out 14).trans rfl; have hfz19_0 := blk_frozen BK164.out 0; have hfz19_1 := blk_frozen BK164.out 1; have hfz19_2 := blk_frozen BK164.out 2; have hfz19_3 := blk_frozen BK164.out 3; have hfz19_4 := blk_frozen BK164.out 4; have hfz19_5 := blk_frozen BK164.out 5; have hfz19_6 := blk_frozen BK164.out 6; have hfz19_7 := blk_frozen BK164.out 7; have hfz19_8 := blk_frozen BK164.out 8; have hfz19_9 := blk_frozen BK164.out 9; have hfz19_10 := blk_frozen BK164.out 10; have hfz19_11 := blk_frozen BK164.out 11; have hfz19_12 := blk_frozen BK164.out 12; have hfz19_13 := blk_frozen BK164.out 13; have hfz19_14 := blk_frozen BK164.out 14))
              go_ret
              exact ⟨by first | rfl | (simp [errW_none, errW_some] <;> rfl) | (simp [*, errW_none, errW_some] <;> rfl), by repeat (first | (with_reducible first | exact HB.out | apply below_alloc | apply pw_below_drewN | apply below_drew1 | refine below_set ?_ GE164.out) | exact HB.out)⟩
            · rw [if_neg c17] at H
              have c17b0 : decide (65535 < a0_8) = false := decide_eq_false c17
              clear c17
              by_cases c20 : a0_9 < 0
              · rw [if_pos c20] at H
                have c20b0 : decide (a0_9 < 0) = true := decide_eq_true c20
                clear c20
                obtain rfl := Option.some.inj H
                go_enter Try.func29, Try.ntmps29
                go_wp2_with (first | ((with_reducible refine gate_dst (N := 1) rfl ?_); (try (refine gate_guard (by rfl) ?_; dsimp only)); refine box_event ?hg (N := 1) ?hd (cs := #[.int .i64 a0_0, .int .i64 a0_1, .bool a0_2, .bool a0_3, .int .u32 a0_4, .int .u32 a0_5, .int .u32 a0_6, .int .u32 a0_7, .int .i64 a0_8, .int .i64 a0_9, .int .u32 a0_10, .int .u32 a0_11, .int .u32 a0_12, .slice A0_13 l0_13.length c0_13, .slice A0_14 l0_14.length c0_14]) (t := 41) ?hr ?_; (case hd => rfl); (case hg => rfl); (case hr => first | (go_simp; done) | (go_simp; rfl)); intro gb164 hg w21 hbox hb; have n0_ := Aside0.mk (below_step (by repeat (first | (with_reducible first | exact HB.out | apply below_alloc | apply pw_below_drewN | apply below_drew1) | exact HB.out)) hb); have n1_ := Aside0.mk (hbox); have n2_ := Aside0.mk ((by rw [hg]; exact (below_size (by repeat (first | (with_reducible first | exact HB.out | apply below_alloc | apply pw_below_drewN | apply below_drew1) | exact HB.out))) : w.heap.size ≤ gb164)); have n3_ := Aside0.mk ((by rw [hg]; exact (below_size (by repeat (first | (with_reducible first | exact HB.out | apply below_alloc | apply pw_below_drewN | apply below_drew1) | exact HB.out))) : w.heap.size ≤ gb164)); clear HB; have HB := n0_; have BK164 := n1_; have GW164 := n2_; have GE164 := n3_; clear n0_ n1_ n2_ n3_; clear hb hbox hg; have hcz22_0 : w21.cell? ⟨gb164, 0, none⟩ = some (.int .i64 a0_0) := (blk_cell BK164.out 0).trans rfl; have hcz22_1 : w21.cell? ⟨gb164, 1, none⟩ = some (.int .i64 a0_1) := (blk_cell BK164.out 1).trans rfl; have hcz22_2 : w21.cell? ⟨gb164, 2, none⟩ = some (.bool a0_2) := (blk_cell BK164.out 2).trans rfl; have hcz22_3 : w21.cell? ⟨gb164, 3, none⟩ = some (.bool a0_3) := (blk_cell BK164.out 3).trans rfl; have hcz22_4 : w21.cell? ⟨gb164, 4, none⟩ = some (.int .u32 a0_4) := (blk_cell BK164.out 4).trans rfl; have hcz22_5 : w21.cell? ⟨gb164, 5, none⟩ = some (.int .u32 a0_5) := (blk_cell BK164.out 5).trans rfl; have hcz22_6 : w21.cell? ⟨gb164, 6, none⟩ = some (.int .u32 a0_6) := (blk_cell BK164.out 6).trans rfl; have hcz22_7 : w21.cell? ⟨gb164, 7, none⟩ = some (.int .u32 a0_7) := (blk_cell BK164.out 7).trans rfl; have hcz22_8 : w21.cell? ⟨gb164, 8, none⟩ = some (.int .i64 a0_8) := (blk_cell BK164.out 8).trans rfl; have hcz22_9 : w21.cell? ⟨gb164, 9, none⟩ = some (.int .i64 a0_9) := (blk_cell BK164.out 9).trans rfl; have hcz22_10 : w21.cell? ⟨gb164, 10, none⟩ = some (.int .u32 a0_10) := (blk_cell BK164.out 10).trans rfl; have hcz22_11 : w21.cell? ⟨gb164, 11, none⟩ = some (.int .u32 a0_11) := (blk_cell BK164.out 11).trans rfl; have hcz22_12 : w21.cell? ⟨gb164, 12, none⟩ = some (.int .u32 a0_12) := (blk_cell BK164.out 12).trans rfl; have hcz22_13 : w21.cell? ⟨gb164, 13, none⟩ = some (.slice A0_13 l0_13.length c0_13) := (blk_cell BK164.out 13).trans rfl; have hcz22_14 : w21.cell? ⟨gb164, 14, none⟩ = some (.slice A0_14 l0_14.length c0_14) := (blk_cell BK164.out 14).trans rfl; have hfz22_0 := blk_frozen BK164.out 0; have hfz22_1 := blk_frozen BK164.out 1; have hfz22_2 := blk_frozen BK164.out 2; have hfz22_3 := blk_frozen BK164.out 3; have hfz22_4 := blk_frozen BK164.out 4; have hfz22_5 := blk_frozen BK164.out 5; have hfz22_6 := blk_frozen BK164.out 6; have hfz22_7 := blk_frozen BK164.out 7; have hfz22_8 := blk_frozen BK164.out 8; have hfz22_9 := blk_frozen BK164.out 9; have hfz22_10 := blk_frozen BK164.out 10; have hfz22_11 := blk_frozen BK164.out 11; have hfz22_12 := blk_frozen BK164.out 12; have hfz22_13 := blk_frozen BK164.out 13; have hfz22_14 := blk_frozen BK164.out 14))
                go_ret
                exact ⟨by first | rfl | (simp [errW_none, errW_some] <;> rfl) | (simp [*, errW_none, errW_some] <;> rfl), by repeat (first | (with_reducible first | exact HB.out | apply below_alloc | apply pw_below_drewN | apply below_drew1 | refine below_set ?_ GE164.out) | exact HB.out)⟩
              · rw [if_neg c20] at H
                have c20b0 : decide (a0_9 < 0) = false := decide_eq_false c20
                clear c20
                by_cases c23 : a0_9 > 7
                · rw [if_pos c23] at H
                  have c23b0 : decide (7 < a0_9) = true := decide_eq_true c23
                  clear c23
                  obtain rfl := Option.some.inj H
                  go_enter Try.func29, Try.ntmps29
                  go_wp2_with (first | ((with_reducible refine gate_dst (N := 1) rfl ?_); (try (refine gate_guard (by rfl) ?_; dsimp only)); refine box_event ?hg (N := 1) ?hd (cs := #[.int .i64 a0_0, .int .i64 a0_1, .bool a0_2, .bool a0_3, .int .u32 a0_4, .int .u32 a0_5, .int .u32 a0_6, .int .u32 a0_7, .int .i64 a0_8, .int .i64 a0_9, .int .u32 a0_10, .int .u32 a0_11, .int .u32 a0_12, .slice A0_13 l0_13.length c0_13, .slice A0_14 l0_14.length c0_14]) (t := 41) ?hr ?_; (case hd => rfl); (case hg => rfl); (case hr => first | (go_simp; done) | (go_simp; rfl)); intro gb164 hg w24 hbox hb; have n0_ := Aside0.mk (below_step (by repeat (first | (with_reducible first | exact HB.out | apply below_alloc | apply pw_below_drewN | apply below_drew1) | exact HB.out)) hb); have n1_ := Aside0.mk (hbox); have n2_ := Aside0.mk ((by rw [hg]; exact (below_size (by repeat (first | (with_reducible first | exact HB.out | apply below_alloc | apply pw_below_drewN | apply below_drew1) | exact HB.out))) : w.heap.size ≤ gb164)); have n3_ := Aside0.mk ((by rw [hg]; exact (below_size (by repeat (first | (with_reducible first | exact HB.out | apply below_alloc | apply pw_below_drewN | apply below_drew1) | exact HB.out))) : w.heap.size ≤ gb164)); clear HB; have HB := n0_; have BK164 := n1_; have GW164 := n2_; have GE164 := n3_; clear n0_ n1_ n2_ n3_; clear hb hbox hg; have hcz25_0 : w24.cell? ⟨gb164, 0, none⟩ = some (.int .i64 a0_0) := (blk_cell BK164.out 0).trans rfl; have hcz25_1 : w24.cell? ⟨gb164, 1, none⟩ = some (.int .i64 a0_1) := (blk_cell BK164.out 1).trans rfl; have hcz25_2 : w24.cell? ⟨gb164, 2, none⟩ = some (.bool a0_2) := (blk_cell BK164.out 2).trans rfl; have hcz25_3 : w24.cell? ⟨gb164, 3, none⟩ = some (.bool a0_3) := (blk_cell BK164.out 3).trans rfl; have hcz25_4 : w24.cell? ⟨gb164, 4, none⟩ = some (.int .u32 a0_4) := (blk_cell BK164.out 4).trans rfl; have hcz25_5 : w24.cell? ⟨gb164, 5, none⟩ = some (.int .u32 a0_5) := (blk_cell BK164.out 5).trans rfl; have hcz25_6 : w24.cell? ⟨gb164, 6, none⟩ = some (.int .u32 a0_6) := (blk_cell BK164.out 6).trans rfl; have hcz25_7 : w24.cell? ⟨gb164, 7, none⟩ = some (.int .u32 a0_7) := (blk_cell BK164.out 7).trans rfl; have hcz25_8 : w24.cell? ⟨gb164, 8, none⟩ = some (.int .i64 a0_8) := (blk_cell BK164.out 8).trans rfl; have hcz25_9 : w24.cell? ⟨gb164, 9, none⟩ = some (.int .i64 a0_9) := (blk_cell BK164.out 9).trans rfl; have hcz25_10 : w24.cell? ⟨gb164, 10, none⟩ = some (.int .u32 a0_10) := (blk_cell BK164.out 10).trans rfl; have hcz25_11 : w24.cell? ⟨gb164, 11, none⟩ = some (.int .u32 a0_11) := (blk_cell BK164.out 11).trans rfl; have hcz25_12 : w24.cell? ⟨gb164, 12, none⟩ = some (.int .u32 a0_12) := (blk_cell BK164.out 12).trans rfl; have hcz25_13 : w24.cell? ⟨gb164, 13, none⟩ = some (.slice A0_13 l0_13.length c0_13) := (blk_cell BK164.out 13).trans rfl; have hcz25_14 : w24.cell? ⟨gb164, 14, none⟩ = some (.slice A0_14 l0_14.length c0_14) := (blk_cell BK164.out 14).trans rfl; have hfz25_0 := blk_frozen BK164.out 0; have hfz25_1 := blk_frozen BK164.out 1; have hfz25_2 := blk_frozen BK164.out 2; have hfz25_3 := blk_frozen BK164.out 3; have hfz25_4 := blk_frozen BK164.out 4; have hfz25_5 := blk_frozen BK164.out 5; have hfz25_6 := blk_frozen BK164.out 6; have hfz25_7 := blk_frozen BK164.out 7; have hfz25_8 := blk_frozen BK164.out 8; have hfz25_9 := blk_frozen BK164.out 9; have hfz25_10 := blk_frozen BK164.out 10; have hfz25_11 := blk_frozen BK164.out 11; have hfz25_12 := blk_frozen BK164.out 12; have hfz25_13 := blk_frozen BK164.out 13; have hfz25_14 := blk_frozen BK164.out 14))
                  go_ret
                  exact ⟨by first | rfl | (simp [errW_none, errW_some] <;> rfl) | (simp [*, errW_none, errW_some] <;> rfl), by repeat (first | (with_reducible first | exact HB.out | apply below_alloc | apply pw_below_drewN | apply below_drew1 | refine below_set ?_ GE164.out) | exact HB.out)⟩
                · rw [if_neg c23] at H
                  have c23b0 : decide (7 < a0_9) = false := decide_eq_false c23
                  clear c23
                  by_cases c26 : a0_10 < 16777216
                  · rw [if_pos c26] at H
                    have c26b0 : decide (a0_10 < 16777216) = true := decide_eq_true c26
                    clear c26
                    by_cases c27 : (l0_13.length : Int) ≤ 3
                    · rw [if_pos c27] at H
                      have c27b0 : decide ((l0_13.length : Int) ≤ 3) = true := decide_eq_true c27
                      have c27b1 : decide (l0_13.length ≤ 3) = true := decide_eq_true (by omega)
                      clear c27
                      obtain rfl := Option.some.inj H
                      go_enter Try.func29, Try.ntmps29
                      go_wp2_with (first | ((with_reducible refine gate_dst (N := 1) rfl ?_); (try (refine gate_guard (by rfl) ?_; dsimp only)); refine box_event ?hg (N := 1) ?hd (cs := #[.int .i64 a0_0, .int .i64 a0_1, .bool a0_2, .bool a0_3, .int .u32 a0_4, .int .u32 a0_5, .int .u32 a0_6, .int .u32 a0_7, .int .i64 a0_8, .int .i64 a0_9, .int .u32 a0_10, .int .u32 a0_11, .int .u32 a0_12, .slice A0_13 l0_13.length c0_13, .slice A0_14 l0_14.length c0_14]) (t := 41) ?hr ?_; (case hd => rfl); (case hg => rfl); (case hr => first | (go_simp; done) | (go_simp; rfl)); intro gb164 hg w28 hbox hb; have n0_ := Aside0.mk (below_step (by repeat (first | (with_reducible first | exact HB.out | apply below_alloc | apply pw_below_drewN | apply below_drew1) | exact HB.out)) hb); have n1_ := Aside0.mk (hbox); have n2_ := Aside0.mk ((by rw [hg]; exact (below_size (by repeat (first | (with_reducible first | exact HB.out | apply below_alloc | apply pw_below_drewN | apply below_drew1) | exact HB.out))) : w.heap.size ≤ gb164)); have n3_ := Aside0.mk ((by rw [hg]; exact (below_size (by repeat (first | (with_reducible first | exact HB.out | apply below_alloc | apply pw_below_drewN | apply below_drew1) | exact HB.out))) : w.heap.size ≤ gb164)); clear HB; have HB := n0_; have BK164 := n1_; have GW164 := n2_; have GE164 := n3_; clear n0_ n1_ n2_ n3_; clear hb hbox hg; have hcz29_0 : w28.cell? ⟨gb164, 0, none⟩ = some (.int .i64 a0_0) := (blk_cell BK164.out 0).trans rfl; have hcz29_1 : w28.cell? ⟨gb164, 1, none⟩ = some (.int .i64 a0_1) := (blk_cell BK164.out 1).trans rfl; have hcz29_2 : w28.cell? ⟨gb164, 2, none⟩ = some (.bool a0_2) := (blk_cell BK164.out 2).trans rfl; have hcz29_3 : w28.cell? ⟨gb164, 3, none⟩ = some (.bool a0_3) := (blk_cell BK164.out 3).trans rfl; have hcz29_4 : w28.cell? ⟨gb164, 4, none⟩ = some (.int .u32 a0_4) := (blk_cell BK164.out 4).trans rfl; have hcz29_5 : w28.cell? ⟨gb164, 5, none⟩ = some (.int .u32 a0_5) := (blk_cell BK164.out 5).trans rfl; have hcz29_6 : w28.cell? ⟨gb164, 6, none⟩ = some (.int .u32 a0_6) := (blk_cell BK164.out 6).trans rfl; have hcz29_7 : w28.cell? ⟨gb164, 7, none⟩ = some (.int .u32 a0_7) := (blk_cell BK164.out 7).trans rfl; have hcz29_8 : w28.cell? ⟨gb164, 8, none⟩ = some (.int .i64 a0_8) := (blk_cell BK164.out 8).trans rfl; have hcz29_9 : w28.cell? ⟨gb164, 9, none⟩ = some (.int .i64 a0_9) := (blk_cell BK164.out 9).trans rfl; have hcz29_10 : w28.cell? ⟨gb164, 10, none⟩ = some (.int .u32 a0_10) := (blk_cell BK164.out 10).trans rfl; have hcz29_11 : w28.cell? ⟨gb164, 11, none⟩ = some (.int .u32 a0_11) := (blk_cell BK164.out 11).trans rfl; have hcz29_12 : w28.cell? ⟨gb164, 12, none⟩ = some (.int .u32 a0_12) := (blk_cell BK164.out 12).trans rfl; have hcz29_13 : w28.cell? ⟨gb164, 13, none⟩ = some (.slice A0_13 l0_13.length c0_13) := (blk_cell BK164.out 13).trans rfl; have hcz29_14 : w28.cell? ⟨gb164, 14, none⟩ = some (.slice A0_14 l0_14.length c0_14) := (blk_cell BK164.out 14).trans rfl; have hfz29_0 := blk_frozen BK164.out 0; have hfz29_1 := blk_frozen BK164.out 1; have hfz29_2 := blk_frozen BK164.out 2; have hfz29_3 := blk_frozen BK164.out 3; have hfz29_4 := blk_frozen BK164.out 4; have hfz29_5 := blk_frozen BK164.out 5; have hfz29_6 := blk_frozen BK164.out 6; have hfz29_7 := blk_frozen BK164.out 7; have hfz29_8 := blk_frozen BK164.out 8; have hfz29_9 := blk_frozen BK164.out 9; have hfz29_10 := blk_frozen BK164.out 10; have hfz29_11 := blk_frozen BK164.out 11; have hfz29_12 := blk_frozen BK164.out 12; have hfz29_13 := blk_frozen BK164.out 13; have hfz29_14 := blk_frozen BK164.out 14))
                      go_ret
                      exact ⟨by first | rfl | (simp [errW_none, errW_some] <;> rfl) | (simp [*, errW_none, errW_some] <;> rfl), by repeat (first | (with_reducible first | exact HB.out | apply below_alloc | apply pw_below_drewN | apply below_drew1 | refine below_set ?_ GE164.out) | exact HB.out)⟩
                    · rw [if_neg c27] at H
                      have c27b0 : decide ((l0_13.length : Int) ≤ 3) = false := decide_eq_false c27
                      have c27b1 : decide (l0_13.length ≤ 3) = false := decide_eq_false (by omega)
                      clear c27
                      obtain rfl := Option.some.inj H
                      go_enter Try.func29, Try.ntmps29
                      go_wp2_with (first | ((with_reducible refine gate_dst (N := 1) rfl ?_); (try (refine gate_guard (by rfl) ?_; dsimp only)); refine box_event ?hg (N := 1) ?hd (cs := #[.int .i64 a0_0, .int .i64 a0_1, .bool a0_2, .bool a0_3, .int .u32 a0_4, .int .u32 a0_5, .int .u32 a0_6, .int .u32 a0_7, .int .i64 a0_8, .int .i64 a0_9, .int .u32 a0_10, .int .u32 a0_11, .int .u32 a0_12, .slice A0_13 l0_13.length c0_13, .slice A0_14 l0_14.length c0_14]) (t := 41) ?hr ?_; (case hd => rfl); (case hg => rfl); (case hr => first | (go_simp; done) | (go_simp; rfl)); intro gb164 hg w30 hbox hb; have n0_ := Aside0.mk (below_step (by repeat (first | (with_reducible first | exact HB.out | apply below_alloc | apply pw_below_drewN | apply below_drew1) | exact HB.out)) hb); have n1_ := Aside0.mk (hbox); have n2_ := Aside0.mk ((by rw [hg]; exact (below_size (by repeat (first | (with_reducible first | exact HB.out | apply below_alloc | apply pw_below_drewN | apply below_drew1) | exact HB.out))) : w.heap.size ≤ gb164)); have n3_ := Aside0.mk ((by rw [hg]; exact (below_size (by repeat (first | (with_reducible first | exact HB.out | apply below_alloc | apply pw_below_drewN | apply below_drew1) | exact HB.out))) : w.heap.size ≤ gb164)); clear HB; have HB := n0_; have BK164 := n1_; have GW164 := n2_; have GE164 := n3_; clear n0_ n1_ n2_ n3_; clear hb hbox hg; have hcz31_0 : w30.cell? ⟨gb164, 0, none⟩ = some (.int .i64 a0_0) := (blk_cell BK164.out 0).trans rfl; have hcz31_1 : w30.cell? ⟨gb164, 1, none⟩ = some (.int .i64 a0_1) := (blk_cell BK164.out 1).trans rfl; have hcz31_2 : w30.cell? ⟨gb164, 2, none⟩ = some (.bool a0_2) := (blk_cell BK164.out 2).trans rfl; have hcz31_3 : w30.cell? ⟨gb164, 3, none⟩ = some (.bool a0_3) := (blk_cell BK164.out 3).trans rfl; have hcz31_4 : w30.cell? ⟨gb164, 4, none⟩ = some (.int .u32 a0_4) := (blk_cell BK164.out 4).trans rfl; have hcz31_5 : w30.cell? ⟨gb164, 5, none⟩ = some (.int .u32 a0_5) := (blk_cell BK164.out 5).trans rfl; have hcz31_6 : w30.cell? ⟨gb164, 6, none⟩ = some (.int .u32 a0_6) := (blk_cell BK164.out 6).trans rfl; have hcz31_7 : w30.cell? ⟨gb164, 7, none⟩ = some (.int .u32 a0_7) := (blk_cell BK164.out 7).trans rfl; have hcz31_8 : w30.cell? ⟨gb164, 8, none⟩ = some (.int .i64 a0_8) := (blk_cell BK164.out 8).trans rfl; have hcz31_9 : w30.cell? ⟨gb164, 9, none⟩ = some (.int .i64 a0_9) := (blk_cell BK164.out 9).trans rfl; have hcz31_10 : w30.cell? ⟨gb164, 10, none⟩ = some (.int .u32 a0_10) := (blk_cell BK164.out 10).trans rfl; have hcz31_11 : w30.cell? ⟨gb164, 11, none⟩ = some (.int .u32 a0_11) := (blk_cell BK164.out 11).trans rfl; have hcz31_12 : w30.cell? ⟨gb164, 12, none⟩ = some (.int .u32 a0_12) := (blk_cell BK164.out 12).trans rfl; have hcz31_13 : w30.cell? ⟨gb164, 13, none⟩ = some (.slice A0_13 l0_13.length c0_13) := (blk_cell BK164.out 13).trans rfl; have hcz31_14 : w30.cell? ⟨gb164, 14, none⟩ = some (.slice A0_14 l0_14.length c0_14) := (blk_cell BK164.out 14).trans rfl; have hfz31_0 := blk_frozen BK164.out 0; have hfz31_1 := blk_frozen BK164.out 1; have hfz31_2 := blk_frozen BK164.out 2; have hfz31_3 := blk_frozen BK164.out 3; have hfz31_4 := blk_frozen BK164.out 4; have hfz31_5 := blk_frozen BK164.out 5; have hfz31_6 := blk_frozen BK164.out 6; have hfz31_7 := blk_frozen BK164.out 7; have hfz31_8 := blk_frozen BK164.out 8; have hfz31_9 := blk_frozen BK164.out 9; have hfz31_10 := blk_frozen BK164.out 10; have hfz31_11 := blk_frozen BK164.out 11; have hfz31_12 := blk_frozen BK164.out 12; have hfz31_13 := blk_frozen BK164.out 13; have hfz31_14 := blk_frozen BK164.out 14))
                      go_ret
                      exact ⟨by first | rfl | (simp [errW_none, errW_some] <;> rfl) | (simp [*, errW_none, errW_some] <;> rfl), by repeat (first | (with_reducible first | exact HB.out | apply below_alloc | apply pw_below_drewN | apply below_drew1 | refine below_set ?_ GE164.out) | exact HB.out)⟩
                  · rw [if_neg c26] at H
                    have c26b0 : decide (a0_10 < 16777216) = false := decide_eq_false c26
                    clear c26
                    obtain rfl := Option.some.inj H
                    go_enter Try.func29, Try.ntmps29
                    go_wp2_with (first | ((with_reducible refine gate_dst (N := 1) rfl ?_); (try (refine gate_guard (by rfl) ?_; dsimp only)); refine box_event ?hg (N := 1) ?hd (cs := #[.int .i64 a0_0, .int .i64 a0_1, .bool a0_2, .bool a0_3, .int .u32 a0_4, .int .u32 a0_5, .int .u32 a0_6, .int .u32 a0_7, .int .i64 a0_8, .int .i64 a0_9, .int .u32 a0_10, .int .u32 a0_11, .int .u32 a0_12, .slice A0_13 l0_13.length c0_13, .slice A0_14 l0_14.length c0_14]) (t := 41) ?hr ?_; (case hd => rfl); (case hg => rfl); (case hr => first | (go_simp; done) | (go_simp; rfl)); intro gb164 hg w32 hbox hb; have n0_ := Aside0.mk (below_step (by repeat (first | (with_reducible first | exact HB.out | apply below_alloc | apply pw_below_drewN | apply below_drew1) | exact HB.out)) hb); have n1_ := Aside0.mk (hbox); have n2_ := Aside0.mk ((by rw [hg]; exact (below_size (by repeat (first | (with_reducible first | exact HB.out | apply below_alloc | apply pw_below_drewN | apply below_drew1) | exact HB.out))) : w.heap.size ≤ gb164)); have n3_ := Aside0.mk ((by rw [hg]; exact (below_size (by repeat (first | (with_reducible first | exact HB.out | apply below_alloc | apply pw_below_drewN | apply below_drew1) | exact HB.out))) : w.heap.size ≤ gb164)); clear HB; have HB := n0_; have BK164 := n1_; have GW164 := n2_; have GE164 := n3_; clear n0_ n1_ n2_ n3_; clear hb hbox hg; have hcz33_0 : w32.cell? ⟨gb164, 0, none⟩ = some (.int .i64 a0_0) := (blk_cell BK164.out 0).trans rfl; have hcz33_1 : w32.cell? ⟨gb164, 1, none⟩ = some (.int .i64 a0_1) := (blk_cell BK164.out 1).trans rfl; have hcz33_2 : w32.cell? ⟨gb164, 2, none⟩ = some (.bool a0_2) := (blk_cell BK164.out 2).trans rfl; have hcz33_3 : w32.cell? ⟨gb164, 3, none⟩ = some (.bool a0_3) := (blk_cell BK164.out 3).trans rfl; have hcz33_4 : w32.cell? ⟨gb164, 4, none⟩ = some (.int .u32 a0_4) := (blk_cell BK164.out 4).trans rfl; have hcz33_5 : w32.cell? ⟨gb164, 5, none⟩ = some (.int .u32 a0_5) := (blk_cell BK164.out 5).trans rfl; have hcz33_6 : w32.cell? ⟨gb164, 6, none⟩ = some (.int .u32 a0_6) := (blk_cell BK164.out 6).trans rfl; have hcz33_7 : w32.cell? ⟨gb164, 7, none⟩ = some (.int .u32 a0_7) := (blk_cell BK164.out 7).trans rfl; have hcz33_8 : w32.cell? ⟨gb164, 8, none⟩ = some (.int .i64 a0_8) := (blk_cell BK164.out 8).trans rfl; have hcz33_9 : w32.cell? ⟨gb164, 9, none⟩ = some (.int .i64 a0_9) := (blk_cell BK164.out 9).trans rfl; have hcz33_10 : w32.cell? ⟨gb164, 10, none⟩ = some (.int .u32 a0_10) := (blk_cell BK164.out 10).trans rfl; have hcz33_11 : w32.cell? ⟨gb164, 11, none⟩ = some (.int .u32 a0_11) := (blk_cell BK164.out 11).trans rfl; have hcz33_12 : w32.cell? ⟨gb164, 12, none⟩ = some (.int .u32 a0_12) := (blk_cell BK164.out 12).trans rfl; have hcz33_13 : w32.cell? ⟨gb164, 13, none⟩ = some (.slice A0_13 l0_13.length c0_13) := (blk_cell BK164.out 13).trans rfl; have hcz33_14 : w32.cell? ⟨gb164, 14, none⟩ = some (.slice A0_14 l0_14.length c0_14) := (blk_cell BK164.out 14).trans rfl; have hfz33_0 := blk_frozen BK164.out 0; have hfz33_1 := blk_frozen BK164.out 1; have hfz33_2 := blk_frozen BK164.out 2; have hfz33_3 := blk_frozen BK164.out 3; have hfz33_4 := blk_frozen BK164.out 4; have hfz33_5 := blk_frozen BK164.out 5; have hfz33_6 := blk_frozen BK164.out 6; have hfz33_7 := blk_frozen BK164.out 7; have hfz33_8 := blk_frozen BK164.out 8; have hfz33_9 := blk_frozen BK164.out 9; have hfz33_10 := blk_frozen BK164.out 10; have hfz33_11 := blk_frozen BK164.out 11; have hfz33_12 := blk_frozen BK164.out 12; have hfz33_13 := blk_frozen BK164.out 13; have hfz33_14 := blk_frozen BK164.out 14))
                    go_ret
                    exact ⟨by first | rfl | (simp [errW_none, errW_some] <;> rfl) | (simp [*, errW_none, errW_some] <;> rfl), by repeat (first | (with_reducible first | exact HB.out | apply below_alloc | apply pw_below_drewN | apply below_drew1 | refine below_set ?_ GE164.out) | exact HB.out)⟩

end Go.Proofs.Ytbogmogimoleaaa.W
