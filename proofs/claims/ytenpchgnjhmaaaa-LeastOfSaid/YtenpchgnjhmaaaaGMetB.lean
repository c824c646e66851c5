/- The walk of least.Met where it begins anew. -/
import Derived.Test.YtenpchgnjhmaaaaGMetA
namespace Go.Proofs.Ytenpchgnjhmaaaa.Given
open Go.RowKit Go.Shelf Go.Proofs.YtenpchgnjhmaaaaW.PrintWords Go.Proofs.YtenpchgnjhmaaaaW.PrintLast Go.Proofs.YtenpchgnjhmaaaaW.PrintMore Go.Proofs.Ytenpchgnjhmaaaa.S
set_option linter.unusedVariables false
set_option linter.unusedSimpArgs false
/-- What is kept of five blocks behind a call. -/
theorem boxes5 {w1 w4 : World} {nd : Nat} {vl vn vr vo vu : Array Value} {B : Nat} (h0 : w1.heap[B]? = some (.cells vl 24)) (h1 : w1.heap[B + 1]? = some (.cells vn 3)) (h2 : w1.heap[B + 1 + 1]? = some (.cells vr 24))
    (hb : Below (((w1.alloc (.cells vo 38)).alloc (.cells vu 24)).drewN nd).heap.size (((w1.alloc (.cells vo 38)).alloc (.cells vu 24)).drewN nd) w4) :
    w4.heap[B]? = some (.cells vl 24) ∧ w4.heap[B + 1]? = some (.cells vn 3) ∧ w4.heap[B + 1 + 1]? = some (.cells vr 24) ∧ w4.heap[w1.heap.size]? = some (.cells vo 38) ∧ w4.heap[w1.heap.size + 1]? = some (.cells vu 24) := by
  have e3 := gblk_new w1 (.cells vo 38)
  have e4 := gblk_new (w1.alloc (.cells vo 38)) (.cells vu 24)
  rw [World.size_alloc] at e4
  have g : ∀ {b : Nat} {o : Obj}, ((w1.alloc (.cells vo 38)).alloc (.cells vu 24)).heap[b]? = some o → w4.heap[b]? = some o := fun h => (hb.block _ (gblk_lt (W := ((w1.alloc (.cells vo 38)).alloc (.cells vu 24)).drewN nd) h)).trans h
  exact ⟨g (gblk_alloc (gblk_alloc h0 _) _), g (gblk_alloc (gblk_alloc h1 _) _), g (gblk_alloc (gblk_alloc h2 _) _), g (gblk_alloc e3 _), g e4⟩
theorem R_one38 {W : World} {g base : Nat} {x y : Int} (h : W.heap[g]? = some (.cells #[.int .i64 x, .int .i64 y] 38)) (hb : base ≤ g) : Kd.R k38 38 W base (fun _ => True) (.slice (some ⟨g, 0, none⟩) 1 1) [⟨x, y⟩] :=
  ⟨fun _ _ => trivial, [.int .i64 x, .int .i64 y], ⟨rfl, .inr ⟨g, 1, #[.int .i64 x, .int .i64 y], rfl, hb, h, by simp, by simp [maxLen], rfl, rfl⟩⟩, Reps.snoc (Reps.none _ _) (k38_mkM _ _ _ ⟨x, y⟩) rfl⟩
set_option maxRecDepth 100000 in
set_option maxHeartbeats 4000000 in
theorem met_turn (a0_0 : Int) (A0_1 : Option Addr) (c0_1 : Nat) (l0_1 : List S38) (a0_2 : Int) (a1 a2 : Int) (w : World) (hr0_1 : Kd.C k38 w A0_1 l0_1.length l0_1) (hc0_1 : l0_1.length ≤ c0_1) (hm : least_May.f 110 a0_0 l0_1 a0_2 = some true) (hyes : metOK true l0_1 a1 a2 = true) (hh : highM a0_0 a1 a2 a0_2 l0_1 = 8) :
    Calls Try.prog 10 #[.agg #[.int .i64 a0_0, .slice A0_1 l0_1.length c0_1, .int .i64 a0_2], .int .i64 a1, .int .i64 a2] w fun e w' => ∃ v1_ : Value, e = .returned (.tuple #[.agg #[.int .i64 a0_0, v1_, .int .i64 0], .bool true, .int .i64 0]) ∧ Kd.R k38 38 w' w.heap.size (fun _ => True) v1_ [⟨a1, a2⟩] ∧ Below w.heap.size w w' := by
  have HM := Aside0.mk hm
  have HR := Aside0.mk hr0_1
  have HC := Aside0.mk hc0_1
  unfold metOK at hyes
  simp only [Bool.and_eq_true, Bool.true_and, Bool.not_eq_true'] at hyes
  obtain ⟨⟨ca, cb⟩, hah⟩ := hyes
  have hMay : ∀ W : World, Below w.heap.size w W → Calls Try.prog 15 #[.agg #[.int .i64 a0_0, .slice A0_1 l0_1.length c0_1, .int .i64 a0_2]] W fun e w' => e = .returned (.bool true) ∧ Below W.heap.size W w' :=
    fun W hW => least_May.calls 110 a0_0 A0_1 c0_1 l0_1 a0_2 true W (Kd.C_below HR.out hW) HC.out HM.out
  have hIn1 : ∀ W : World, Calls Try.prog 17 #[.int .i64 a1, .int .i64 0, .int .i64 1152921504606846976] W fun e w' => e = .returned (.bool true) ∧ Drawn0 W w' :=
    fun W => least_in.calls a1 0 1152921504606846976 _ W (by rw [in_eq, ca])
  have hIn2 : ∀ W : World, Calls Try.prog 17 #[.int .i64 a2, .int .i64 0, .int .i64 1152921504606846976] W fun e w' => e = .returned (.bool true) ∧ Drawn0 W w' :=
    fun W => least_in.calls a2 0 1152921504606846976 _ W (by rw [in_eq, cb])
  obtain ⟨p, is, hof⟩ : ∃ p is, ofL a0_0 a1 l0_1 = (p, is) := ⟨_, _, rfl⟩
  have hOf : ∀ W : World, Below w.heap.size w W → Calls Try.prog 13 #[.agg #[.int .i64 a0_0, .slice A0_1 l0_1.length c0_1, .int .i64 a0_2], .int .i64 a1] W fun e w' => e = .returned (.tuple #[.int .i64 p, .bool is]) ∧ Below W.heap.size W w' :=
    fun W hW => least_Of.calls a0_0 A0_1 c0_1 l0_1 a0_2 a1 p is W (Kd.C_below HR.out hW) HC.out (by unfold least_Of.f; rw [HM.out, Option.bind_some, if_pos rfl, if_pos ca, hof])
  have hB3 : Below w.heap.size w (((w.alloc (.cells #[.int .i64 a0_0, .slice A0_1 l0_1.length c0_1, .int .i64 a0_2] 24)).alloc (.cells #[.int .i64 a2] 3)).alloc (.cells #[.int .i64 0, .slice none 0 0, .int .i64 0] 24)) := ((((Below.refl _ w).alloc (Nat.le_refl _) _).alloc (by simp) _).alloc (by simp; omega) _)
  have hM1 := hMay _ hB3
  have HB3 := Aside0.mk hB3
  have hpos : 0 < l0_1.length := by
    rcases Nat.eq_zero_or_pos l0_1.length with h | h
    · exfalso
      obtain rfl := List.length_eq_zero_iff.mp h
      unfold highM farB at hh
      rw [show ofL a0_0 a1 [] = (0, false) from rfl] at hh
      simp at hh
    · exact h
  have hfar : is = true ∧ wrap64 (2 * p) < a2 ∧ wrap64 (a0_2 + 1) = 8 := by
    unfold highM farB at hh
    rw [hof] at hh
    by_cases c : (is && decide (wrap64 (2 * p) < a2)) = true
    · rw [if_pos c] at hh
      simp only [Bool.and_eq_true, decide_eq_true_eq] at c
      exact ⟨c.1, c.2, hh⟩
    · rw [if_neg c] at hh
      omega
  obtain ⟨rfl, hfar1, hh8⟩ := hfar
  unfold ahead at hah
  rw [decide_eq_true hpos, Bool.true_and, decide_eq_false_iff_not] at hah
  obtain ⟨ad, rfl, hp0, _⟩ := at_T38 HR.out ((l0_1.length : Int) - 1) (by omega) (by omega)
  rw [show ((l0_1.length : Int) - 1).toNat = l0_1.length - 1 by omega] at hp0
  generalize rd_T38 l0_1 ((l0_1.length : Int) - 1) = x at *
  have hlen : l0_1.length ≤ 9223372036854775807 := HR.out.2.1
  have hblk := World.block_lt_of_cell? w _ hp0
  have hq0 := Aside0.mk ((HB3.out.cell (p := ad.add ((l0_1.length - 1) * 2)) hblk).trans hp0)
  have HBK := Aside0.mk (World.block_lt_of_cell? _ _ hq0.out)
  have hfar2 : decide (wrap64 (2 * p) < a2) = true := decide_eq_true hfar1
  have hge : x.f0 ≤ a1 := by omega
  clear hMay hB3 hm hr0_1 hc0_1 ca cb hp0 hblk hof hh hah hfar1
  have ad1 : ∀ (W : World) j o, (W.drewN j).alloc o = (W.alloc o).drewN j := fun W j o => rfl
  have sd1 : ∀ (W : World) j x v, (W.drewN j).setCell x v = (W.setCell x v).drewN j := fun W j x v => rfl
  go_enter Try.func10, Try.ntmps10
  go_wp2_with (first | (go_at_call 15; (with_reducible refine hM1.mono ?_); clear hM1; rintro e w1 ⟨rfl, hb1⟩; obtain ⟨k0, k1, k2, ks⟩ := boxes3 hb1; have c00 := gblk_cell k0 0; have c01 := gblk_cell k0 1; have c02 := gblk_cell k0 2; have c1 := gblk_cell k1 0; have g00 := gblk_cell (gblk_alloc k0 (.cells #[.int .i64 a1, .int .i64 a2] 38)) 0; have g01 := gblk_cell (gblk_alloc k0 (.cells #[.int .i64 a1, .int .i64 a2] 38)) 1; have g02 := gblk_cell (gblk_alloc k0 (.cells #[.int .i64 a1, .int .i64 a2] 38)) 2; have i00 := gblk_cell (gblk_alloc (gblk_alloc k0 (.cells #[.int .i64 a1, .int .i64 a2] 38)) (.cells #[.int .i64 a0_0, .slice none 0 0, .int .i64 0] 24)) 0; have i01 := gblk_cell (gblk_alloc (gblk_alloc k0 (.cells #[.int .i64 a1, .int .i64 a2] 38)) (.cells #[.int .i64 a0_0, .slice none 0 0, .int .i64 0] 24)) 1; have i02 := gblk_cell (gblk_alloc (gblk_alloc k0 (.cells #[.int .i64 a1, .int .i64 a2] 38)) (.cells #[.int .i64 a0_0, .slice none 0 0, .int .i64 0] 24)) 2; have K0 := Aside0.mk k0; have K1 := Aside0.mk k1; have K2 := Aside0.mk k2; have HB1 := Aside0.mk hb1; clear k0 k1 k2 hb1; simp only [List.getElem?_toArray, List.getElem?_cons_zero, List.getElem?_cons_succ] at c00 c01 c02 c1 g00 g01 g02 i00 i01 i02; have e0 := (HB1.out.cell (p := ad.add ((l0_1.length - 1) * 2)) HBK.out).trans hq0.out) | (go_at_call 17; (with_reducible refine (hIn1 _).mono ?_); rintro e w2 ⟨rfl, ⟨nd, rfl⟩⟩) | (go_at_call 17; (with_reducible refine (hIn2 _).mono ?_); rintro e w3 ⟨rfl, ⟨nd2, rfl⟩⟩) | (go_at_call 13; (refine (hOf _ (pw_below_drewN (below_alloc (below_alloc (below_step HB3.out HB1.out) _) _) _)).mono ?_); rintro e w4 ⟨rfl, hb4⟩; obtain ⟨q0, q1, q2, q3, q4⟩ := boxes5 K0.out K1.out K2.out hb4; have d02 := gblk_cell q0 2; have d1 := gblk_cell q1 0; have d30 := gblk_cell q3 0; have d31 := gblk_cell q3 1; have d40 := gblk_cell q4 0; have d41 := gblk_cell q4 1; have d42 := gblk_cell q4 2; have f40 := gblk_free q4 0; have f41 := gblk_free q4 1; have f42 := gblk_free q4 2; have d20 := gblk_cell q2 0; have d21 := gblk_cell q2 1; have d22 := gblk_cell q2 2; have f20 := gblk_free q2 0; have f21 := gblk_free q2 1; have f22 := gblk_free q2 2; have Q2 := Aside0.mk q2; have Q3 := Aside0.mk q3; have Q4 := Aside0.mk q4; have HB4 := Aside0.mk hb4; have hsz4 := hb4.size; clear q0 q1 q2 q3 q4 hb4; simp only [List.getElem?_toArray, List.getElem?_cons_zero, List.getElem?_cons_succ] at d02 d1 d30 d31 d40 d41 d42 d20 d21 d22))
  clear d02 d1 d30 d31 d40 d41 d42 d20 d21 d22 f40 f41 f42 f20 f21 f22 c00 c01 c02 c1 g00 g01 g02 i00 i01 i02 e0
  have s4 := gblk_set Q4.out 2 (.int .i64 8)
  have s3 := gblk_other Q3.out 2 (.int .i64 8) (show w1.heap.size ≠ w1.heap.size + 1 by omega)
  have s2 := gblk_other (C := w1.heap.size + 1) Q2.out 2 (.int .i64 8) (by omega)
  have hb5 : Below w.heap.size w (w4.setCell ⟨w1.heap.size + 1, 2, none⟩ (.int .i64 8)) := (below_step (pw_below_drewN (below_alloc (below_alloc (below_step HB3.out HB1.out) _) _) _) HB4.out).setCell (p := ⟨w1.heap.size + 1, 2, none⟩) (by simp; omega) _
  have hs5 : w1.heap.size + 2 ≤ (w4.setCell ⟨w1.heap.size + 1, 2, none⟩ (.int .i64 8)).heap.size := by simp at hsz4 ⊢; omega
  generalize w4.setCell ⟨w1.heap.size + 1, 2, none⟩ (.int .i64 8) = W at *
  have HB5 := Aside0.mk hb5
  have HS5 := Aside0.mk hs5
  have u30 := gblk_cell s3 0
  have u31 := gblk_cell s3 1
  have u40 := gblk_cell s4 0
  have u41 := gblk_cell s4 1
  have u42 := gblk_cell s4 2
  have v40 := gblk_free s4 0
  have v41 := gblk_free s4 1
  have v42 := gblk_free s4 2
  have S2 := Aside0.mk s2
  have S4 := Aside0.mk s4
  have mA1 := gblk_cell (gblk_alloc s4 (.cells #[.int .i64 a1, .int .i64 a2] 38)) 1
  have nA1 := gblk_free (gblk_alloc s4 (.cells #[.int .i64 a1, .int .i64 a2] 38)) 1
  have mA2 := gblk_cell (gblk_alloc s4 (.cells #[.int .i64 a1, .int .i64 a2] 38)) 2
  have nA2 := gblk_free (gblk_alloc s4 (.cells #[.int .i64 a1, .int .i64 a2] 38)) 2
  have mZ1 := gblk_cell (gblk_set s4 2 (.int .i64 0)) 1
  have nZ1 := gblk_free (gblk_set s4 2 (.int .i64 0)) 1
  have mZ2 := gblk_cell (gblk_set s4 2 (.int .i64 0)) 2
  have nZ2 := gblk_free (gblk_set s4 2 (.int .i64 0)) 2
  have mAZ1 := gblk_cell (gblk_alloc (gblk_set s4 2 (.int .i64 0)) (.cells #[.int .i64 a1, .int .i64 a2] 38)) 1
  have nAZ1 := gblk_free (gblk_alloc (gblk_set s4 2 (.int .i64 0)) (.cells #[.int .i64 a1, .int .i64 a2] 38)) 1
  have mAZ2 := gblk_cell (gblk_alloc (gblk_set s4 2 (.int .i64 0)) (.cells #[.int .i64 a1, .int .i64 a2] 38)) 2
  have nAZ2 := gblk_free (gblk_alloc (gblk_set s4 2 (.int .i64 0)) (.cells #[.int .i64 a1, .int .i64 a2] 38)) 2
  have mZA1 := gblk_cell (gblk_set (gblk_alloc s4 (.cells #[.int .i64 a1, .int .i64 a2] 38)) 2 (.int .i64 0)) 1
  have nZA1 := gblk_free (gblk_set (gblk_alloc s4 (.cells #[.int .i64 a1, .int .i64 a2] 38)) 2 (.int .i64 0)) 1
  have mZA2 := gblk_cell (gblk_set (gblk_alloc s4 (.cells #[.int .i64 a1, .int .i64 a2] 38)) 2 (.int .i64 0)) 2
  have nZA2 := gblk_free (gblk_set (gblk_alloc s4 (.cells #[.int .i64 a1, .int .i64 a2] 38)) 2 (.int .i64 0)) 2
  have mYA1 := gblk_cell (gblk_set (gblk_alloc s4 (.cells #[.int .i64 a1, .int .i64 a2] 38)) 1 (.slice (some ⟨W.heap.size, 0, none⟩) 1 1)) 1
  have nYA1 := gblk_free (gblk_set (gblk_alloc s4 (.cells #[.int .i64 a1, .int .i64 a2] 38)) 1 (.slice (some ⟨W.heap.size, 0, none⟩) 1 1)) 1
  have mYA2 := gblk_cell (gblk_set (gblk_alloc s4 (.cells #[.int .i64 a1, .int .i64 a2] 38)) 1 (.slice (some ⟨W.heap.size, 0, none⟩) 1 1)) 2
  have nYA2 := gblk_free (gblk_set (gblk_alloc s4 (.cells #[.int .i64 a1, .int .i64 a2] 38)) 1 (.slice (some ⟨W.heap.size, 0, none⟩) 1 1)) 2
  clear s2 s3 s4 hb5 hs5 hsz4
  simp only [List.getElem?_toArray, List.getElem?_cons_zero, List.getElem?_cons_succ, List.setIfInBounds_toArray, List.set_cons_zero, List.set_cons_succ] at u30 u31 u40 u41 u42 mA1 mA2 mZ1 mZ2 mAZ1 mAZ2 mZA1 mZA2 mYA1 mYA2
  go_region
  · have r4 := gblk_set (gblk_set (gblk_alloc S4.out (.cells #[.int .i64 a1, .int .i64 a2] 38)) 2 (.int .i64 0)) 1 (.slice (some ⟨W.heap.size, 0, none⟩) 1 1)
    have r2 := gblk_other (C := w1.heap.size + 1) (gblk_other (C := w1.heap.size + 1) (gblk_alloc S2.out (.cells #[.int .i64 a1, .int .i64 a2] 38)) 2 (.int .i64 0) (by omega)) 1 (.slice (some ⟨W.heap.size, 0, none⟩) 1 1) (by omega)
    have r6 := gblk_other (C := w1.heap.size + 1) (gblk_other (C := w1.heap.size + 1) (gblk_new W (.cells #[.int .i64 a1, .int .i64 a2] 38)) 2 (.int .i64 0) (by have := HS5.out; omega)) 1 (.slice (some ⟨W.heap.size, 0, none⟩) 1 1) (by have := HS5.out; omega)
    have hv : Below w.heap.size w (((W.alloc (.cells #[.int .i64 a1, .int .i64 a2] 38)).setCell ⟨w1.heap.size + 1, 2, none⟩ (.int .i64 0)).setCell ⟨w1.heap.size + 1, 1, none⟩ (.slice (some ⟨W.heap.size, 0, none⟩) 1 1)) := (((HB5.out.alloc (HB5.out.size) _).setCell (p := ⟨w1.heap.size + 1, 2, none⟩) (by simp; omega) _).setCell (p := ⟨w1.heap.size + 1, 1, none⟩) (by simp; omega) _)
    have hw0 : w.heap.size + 2 < w1.heap.size := ks
    clear mA1 nA1 mA2 nA2 mZ1 nZ1 mZ2 nZ2 mAZ1 nAZ1 mAZ2 nAZ2 mZA1 nZA1 mZA2 nZA2 mYA1 nYA1 mYA2 nYA2 u30 u31 u40 u41 u42 v40 v41 v42
    generalize (((W.alloc (.cells #[.int .i64 a1, .int .i64 a2] 38)).setCell ⟨w1.heap.size + 1, 2, none⟩ (.int .i64 0)).setCell ⟨w1.heap.size + 1, 1, none⟩ (.slice (some ⟨W.heap.size, 0, none⟩) 1 1)) = V at *
    have p20 := gblk_cell r2 0
    have p21 := gblk_cell r2 1
    have p22 := gblk_cell r2 2
    have q20 := gblk_free r2 0
    have q21 := gblk_free r2 1
    have q22 := gblk_free r2 2
    have p40 := gblk_cell r4 0
    have p41 := gblk_cell r4 1
    have p42 := gblk_cell r4 2
    have R2 := Aside0.mk r2
    have HR6 := Aside0.mk r6
    have HV := Aside0.mk hv
    have HW0 := Aside0.mk hw0
    clear r2 r4 r6 hv hw0
    simp only [List.getElem?_toArray, List.getElem?_cons_zero, List.getElem?_cons_succ, List.setIfInBounds_toArray, List.set_cons_zero, List.set_cons_succ] at p20 p21 p22 p40 p41 p42
    go_wp2
    refine bodyPost_ret (v := .tuple #[.agg #[.int .i64 a0_0, .slice (some ⟨W.heap.size, 0, none⟩) 1 1, .int .i64 0], .bool true, .int .i64 0]) (res10 _ _ (w.heap.size + 1 + 1) _ _ _ _ _ rfl rfl rfl ?_ ?_ ?_) rfl ⟨_, rfl, R_one38 ?_ ?_, ?_⟩
    · exact gblk_cell (gblk_set (gblk_set (gblk_set R2.out 0 _) 1 _) 2 _) 0
    · exact gblk_cell (gblk_set (gblk_set (gblk_set R2.out 0 _) 1 _) 2 _) 1
    · exact gblk_cell (gblk_set (gblk_set (gblk_set R2.out 0 _) 1 _) 2 _) 2
    · exact gblk_other (gblk_other (gblk_other HR6.out 0 _ (by have := HS5.out; have := HW0.out; omega)) 1 _ (by have := HS5.out; have := HW0.out; omega)) 2 _ (by have := HS5.out; have := HW0.out; omega)
    · have := HB5.out.size
      omega
    · exact below_drew (((HV.out.setCell (p := ⟨w.heap.size + 1 + 1, 0, none⟩) (by simp; omega) _).setCell (p := ⟨w.heap.size + 1 + 1, 1, none⟩) (by simp; omega) _).setCell (p := ⟨w.heap.size + 1 + 1, 2, none⟩) (by simp; omega) _)
  · have r4 := gblk_set (gblk_alloc (gblk_set S4.out 2 (.int .i64 0)) (.cells #[.int .i64 a1, .int .i64 a2] 38)) 1 (.slice (some ⟨W.heap.size, 0, none⟩) 1 1)
    have r2 := gblk_other (C := w1.heap.size + 1) (gblk_alloc (gblk_other (C := w1.heap.size + 1) S2.out 2 (.int .i64 0) (by omega)) (.cells #[.int .i64 a1, .int .i64 a2] 38)) 1 (.slice (some ⟨W.heap.size, 0, none⟩) 1 1) (by omega)
    have r6 := (show (((W.setCell ⟨w1.heap.size + 1, 2, none⟩ (.int .i64 0)).alloc (.cells #[.int .i64 a1, .int .i64 a2] 38)).setCell ⟨w1.heap.size + 1, 1, none⟩ (.slice (some ⟨W.heap.size, 0, none⟩) 1 1)).heap[W.heap.size]? = some (.cells #[.int .i64 a1, .int .i64 a2] 38) from gblk_other (C := w1.heap.size + 1) (by have := gblk_new (W.setCell ⟨w1.heap.size + 1, 2, none⟩ (.int .i64 0)) (.cells #[.int .i64 a1, .int .i64 a2] 38); rwa [World.size_setCell] at this) 1 (.slice (some ⟨W.heap.size, 0, none⟩) 1 1) (by have := HS5.out; omega))
    have hv : Below w.heap.size w (((W.setCell ⟨w1.heap.size + 1, 2, none⟩ (.int .i64 0)).alloc (.cells #[.int .i64 a1, .int .i64 a2] 38)).setCell ⟨w1.heap.size + 1, 1, none⟩ (.slice (some ⟨W.heap.size, 0, none⟩) 1 1)) := (((HB5.out.setCell (p := ⟨w1.heap.size + 1, 2, none⟩) (by simp; omega) _).alloc (by have := HB5.out.size; simp; omega) _).setCell (p := ⟨w1.heap.size + 1, 1, none⟩) (by simp; omega) _)
    have hw0 : w.heap.size + 2 < w1.heap.size := ks
    clear mA1 nA1 mA2 nA2 mZ1 nZ1 mZ2 nZ2 mAZ1 nAZ1 mAZ2 nAZ2 mZA1 nZA1 mZA2 nZA2 mYA1 nYA1 mYA2 nYA2 u30 u31 u40 u41 u42 v40 v41 v42
    generalize (((W.setCell ⟨w1.heap.size + 1, 2, none⟩ (.int .i64 0)).alloc (.cells #[.int .i64 a1, .int .i64 a2] 38)).setCell ⟨w1.heap.size + 1, 1, none⟩ (.slice (some ⟨W.heap.size, 0, none⟩) 1 1)) = V at *
    have p20 := gblk_cell r2 0
    have p21 := gblk_cell r2 1
    have p22 := gblk_cell r2 2
    have q20 := gblk_free r2 0
    have q21 := gblk_free r2 1
    have q22 := gblk_free r2 2
    have p40 := gblk_cell r4 0
    have p41 := gblk_cell r4 1
    have p42 := gblk_cell r4 2
    have R2 := Aside0.mk r2
    have HR6 := Aside0.mk r6
    have HV := Aside0.mk hv
    have HW0 := Aside0.mk hw0
    clear r2 r4 r6 hv hw0
    simp only [List.getElem?_toArray, List.getElem?_cons_zero, List.getElem?_cons_succ, List.setIfInBounds_toArray, List.set_cons_zero, List.set_cons_succ] at p20 p21 p22 p40 p41 p42
    go_wp2
    refine bodyPost_ret (v := .tuple #[.agg #[.int .i64 a0_0, .slice (some ⟨W.heap.size, 0, none⟩) 1 1, .int .i64 0], .bool true, .int .i64 0]) (res10 _ _ (w.heap.size + 1 + 1) _ _ _ _ _ rfl rfl rfl ?_ ?_ ?_) rfl ⟨_, rfl, R_one38 ?_ ?_, ?_⟩
    · exact gblk_cell (gblk_set (gblk_set (gblk_set R2.out 0 _) 1 _) 2 _) 0
    · exact gblk_cell (gblk_set (gblk_set (gblk_set R2.out 0 _) 1 _) 2 _) 1
    · exact gblk_cell (gblk_set (gblk_set (gblk_set R2.out 0 _) 1 _) 2 _) 2
    · exact gblk_other (gblk_other (gblk_other HR6.out 0 _ (by have := HS5.out; have := HW0.out; omega)) 1 _ (by have := HS5.out; have := HW0.out; omega)) 2 _ (by have := HS5.out; have := HW0.out; omega)
    · have := HB5.out.size
      omega
    · exact below_drew (((HV.out.setCell (p := ⟨w.heap.size + 1 + 1, 0, none⟩) (by simp; omega) _).setCell (p := ⟨w.heap.size + 1 + 1, 1, none⟩) (by simp; omega) _).setCell (p := ⟨w.heap.size + 1 + 1, 2, none⟩) (by simp; omega) _)
end Go.Proofs.Ytenpchgnjhmaaaa.Given
