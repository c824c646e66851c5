/- The walk of least.Met where it adds. PRINTED BY gen09met.py -/
import Derived.Test.YtenpchgnjhmaaaaGMetC0
namespace Go.Proofs.Ytenpchgnjhmaaaa.Given
open Go.RowKit Go.Shelf Go.Proofs.YtenpchgnjhmaaaaW.PrintWords Go.Proofs.YtenpchgnjhmaaaaW.PrintLast Go.Proofs.YtenpchgnjhmaaaaW.PrintMore Go.Proofs.Ytenpchgnjhmaaaa.S
attribute [local go_sem] Oper.semAt_some
set_option linter.unusedVariables false
set_option linter.unusedSimpArgs false
set_option maxRecDepth 100000 in
set_option maxHeartbeats 8000000 in
theorem met_more10 (a0_0 : Int) (A0_1 : Option Addr) (c0_1 : Nat) (l0_1 : List S38) (a0_2 : Int) (a1 a2 : Int) (w : World) (hr0_1 : Kd.C k38 w A0_1 l0_1.length l0_1) (hc0_1 : l0_1.length ≤ c0_1) (hm : least_May.f 110 a0_0 l0_1 a0_2 = some true) (hyes : metOK true l0_1 a1 a2 = true) (hl100 : l0_1.length ≤ 100) (p : Int) (hpos : 0 < l0_1.length) (hof : ofL a0_0 a1 l0_1 = (p, false))  :
    Calls Try.prog 10 #[.agg #[.int .i64 a0_0, .slice A0_1 l0_1.length c0_1, .int .i64 a0_2], .int .i64 a1, .int .i64 a2] w fun e w' => ∃ v1_ : Value, e = .returned (.tuple #[.agg #[.int .i64 a0_0, v1_, .int .i64 0], .bool false, .int .i64 0]) ∧ Kd.R k38 38 w' w.heap.size (fun _ => True) v1_ ((moreL a0_0 a1 a2 l0_1).take 100) ∧ Below w.heap.size w w' := by
  have HM := Aside0.mk hm
  have HR := Aside0.mk hr0_1
  have HC := Aside0.mk hc0_1
  unfold metOK at hyes
  simp only [Bool.and_eq_true, Bool.true_and, Bool.not_eq_true'] at hyes
  obtain ⟨⟨ca, cb⟩, hah⟩ := hyes
  have hMay : ∀ W : World, Below w.heap.size w W → CallsIn Fence.wide 8 Try.prog 15 #[.agg #[.int .i64 a0_0, .slice A0_1 l0_1.length c0_1, .int .i64 a0_2]] W fun e w' => e = .returned (.bool true) ∧ Below W.heap.size W w' :=
    fun W hW => callsIn_wide.2 (least_May.calls 110 a0_0 A0_1 c0_1 l0_1 a0_2 true W (Kd.C_below HR.out hW) HC.out HM.out)
  have hIn1 : ∀ W : World, CallsIn Fence.wide 8 Try.prog 17 #[.int .i64 a1, .int .i64 0, .int .i64 1152921504606846976] W fun e w' => e = .returned (.bool true) ∧ Drawn0 W w' :=
    fun W => callsIn_wide.2 (least_in.calls a1 0 1152921504606846976 _ W (by rw [in_eq, ca]))
  have hIn2 : ∀ W : World, CallsIn Fence.wide 8 Try.prog 17 #[.int .i64 a2, .int .i64 0, .int .i64 1152921504606846976] W fun e w' => e = .returned (.bool true) ∧ Drawn0 W w' :=
    fun W => callsIn_wide.2 (least_in.calls a2 0 1152921504606846976 _ W (by rw [in_eq, cb]))
  have hOf : ∀ W : World, Below w.heap.size w W → CallsIn Fence.wide 8 Try.prog 13 #[.agg #[.int .i64 a0_0, .slice A0_1 l0_1.length c0_1, .int .i64 a0_2], .int .i64 a1] W fun e w' => e = .returned (.tuple #[.int .i64 p, .bool false]) ∧ Below W.heap.size W w' :=
    fun W hW => callsIn_wide.2 (least_Of.calls a0_0 A0_1 c0_1 l0_1 a0_2 a1 p false W (Kd.C_below HR.out hW) HC.out (by unfold least_Of.f; rw [HM.out, Option.bind_some, if_pos rfl, if_pos ca, hof]))
  have hB3 : Below w.heap.size w (((w.alloc (.cells #[.int .i64 a0_0, .slice A0_1 l0_1.length c0_1, .int .i64 a0_2] 24)).alloc (.cells #[.int .i64 a2] 3)).alloc (.cells #[.int .i64 0, .slice none 0 0, .int .i64 0] 24)) := ((((Below.refl _ w).alloc (Nat.le_refl _) _).alloc (by simp) _).alloc (by simp; omega) _)
  have hM1 := hMay _ hB3
  have HB3 := Aside0.mk hB3
  unfold ahead at hah
  rw [decide_eq_true hpos, Bool.true_and, decide_eq_false_iff_not] at hah
  obtain ⟨ad, rfl, hp0, _⟩ := at_T38 HR.out ((l0_1.length : Int) - 1) (by omega) (by omega)
  rw [show ((l0_1.length : Int) - 1).toNat = l0_1.length - 1 by omega] at hp0
  generalize rd_T38 l0_1 ((l0_1.length : Int) - 1) = x at *
  have hlen : l0_1.length ≤ 9223372036854775807 := HR.out.2.1
  have hblk := World.block_lt_of_cell? w _ hp0
  have hq0 := Aside0.mk ((HB3.out.cell (p := ad.add ((l0_1.length - 1) * 2)) hblk).trans hp0)
  have HBK := Aside0.mk (World.block_lt_of_cell? _ _ hq0.out)
  have hge : x.f0 ≤ a1 := by omega
  clear hp0 hblk
  have HL := Aside0.mk hl100
  clear hMay hB3 hm hr0_1 hc0_1 ca cb hof hah hl100
  have ad1 : ∀ (W : World) j o, (W.drewN j).alloc o = (W.alloc o).drewN j := fun W j o => rfl
  have sd1 : ∀ (W : World) j x v, (W.drewN j).setCell x v = (W.setCell x v).drewN j := fun W j x v => rfl
  refine (callsIn_wide (n := 9)).1 (callsIn_of_wp_marks Try.func10 rfl trivial ?_ rfl)
  simp only [Try.ntmps10, List.size_toArray, List.length_cons, List.length_nil, Nat.reduceAdd, Nat.reduceSub, Array.replicate_succ, Array.replicate_zero, List.push_toArray, List.append_toArray, List.nil_append, List.cons_append]
  gi_wp2_with (first | (refine ⟨trivial, ?_⟩; gi_at_call 15; with_reducible refine hM1.mono ?_; clear hM1; rintro e w1 ⟨rfl, hb1⟩; obtain ⟨k0, k1, k2, ks⟩ := boxes3 hb1; have c00 := gblk_cell k0 0; have c01 := gblk_cell k0 1; have c02 := gblk_cell k0 2; have c1 := gblk_cell k1 0; have g00 := gblk_cell (gblk_alloc k0 (.cells #[.int .i64 a1, .int .i64 a2] 38)) 0; have g01 := gblk_cell (gblk_alloc k0 (.cells #[.int .i64 a1, .int .i64 a2] 38)) 1; have g02 := gblk_cell (gblk_alloc k0 (.cells #[.int .i64 a1, .int .i64 a2] 38)) 2; have i00 := gblk_cell (gblk_alloc (gblk_alloc k0 (.cells #[.int .i64 a1, .int .i64 a2] 38)) (.cells #[.int .i64 a0_0, .slice none 0 0, .int .i64 0] 24)) 0; have i01 := gblk_cell (gblk_alloc (gblk_alloc k0 (.cells #[.int .i64 a1, .int .i64 a2] 38)) (.cells #[.int .i64 a0_0, .slice none 0 0, .int .i64 0] 24)) 1; have i02 := gblk_cell (gblk_alloc (gblk_alloc k0 (.cells #[.int .i64 a1, .int .i64 a2] 38)) (.cells #[.int .i64 a0_0, .slice none 0 0, .int .i64 0] 24)) 2; have K0 := Aside0.mk k0; have K1 := Aside0.mk k1; have K2 := Aside0.mk k2; have HB1 := Aside0.mk hb1; clear k0 k1 k2 hb1; simp only [List.getElem?_toArray, List.getElem?_cons_zero, List.getElem?_cons_succ] at c00 c01 c02 c1 g00 g01 g02 i00 i01 i02; have e0 := (HB1.out.cell (p := ad.add ((l0_1.length - 1) * 2)) HBK.out).trans hq0.out) | (refine ⟨trivial, ?_⟩; gi_at_call 17; with_reducible refine (hIn1 _).mono ?_; rintro e w2 ⟨rfl, ⟨nd, rfl⟩⟩) | (refine ⟨trivial, ?_⟩; gi_at_call 17; with_reducible refine (hIn2 _).mono ?_; rintro e w3 ⟨rfl, ⟨nd2, rfl⟩⟩) | (refine ⟨trivial, ?_⟩; gi_at_call 13; refine (hOf _ (pw_below_drewN (below_alloc (below_alloc (below_step HB3.out HB1.out) _) _) _)).mono ?_; rintro e w4 ⟨rfl, hb4⟩; obtain ⟨q0, q1, q2, q3, q4⟩ := boxes5 K0.out K1.out K2.out hb4; have d00 := gblk_cell q0 0; have d01 := gblk_cell q0 1; have d02 := gblk_cell q0 2; have d1 := gblk_cell q1 0; have d42 := gblk_cell q4 2; have f42 := gblk_free q4 2; have Q0 := Aside0.mk q0; have Q1 := Aside0.mk q1; have Q2 := Aside0.mk q2; have Q3 := Aside0.mk q3; have Q4 := Aside0.mk q4; have HB4 := Aside0.mk hb4; have hsz4 := hb4.size; clear q0 q1 q2 q3 q4 hb4; simp only [List.getElem?_toArray, List.getElem?_cons_zero, List.getElem?_cons_succ] at d00 d01 d02 d1 d42) | (refine ⟨trivial, ?_⟩; gi_at_call 18; refine (counting_in 8 a0_0 a0_2 a1 (some ad) l0_1.length c0_1 _).mono ?_; rintro e w6 ⟨rfl, rfl⟩))
  clear c00 c01 c02 c1 g00 g01 g02 i00 i01 i02 e0 hIn1 hIn2 hOf
  have sN := Q1.out
  have sR := Q2.out
  have sO := Q3.out
  have sB := Q4.out
  have hbo : Below w.heap.size w w4 := (below_step (pw_below_drewN (below_alloc (below_alloc (below_step HB3.out HB1.out) _) _) _) HB4.out)
  have hs5 : w1.heap.size + 2 ≤ w4.heap.size := by simp at hsz4 ⊢; omega
  clear f42 d00 d01 d02 d1 d42 hsz4
  have hC2 : k38.C w4 (some ad) l0_1.length l0_1 := Kd.C_below HR.out hbo
  have kl := gblk_new w4 (.cells #[.int .i64 a0_0, .slice (some ad) l0_1.length c0_1, .int .i64 a0_2] 24)
  have ka := gblk_new (w4.alloc (.cells #[.int .i64 a0_0, .slice (some ad) l0_1.length c0_1, .int .i64 a0_2] 24)) (.cells #[.int .i64 a1] 3)
  rw [World.size_alloc] at ka
  replace kl := gblk_alloc kl (.cells #[.int .i64 a1] 3)
  have tN := gblk_alloc (gblk_alloc sN (.cells #[.int .i64 a0_0, .slice (some ad) l0_1.length c0_1, .int .i64 a0_2] 24)) (.cells #[.int .i64 a1] 3)
  have tR := gblk_alloc (gblk_alloc sR (.cells #[.int .i64 a0_0, .slice (some ad) l0_1.length c0_1, .int .i64 a0_2] 24)) (.cells #[.int .i64 a1] 3)
  have tO := gblk_alloc (gblk_alloc sO (.cells #[.int .i64 a0_0, .slice (some ad) l0_1.length c0_1, .int .i64 a0_2] 24)) (.cells #[.int .i64 a1] 3)
  have tB := gblk_alloc (gblk_alloc sB (.cells #[.int .i64 a0_0, .slice (some ad) l0_1.length c0_1, .int .i64 a0_2] 24)) (.cells #[.int .i64 a1] 3)
  have hbB : Below w.heap.size w ((w4.alloc (.cells #[.int .i64 a0_0, .slice (some ad) l0_1.length c0_1, .int .i64 a0_2] 24)).alloc (.cells #[.int .i64 a1] 3)) := below_alloc (below_alloc hbo _) _
  have hCC : k38.C ((w4.alloc (.cells #[.int .i64 a0_0, .slice (some ad) l0_1.length c0_1, .int .i64 a0_2] 24)).alloc (.cells #[.int .i64 a1] 3)) (some ad) l0_1.length l0_1 := Kd.C_alloc (Kd.C_alloc hC2 _) _
  have hsz : ((w4.alloc (.cells #[.int .i64 a0_0, .slice (some ad) l0_1.length c0_1, .int .i64 a0_2] 24)).alloc (.cells #[.int .i64 a1] 3)).heap.size = w4.heap.size + 2 := by simp
  obtain ⟨Qs, hQs⟩ : ∃ Qs : Nat → Prop, Qs = fun b => b < w.heap.size ∨ b = w4.heap.size ∨ b = w4.heap.size + 1 := ⟨_, rfl⟩
  have hAb : ∀ ad', (some ad) = some ad' → 0 < l0_1.length → Qs ad'.block := by
    intro ad' e hp
    obtain ⟨ad2, e2, hc, _⟩ := at_T38 HR.out 0 (by omega) (by omega)
    have h1 := World.block_lt_of_cell? w _ hc
    rw [e] at e2
    cases e2
    have h2 : (ad'.add ((0 : Int).toNat * 2)).block = ad'.block := by unfold Addr.add; split <;> rfl
    rw [h2] at h1
    rw [hQs]
    exact .inl h1
  generalize hW0 : ((w4.alloc (.cells #[.int .i64 a0_0, .slice (some ad) l0_1.length c0_1, .int .i64 a0_2] 24)).alloc (.cells #[.int .i64 a1] 3)) = W0 at *
  have hstops := counting_stopsB 8 (by omega) w4.heap.size (w4.heap.size + 1) Qs a0_0 a0_2 a1 (some ad) c0_1 l0_1 W0 (by rw [hQs]; exact .inr (.inl rfl)) (by rw [hQs]; exact .inr (.inr rfl)) (gblk_cell kl 0) (gblk_cell kl 1) (gblk_cell ka 0) hCC hAb
  have hQlt : ∀ b, Qs b → b < W0.heap.size := by intro b hb; rw [hQs] at hb; omega
  have hQBo : ¬ Qs (w1.heap.size + 1) := by rw [hQs]; omega
  have hwW : w.heap.size ≤ W0.heap.size := hbB.size
  have hBo : w1.heap.size + 1 < W0.heap.size := by omega
  have hwB : w.heap.size ≤ w1.heap.size + 1 := by omega
  have HSZ := Aside0.mk hsz
  have HBB := Aside0.mk hbB
  clear hsz hW0 sN sR sO sB kl ka hCC hC2 hAb hQs hbo hbB
  refine wpIn_name (fun a0 ha0 => ?_)
  refine wpIn_rangeFunc_ownH rfl (by omega) (gf := 20) (lb := #[.pointer (some ⟨w4.heap.size, 0, none⟩), .pointer (some ⟨w4.heap.size + 1, 0, none⟩)]) (by rw [ha0]; rfl) trivial (enters_of Try.func20 (by kernel_rfl) rfl) hstops (fun h k => KeptOn.trans h k) (fun W l o o' hl ho hc _ => (KeptOn.refl _ W).grown (grownBy_putObj' W l o') (fun k e => by cases e; exact .inl (fun hq => by have := hQlt _ hq; omega))) (Below.refl _ _) (fun _ => rfl)
    (fun pre W => Inv38 w W0 (w1.heap.size + 1) a0_0 0 a2 pre W)
    (fun _ _ _ => False)
    (fun s W W' row hs hg hr => hs.grown hBo hwW hg hr)
    (fun c s W W' row hs hg hr => hs)
    ⟨⟨_, tB, own_nil _ _ _ _⟩, fun _ _ _ => rfl, Nat.le_refl _, HBB.out⟩
    (fun x a' W => ∃ Bx : Nat, W0.heap.size ≤ Bx ∧ W.heap[Bx]? = some (.cells #[.int .i64 x.f0, .int .i64 x.f1] 38) ∧ a' = { tmps := (a0.tmps.setIfInBounds 81 (enc38 x)).setIfInBounds 13 (.pointer (some ⟨Bx, 0, none⟩)), defers := [] })
    (fun x a' _ W W' row hs hg hr => by
      obtain ⟨Bx, h1, h2, e⟩ := hs
      exact ⟨Bx, h1, gblk_kept h2 hg hr, e⟩) ?assign ?body ?done ?stop
  case assign =>
    rintro l pre x W K hI hK
    subst ha0
    unfold enc38
    gi_wp2
    refine hK _ _ ((KeepsOthers.alloc _ _).from _) ((KeptOn.refl _ W).alloc _) (hI.alloc hBo hwW _) ⟨W.heap.size, hI.size, gblk_new _ _, ?_⟩
    simp only [List.setIfInBounds_toArray, List.set_cons_zero, List.set_cons_succ]
    rfl
  case body =>
    rintro l pre x a' W hl hr hI ⟨Bx, hbx, hx, rfl⟩ hlt
    subst ha0
    simp only [List.setIfInBounds_toArray, List.set_cons_zero, List.set_cons_succ]
    have HI := Aside0.mk hI
    obtain ⟨⟨v, hv, hown⟩, hrest, hsz, hbel⟩ := hI
    have yN := (hrest (w.heap.size + 1) (by omega) (by omega)).trans tN
    have hfl : (pre.filter (fun p => decide (p.f1 < a2))).length ≤ 200 := by
      have := List.length_filter_le (fun p : S38 => decide (p.f1 < a2)) pre
      have := HL.out
      omega
    have x0 := gblk_cell hx 0
    have x1 := gblk_cell hx 1
    have n0 := gblk_cell yN 0
    have o1 := gblk_cell hv 1
    have z1 := gblk_free hv 1
    simp only [List.getElem?_toArray, List.getElem?_cons_zero, List.getElem?_cons_succ] at x0 x1 n0 o1
    have HV := Aside0.mk hv
    have HOWN := Aside0.mk hown
    have HFL := Aside0.mk hfl
    have HSW := Aside0.mk hsz
    clear hx yN hv hown hfl hrest hbel hstops
    by_cases cp : x.f1 < a2
    · have cd : decide (x.f1 < a2) = true := decide_eq_true cp
      gi_wp2_with (gi_at_builtin; refine app38 _ rfl _ _ rfl W0.heap.size v (pre.filter (fun p => decide (p.f1 < a2))) rfl (HOWN.out.kept (World.grownBy_alloc W _ none) (by by_cases c : v.ownBlock = none; exact .inl c; exact .inr c)) W.heap.size x rfl (gblk_new _ _) HFL.out (by have := HSW.out; simp; omega) ?_; intro g' cap w7 ho hgr; have u1 := gblk_cell ((hgr.block (w1.heap.size + 1) (by have := HSW.out; simp; omega) (own38_lt HOWN.out hBo)).trans (gblk_alloc HV.out _)) 1; have u2 := gblk_free ((hgr.block (w1.heap.size + 1) (by have := HSW.out; simp; omega) (own38_lt HOWN.out hBo)).trans (gblk_alloc HV.out _)) 1; simp only [List.getElem?_toArray, List.getElem?_cons_zero, List.getElem?_cons_succ] at u1; have HO := Aside0.mk ho; have HG := Aside0.mk hgr; clear ho hgr)
      obtain ⟨j1, j2⟩ := HI.out.step hBo hwW hwB HV.out cd HO.out HG.out
      refine ⟨j2.from _, ?_, j1⟩
      exact (((KeptOn.refl Qs W).alloc _).grown HG.out (fun k e => .inl (fun hq => by have := hQlt _ hq; have := own_base HOWN.out k e; omega))).setCell (p := ⟨w1.heap.size + 1, 1, none⟩) hQBo _
    · have cd : decide (x.f1 < a2) = false := decide_eq_false cp
      gi_wp2
      refine ⟨KeepsFrom.refl _ _, KeptOn.refl _ _, ?_⟩
      obtain ⟨h1, h2, h3, h4⟩ := HI.out
      refine ⟨?_, h2, h3, h4⟩
      have e : (pre ++ [x]).filter (fun p => decide (p.f1 < a2)) = pre.filter (fun p => decide (p.f1 < a2)) := by rw [List.filter_append]; simp [cp]
      rw [e]
      exact h1
  case done =>
    rintro D xs W hD rfl hI hK
    subst ha0
    have HI := Aside0.mk hI
    obtain ⟨⟨v, hv, hown⟩, hrest, hsz, hbel⟩ := hI
    have yO := (hrest w1.heap.size (by omega) (by omega)).trans tO
    have yR := (hrest (w.heap.size + 1 + 1) (by omega) (by omega)).trans tR
    obtain ⟨fl, hfl⟩ : ∃ fl, fl = (cntL a0_0 a1 l0_1).filter (fun p => decide (p.f1 < a2)) := ⟨_, rfl⟩
    rw [← hfl] at hown
    have hf200 : fl.length ≤ 100 := by
      have h1 := List.length_filter_le (fun p : S38 => decide (p.f1 < a2)) (cntL a0_0 a1 l0_1)
      have h2 := List.length_filter_le (cnts a0_0 a1) l0_1
      have := HL.out
      rw [hfl]
      unfold cntL at h1 ⊢
      omega
    have y0 := gblk_cell yO 0
    have y1 := gblk_cell yO 1
    have o1 := gblk_cell hv 1
    have z1 := gblk_free hv 1
    simp only [List.getElem?_toArray, List.getElem?_cons_zero, List.getElem?_cons_succ] at y0 y1 o1
    have HV := Aside0.mk hv
    have HOWN := Aside0.mk hown
    have HFL := Aside0.mk hfl
    have HF2 := Aside0.mk hf200
    have HSW := Aside0.mk hsz
    have YR := Aside0.mk yR
    have HK := Aside0.mk hK
    clear yO yR hv hown hfl hrest hbel hstops hf200 hK
    by_cases c100 : (100 : Int) < (fl.length : Int) + 1
    · gi_wp2_with (first | (gi_at_builtin; refine app38 _ rfl _ _ rfl W0.heap.size v fl rfl (HOWN.out.kept (World.grownBy_alloc W _ none) (by by_cases c : v.ownBlock = none; exact .inl c; exact .inr c)) W.heap.size ⟨a1, a2⟩ rfl (gblk_new _ _) (by have := HF2.out; omega) (by have := HSW.out; simp; omega) ?_; intro g' cap w7 ho hgr; have hb7 := (hgr.block (w1.heap.size + 1) (by have := HSW.out; simp; omega) (own38_lt HOWN.out hBo)).trans (gblk_alloc HV.out _); have u1 := gblk_cell hb7 1; have u2 := gblk_free hb7 1; have u3 := gblk_cell (gblk_set hb7 1 (.slice (some ⟨g', 0, none⟩) (fl.length + 1) cap)) 1; simp only [List.getElem?_toArray, List.getElem?_cons_zero, List.getElem?_cons_succ, List.setIfInBounds_toArray, List.set_cons_zero, List.set_cons_succ] at u1 u3; have hcap := own38_cap ho; have hcp : ¬ ((cap : Int) < 100) := (by omega); have HO := Aside0.mk ho; have HG := Aside0.mk hgr; have HB7 := Aside0.mk hb7; have hv7 := hgr.size; simp only [World.size_alloc] at hv7; have HV7 := Aside0.mk hv7; have hcl := clone_part (w7.setCell ⟨w1.heap.size + 1, 1, none⟩ (.slice (some ⟨g', 0, none⟩) (fl.length + 1) cap)) W0.heap.size g' 100 (fl.length + 1) cap (fl ++ [⟨a1, a2⟩]) (by simp) (by omega) (by simp; have := HF2.out; omega) hcap (own38_set ho hBo _); clear ho hgr hb7 hcap hv7) | (refine ⟨trivial, ?_⟩; gi_at_call 19; (with_reducible refine hcl.mono ?_); clear hcl; rintro e w8 ⟨v8, rfl, hr8, hb8⟩; obtain ⟨A8, c8, rfl⟩ := Kd.R_slice hr8; have hsz8 := hb8.size; have hb9 := (hb8.block (w1.heap.size + 1) (by have := HSW.out; have := HV7.out; simp; omega)).trans (gblk_set HB7.out 1 (.slice (some ⟨g', 0, none⟩) (fl.length + 1) cap)); simp only [List.setIfInBounds_toArray, List.set_cons_zero, List.set_cons_succ] at hb9; have hr9 := (hb8.block (w.heap.size + 1 + 1) (by have := HSW.out; have := HV7.out; simp; omega)).trans (gblk_other (C := w1.heap.size + 1) ((HG.out.block (w.heap.size + 1 + 1) (by have := HSW.out; simp; omega) (own38_lt HOWN.out (by omega))).trans (gblk_alloc YR.out _)) 1 (.slice (some ⟨g', 0, none⟩) (fl.length + 1) cap) (by omega)); have t1 := gblk_cell hb9 1; have t2 := gblk_free hb9 1; generalize hrr : (List.take 100 (fl ++ [⟨a1, a2⟩]) : List S38) = RR at *; have s0 := gblk_cell (gblk_set hb9 1 (.slice A8 RR.length c8)) 0; have s1 := gblk_cell (gblk_set hb9 1 (.slice A8 RR.length c8)) 1; have s2 := gblk_cell (gblk_set hb9 1 (.slice A8 RR.length c8)) 2; have r0 := gblk_cell (gblk_other (C := w1.heap.size + 1) hr9 1 (.slice A8 RR.length c8) (by omega)) 0; have r1 := gblk_cell (gblk_other (C := w1.heap.size + 1) hr9 1 (.slice A8 RR.length c8) (by omega)) 1; have r2 := gblk_cell (gblk_other (C := w1.heap.size + 1) hr9 1 (.slice A8 RR.length c8) (by omega)) 2; have f0 := gblk_free (gblk_other (C := w1.heap.size + 1) hr9 1 (.slice A8 RR.length c8) (by omega)) 0; have f1 := gblk_free (gblk_other (C := w1.heap.size + 1) hr9 1 (.slice A8 RR.length c8) (by omega)) 1; have f2 := gblk_free (gblk_other (C := w1.heap.size + 1) hr9 1 (.slice A8 RR.length c8) (by omega)) 2; simp only [List.getElem?_toArray, List.getElem?_cons_zero, List.getElem?_cons_succ, List.setIfInBounds_toArray, List.set_cons_zero, List.set_cons_succ] at t1 s0 s1 s2 r0 r1 r2; have HRR := Aside0.mk hrr; have HR8 := Aside0.mk hr8; have HB8 := Aside0.mk hb8; have HB9 := Aside0.mk hb9; have HR9 := Aside0.mk hr9; have HS8 := Aside0.mk hsz8; clear hr8 hb8 hb9 hr9 hsz8 hrr))
      have hK7 : (w7.setCell ⟨w1.heap.size + 1, 1, none⟩ (.slice (some ⟨g', 0, none⟩) (fl.length + 1) cap)).heap[D]? = some (.deferred (some [])) := gblk_other ((HG.out.block D (by have := gblk_lt HK.out; simp; omega) (fun e => by have := own38_cells HOWN.out e.symm HK.out; cases this)).trans (gblk_alloc HK.out _)) 1 _ (by omega)
      have hK8 : w8.heap[D]? = some (.deferred (some [])) := (HB8.out.block D (gblk_lt hK7)).trans hK7
      have hK9 := gblk_other (C := w.heap.size + 1 + 1) (gblk_other (C := w.heap.size + 1 + 1) (gblk_other (C := w.heap.size + 1 + 1) (gblk_other (C := w1.heap.size + 1) hK8 1 (.slice A8 RR.length c8) (by omega)) 0 (.int .i64 a0_0) (by omega)) 1 (.slice A8 RR.length c8) (by omega)) 2 (.int .i64 0) (by omega)
      have hD7 : D < (w7.setCell ⟨w1.heap.size + 1, 1, none⟩ (.slice (some ⟨g', 0, none⟩) (fl.length + 1) cap)).heap.size := gblk_lt hK7
      have hr := Kd.R_bound HR8.out
      have hbw : Below w.heap.size w (w7.setCell ⟨w1.heap.size + 1, 1, none⟩ (.slice (some ⟨g', 0, none⟩) (fl.length + 1) cap)) := ((HI.out.below.alloc (by have := HSW.out; omega) _).grown HG.out (by have := HSW.out; simp; omega) (fun k e => Nat.le_trans hwW (own_base HOWN.out k e))).setCell (p := ⟨w1.heap.size + 1, 1, none⟩) hwB _
      have hsv := hbw.size
      have hs7 : W0.heap.size ≤ (w7.setCell ⟨w1.heap.size + 1, 1, none⟩ (.slice (some ⟨g', 0, none⟩) (fl.length + 1) cap)).heap.size := by have := HSW.out; have := HV7.out; simp; omega
      refine leave_mark hK9 (res10 _ _ (w.heap.size + 1 + 1) (.int .i64 a0_0) (.slice A8 RR.length c8) (.int .i64 0) _ _ rfl rfl rfl ?_ ?_ ?_) ⟨_, rfl, ?_, ?_⟩
      · exact gblk_cell (gblk_put (gblk_set (gblk_set (gblk_set (gblk_other (C := w1.heap.size + 1) HR9.out 1 _ (by omega)) 0 _) 1 _) 2 _) _ hK9 rfl) 0
      · exact gblk_cell (gblk_put (gblk_set (gblk_set (gblk_set (gblk_other (C := w1.heap.size + 1) HR9.out 1 _ (by omega)) 0 _) 1 _) 2 _) _ hK9 rfl) 1
      · exact gblk_cell (gblk_put (gblk_set (gblk_set (gblk_set (gblk_other (C := w1.heap.size + 1) HR9.out 1 _ (by omega)) 0 _) 1 _) 2 _) _ hK9 rfl) 2
      · have e : (moreL a0_0 a1 a2 l0_1).take 100 = RR := by rw [← HRR.out, HFL.out]; rfl
        rw [e]
        have f1 := Kd.R_far (p := ⟨w1.heap.size + 1, 1, none⟩) hr (fun k hk => by have := hk.2.1; have h2 : k ≠ w1.heap.size + 1 := by omega
                                                                                  exact h2) (.slice A8 RR.length c8)
        have f2 := Kd.R_far (p := ⟨w.heap.size + 1 + 1, 0, none⟩) f1 (fun k hk => by have := hk.2.1; have h2 : k ≠ w.heap.size + 1 + 1 := by omega
                                                                                     exact h2) (.int .i64 a0_0)
        have f3 := Kd.R_far (p := ⟨w.heap.size + 1 + 1, 1, none⟩) f2 (fun k hk => by have := hk.2.1; have h2 : k ≠ w.heap.size + 1 + 1 := by omega
                                                                                     exact h2) (.slice A8 RR.length c8)
        have f4 := Kd.R_far (p := ⟨w.heap.size + 1 + 1, 2, none⟩) f3 (fun k hk => by have := hk.2.1; have h2 : k ≠ w.heap.size + 1 + 1 := by omega
                                                                                     exact h2) (.int .i64 0)
        exact Kd.R_lower (Kd.R_mono (Kd.R_grown f4 (grownBy_putObj' _ D _) (fun k hk => by have := hk.2.1; intro e; cases e; omega)) (fun _ _ => trivial)) hsv
      · exact (((((below_step hbw HB8.out).setCell (p := ⟨w1.heap.size + 1, 1, none⟩) hwB _).setCell (p := ⟨w.heap.size + 1 + 1, 0, none⟩) (by simp; omega) _).setCell (p := ⟨w.heap.size + 1 + 1, 1, none⟩) (by simp; omega) _).setCell (p := ⟨w.heap.size + 1 + 1, 2, none⟩) (by simp; omega) _).trans (belowK_b (w := w) (Nat.le_refl _) _ D _ _ (by omega) hK9 rfl rfl)
    · gi_wp2_with (first | (gi_at_builtin; refine app38 _ rfl _ _ rfl W0.heap.size v fl rfl (HOWN.out.kept (World.grownBy_alloc W _ none) (by by_cases c : v.ownBlock = none; exact .inl c; exact .inr c)) W.heap.size ⟨a1, a2⟩ rfl (gblk_new _ _) (by have := HF2.out; omega) (by have := HSW.out; simp; omega) ?_; intro g' cap w7 ho hgr; have hb7 := (hgr.block (w1.heap.size + 1) (by have := HSW.out; simp; omega) (own38_lt HOWN.out hBo)).trans (gblk_alloc HV.out _); have u1 := gblk_cell hb7 1; have u2 := gblk_free hb7 1; have u3 := gblk_cell (gblk_set hb7 1 (.slice (some ⟨g', 0, none⟩) (fl.length + 1) cap)) 1; simp only [List.getElem?_toArray, List.getElem?_cons_zero, List.getElem?_cons_succ, List.setIfInBounds_toArray, List.set_cons_zero, List.set_cons_succ] at u1 u3; have hcap := own38_cap ho; have hcp : ¬ ((cap : Int) < (fl.length : Int) + 1) := (by omega); have HO := Aside0.mk ho; have HG := Aside0.mk hgr; have HB7 := Aside0.mk hb7; have hv7 := hgr.size; simp only [World.size_alloc] at hv7; have HV7 := Aside0.mk hv7; have hcl := clone_part (w7.setCell ⟨w1.heap.size + 1, 1, none⟩ (.slice (some ⟨g', 0, none⟩) (fl.length + 1) cap)) W0.heap.size g' (fl.length + 1) (fl.length + 1) cap (fl ++ [⟨a1, a2⟩]) (by simp) (by omega) (by simp; have := HF2.out; omega) hcap (own38_set ho hBo _); clear ho hgr hb7 hcap hv7) | (refine ⟨trivial, ?_⟩; gi_at_call 19; (with_reducible refine hcl.mono ?_); clear hcl; rintro e w8 ⟨v8, rfl, hr8, hb8⟩; obtain ⟨A8, c8, rfl⟩ := Kd.R_slice hr8; have hsz8 := hb8.size; have hb9 := (hb8.block (w1.heap.size + 1) (by have := HSW.out; have := HV7.out; simp; omega)).trans (gblk_set HB7.out 1 (.slice (some ⟨g', 0, none⟩) (fl.length + 1) cap)); simp only [List.setIfInBounds_toArray, List.set_cons_zero, List.set_cons_succ] at hb9; have hr9 := (hb8.block (w.heap.size + 1 + 1) (by have := HSW.out; have := HV7.out; simp; omega)).trans (gblk_other (C := w1.heap.size + 1) ((HG.out.block (w.heap.size + 1 + 1) (by have := HSW.out; simp; omega) (own38_lt HOWN.out (by omega))).trans (gblk_alloc YR.out _)) 1 (.slice (some ⟨g', 0, none⟩) (fl.length + 1) cap) (by omega)); have t1 := gblk_cell hb9 1; have t2 := gblk_free hb9 1; generalize hrr : (List.take 100 (fl ++ [⟨a1, a2⟩]) : List S38) = RR at *; have s0 := gblk_cell (gblk_set hb9 1 (.slice A8 RR.length c8)) 0; have s1 := gblk_cell (gblk_set hb9 1 (.slice A8 RR.length c8)) 1; have s2 := gblk_cell (gblk_set hb9 1 (.slice A8 RR.length c8)) 2; have r0 := gblk_cell (gblk_other (C := w1.heap.size + 1) hr9 1 (.slice A8 RR.length c8) (by omega)) 0; have r1 := gblk_cell (gblk_other (C := w1.heap.size + 1) hr9 1 (.slice A8 RR.length c8) (by omega)) 1; have r2 := gblk_cell (gblk_other (C := w1.heap.size + 1) hr9 1 (.slice A8 RR.length c8) (by omega)) 2; have f0 := gblk_free (gblk_other (C := w1.heap.size + 1) hr9 1 (.slice A8 RR.length c8) (by omega)) 0; have f1 := gblk_free (gblk_other (C := w1.heap.size + 1) hr9 1 (.slice A8 RR.length c8) (by omega)) 1; have f2 := gblk_free (gblk_other (C := w1.heap.size + 1) hr9 1 (.slice A8 RR.length c8) (by omega)) 2; simp only [List.getElem?_toArray, List.getElem?_cons_zero, List.getElem?_cons_succ, List.setIfInBounds_toArray, List.set_cons_zero, List.set_cons_succ] at t1 s0 s1 s2 r0 r1 r2; have HRR := Aside0.mk hrr; have HR8 := Aside0.mk hr8; have HB8 := Aside0.mk hb8; have HB9 := Aside0.mk hb9; have HR9 := Aside0.mk hr9; have HS8 := Aside0.mk hsz8; clear hr8 hb8 hb9 hr9 hsz8 hrr))
      have hK7 : (w7.setCell ⟨w1.heap.size + 1, 1, none⟩ (.slice (some ⟨g', 0, none⟩) (fl.length + 1) cap)).heap[D]? = some (.deferred (some [])) := gblk_other ((HG.out.block D (by have := gblk_lt HK.out; simp; omega) (fun e => by have := own38_cells HOWN.out e.symm HK.out; cases this)).trans (gblk_alloc HK.out _)) 1 _ (by omega)
      have hK8 : w8.heap[D]? = some (.deferred (some [])) := (HB8.out.block D (gblk_lt hK7)).trans hK7
      have hK9 := gblk_other (C := w.heap.size + 1 + 1) (gblk_other (C := w.heap.size + 1 + 1) (gblk_other (C := w.heap.size + 1 + 1) (gblk_other (C := w1.heap.size + 1) hK8 1 (.slice A8 RR.length c8) (by omega)) 0 (.int .i64 a0_0) (by omega)) 1 (.slice A8 RR.length c8) (by omega)) 2 (.int .i64 0) (by omega)
      have hD7 : D < (w7.setCell ⟨w1.heap.size + 1, 1, none⟩ (.slice (some ⟨g', 0, none⟩) (fl.length + 1) cap)).heap.size := gblk_lt hK7
      have hr := Kd.R_bound HR8.out
      have hbw : Below w.heap.size w (w7.setCell ⟨w1.heap.size + 1, 1, none⟩ (.slice (some ⟨g', 0, none⟩) (fl.length + 1) cap)) := ((HI.out.below.alloc (by have := HSW.out; omega) _).grown HG.out (by have := HSW.out; simp; omega) (fun k e => Nat.le_trans hwW (own_base HOWN.out k e))).setCell (p := ⟨w1.heap.size + 1, 1, none⟩) hwB _
      have hsv := hbw.size
      have hs7 : W0.heap.size ≤ (w7.setCell ⟨w1.heap.size + 1, 1, none⟩ (.slice (some ⟨g', 0, none⟩) (fl.length + 1) cap)).heap.size := by have := HSW.out; have := HV7.out; simp; omega
      refine leave_mark hK9 (res10 _ _ (w.heap.size + 1 + 1) (.int .i64 a0_0) (.slice A8 RR.length c8) (.int .i64 0) _ _ rfl rfl rfl ?_ ?_ ?_) ⟨_, rfl, ?_, ?_⟩
      · exact gblk_cell (gblk_put (gblk_set (gblk_set (gblk_set (gblk_other (C := w1.heap.size + 1) HR9.out 1 _ (by omega)) 0 _) 1 _) 2 _) _ hK9 rfl) 0
      · exact gblk_cell (gblk_put (gblk_set (gblk_set (gblk_set (gblk_other (C := w1.heap.size + 1) HR9.out 1 _ (by omega)) 0 _) 1 _) 2 _) _ hK9 rfl) 1
      · exact gblk_cell (gblk_put (gblk_set (gblk_set (gblk_set (gblk_other (C := w1.heap.size + 1) HR9.out 1 _ (by omega)) 0 _) 1 _) 2 _) _ hK9 rfl) 2
      · have e : (moreL a0_0 a1 a2 l0_1).take 100 = RR := by rw [← HRR.out, HFL.out]; rfl
        rw [e]
        have f1 := Kd.R_far (p := ⟨w1.heap.size + 1, 1, none⟩) hr (fun k hk => by have := hk.2.1; have h2 : k ≠ w1.heap.size + 1 := by omega
                                                                                  exact h2) (.slice A8 RR.length c8)
        have f2 := Kd.R_far (p := ⟨w.heap.size + 1 + 1, 0, none⟩) f1 (fun k hk => by have := hk.2.1; have h2 : k ≠ w.heap.size + 1 + 1 := by omega
                                                                                     exact h2) (.int .i64 a0_0)
        have f3 := Kd.R_far (p := ⟨w.heap.size + 1 + 1, 1, none⟩) f2 (fun k hk => by have := hk.2.1; have h2 : k ≠ w.heap.size + 1 + 1 := by omega
                                                                                     exact h2) (.slice A8 RR.length c8)
        have f4 := Kd.R_far (p := ⟨w.heap.size + 1 + 1, 2, none⟩) f3 (fun k hk => by have := hk.2.1; have h2 : k ≠ w.heap.size + 1 + 1 := by omega
                                                                                     exact h2) (.int .i64 0)
        exact Kd.R_lower (Kd.R_mono (Kd.R_grown f4 (grownBy_putObj' _ D _) (fun k hk => by have := hk.2.1; intro e; cases e; omega)) (fun _ _ => trivial)) hsv
      · exact (((((below_step hbw HB8.out).setCell (p := ⟨w1.heap.size + 1, 1, none⟩) hwB _).setCell (p := ⟨w.heap.size + 1 + 1, 0, none⟩) (by simp; omega) _).setCell (p := ⟨w.heap.size + 1 + 1, 1, none⟩) (by simp; omega) _).setCell (p := ⟨w.heap.size + 1 + 1, 2, none⟩) (by simp; omega) _).trans (belowK_b (w := w) (Nat.le_refl _) _ D _ _ (by omega) hK9 rfl rfl)
  case stop =>
    rintro D c pre W hD hpre hf hK
    exact hf.elim
end Go.Proofs.Ytenpchgnjhmaaaa.Given
