/- The walk of LaneTells. -/
import Derived.Test.YtnfgcjeenjomgaaGTellsB
namespace Go.Proofs.Ytnfgcjeenjomgaa.Given
open Go.RowKit Go.Proofs.YtnfgcjeenjomgaaW.PrintWords Go.Proofs.YtnfgcjeenjomgaaW.PrintLast Go.Proofs.YtnfgcjeenjomgaaW.PrintMore Go.Proofs.Ytnfgcjeenjomgaa.S
set_option linter.unusedVariables false
set_option linter.unusedSimpArgs false
set_option maxHeartbeats 8000000 in
set_option maxRecDepth 100000 in
theorem tells_in (k : Nat) (A0 : Option Addr) (c0 : Nat) (l pl tl wl kl sl : List S29) (z : S29) (pb tb wb kb sb M : Bool) (A1 : Option Addr) (c1 : Nat) (b : List Int) (i a y : Int) (w : World) (h0 : Pk w A0 c0 l) (h1 : By w A1 c1 b) (hs : small l) (hfew : fourinhandlaw22_few.f k l = some true) (hB : decide ((2100 : Int) < (b.length : Int)) = false) (hM : mayB l = M) (rM : fourinhandref22_May.f k l = some M) (hown : fourinhandref22_Own.f k l = some l) (hsO : fourinhandref22_Same.f k l l = some true)
    (hP : pushB l b false = (pl, pb)) (rP : fourinhandref22_Push.f k l b = some (pl, pb)) (hsP : fourinhandref22_Same.f k pl pl = some true) (hT : takeB l i = (tl, z.f0, z.f1, tb)) (rT : fourinhandref22_Take.f k l i = some (tl, z.f0, z.f1, tb)) (hsT : fourinhandref22_Same.f k tl tl = some true) (hone : fourinhandref22_Same.f k [z] [z] = some true)
    (hW : twiceB l i = (wl, wb)) (rW : fourinhandref22_Twice.f k l i = some (wl, wb)) (hsW : fourinhandref22_Same.f k wl wl = some true) (hK : markB l i = (kl, kb)) (rK : fourinhandref22_Mark.f k l i = some (kl, kb)) (hsK : fourinhandref22_Same.f k kl kl = some true) (hS : spoilB l i a y = (sl, sb)) (rS : fourinhandref22_Spoil.f k l i a y = some (sl, sb)) (hsS : fourinhandref22_Same.f k sl sl = some true) :
    Calls Try.prog 6 #[.slice A0 l.length c0, .slice A1 b.length c1, .int .i64 i, .int .i64 a, .int .u8 y] w fun e w' => e = .returned (.bool true) ∧ Below w.heap.size w w' := by
  have hB' : decide ((b.length : Int) > (2100 : Int)) = false := hB
  have hrun := fun (W : World) (A : Option Addr) (q c : Nat) (m : Bool) => one_run W A q c m
  have HP := Aside0.mk h0
  have HB := Aside0.mk h1
  clear h0 h1
  go_enter Try.func6, Try.ntmps6
  go_wp2_with (first
    | (go_at_call 9; (with_reducible refine (k_awake _).mono ?_); rintro e w1 ⟨rfl, hb⟩; have HP := Aside0.mk (HP.out.later hb.out); have HB := Aside0.mk (HB.out.later hb.out); have HW := hb; clear hb)
    | (go_at_call 10; (with_reducible refine (k_few hfew HP.out).mono ?_); rintro e w2 ⟨rfl, hb⟩; have HP := Aside0.mk (HP.out.later hb.out); have HB := Aside0.mk (HB.out.later hb.out); have HW := Aside0.mk (below_step HW.out hb.out); clear hb)
    | (go_at_call 17; (with_reducible refine (r_own hown HP.out).mono ?_); rintro e w3 ⟨Ao, co, rfl, hq, hb⟩; have HP := Aside0.mk (HP.out.later hb.out); have HB := Aside0.mk (HB.out.later hb.out); have HO := hq; clear hq; have HW := Aside0.mk (below_step HW.out hb.out); clear hb)
    | (go_at_call 12; (with_reducible refine (k_push hs hP HP.out HB.out).mono ?_); rintro e w4 ⟨Aw4, cw4, rfl, hq, hb⟩; have HP := Aside0.mk (HP.out.later hb.out); have HB := Aside0.mk (HB.out.later hb.out); have HO := Aside0.mk (HO.out.later hb.out); have HQ1 := hq; clear hq; have HW := Aside0.mk (below_step HW.out hb.out); clear hb)
    | (go_at_call 18; (with_reducible refine (r_push rP HP.out HB.out).mono ?_); rintro e w5 ⟨Aw5, cw5, rfl, hq, hb⟩; have HP := Aside0.mk (HP.out.later hb.out); have HB := Aside0.mk (HB.out.later hb.out); have HO := Aside0.mk (HO.out.later hb.out); have HQ1 := Aside0.mk (HQ1.out.later hb.out); have HQ2 := hq; clear hq; have HW := Aside0.mk (below_step HW.out hb.out); clear hb)
    | (go_at_call 13; (with_reducible refine (k_take hs hT HP.out).mono ?_); rintro e w7 ⟨Am, Ax, cm, cx, rfl, hm, hx, hb⟩;
        have hal := below_alloc (Below.refl w7.heap.size w7) (.cells #[.slice Ax z.f0.length cx, .bool z.f1] 29);
        have HP := Aside0.mk (HP.out.at hb.out hal); have HO := Aside0.mk (HO.out.at hb.out hal); have HM := Aside0.mk (hm.out.later hal); have HX := Aside0.mk (hx.out.later hal); have HC := Aside0.mk (Cel.make w7 Ax z.f0.length cx z.f1); have HW := Aside0.mk (below_step (below_step HW.out hb.out) hal); clear hb hm hx hal)
    | (go_at_call 19; (with_reducible refine (r_take rT HP.out).mono ?_); rintro e w8 ⟨Am2, Ay, cm2, cy, rfl, hm, hx, hb⟩;
        have hal := below_alloc (Below.refl w8.heap.size w8) (.cells #[.slice Ay z.f0.length cy, .bool z.f1] 29);
        have HP := Aside0.mk (HP.out.at hb.out hal); have HO := Aside0.mk (HO.out.at hb.out hal); have HM := Aside0.mk (HM.out.at hb.out hal); have HX := Aside0.mk (HX.out.at hb.out hal); have HC := Aside0.mk ((HC.out.later hb.out).later hal); have HM2 := Aside0.mk (hm.out.later hal); have HY := Aside0.mk (hx.out.later hal); have HC2 := Aside0.mk (Cel.make w8 Ay z.f0.length cy z.f1); have HW := Aside0.mk (below_step (below_step HW.out hb.out) hal); clear hb hm hx hal)
    | (go_at_call 14; (with_reducible refine (k_one hone HL1.out HL2.out).mono ?_); rintro e w10 ⟨rfl, hb⟩; have HP := Aside0.mk (HP.out.later hb.out); have HO := Aside0.mk (HO.out.later hb.out); have HW := Aside0.mk (below_step HW.out hb.out); clear hb)
    | (go_at_call 14; (with_reducible refine (k_same hsT HM.out HM2.out).mono ?_); rintro e w9 ⟨rfl, hb⟩;
        have HP := Aside0.mk (HP.out.later hb.out); have HO := Aside0.mk (HO.out.later hb.out); have HX := Aside0.mk (HX.out.later hb.out); have HY := Aside0.mk (HY.out.later hb.out); have HC := Aside0.mk (HC.out.later hb.out); have HC2 := Aside0.mk (HC2.out.later hb.out); have hg0 := HC.out.1; have hg1 := HC.out.2.1; have hk0 := HC2.out.1; have hk1 := HC2.out.2.1; have HW := Aside0.mk (below_step HW.out hb.out); clear hb;
        have hal := below_alloc (Below.refl w9.heap.size w9) (.cells #[.slice Ax z.f0.length cx, .bool z.f1] 29);
        have HC4 := HC2.out.later hal; have hl0 := HC4.1; have hl1 := HC4.2.1;
        have hsz : (w9.alloc (.cells #[.slice Ax z.f0.length cx, .bool z.f1] 29)).heap.size = w9.heap.size + 1 := Array.size_push ..;
        have hal2 := below_alloc (Below.refl _ (w9.alloc (.cells #[.slice Ax z.f0.length cx, .bool z.f1] 29))) (.cells #[.slice Ay z.f0.length cy, .bool z.f1] 29);
        have HL1 := Aside0.mk ((one_pk w9 Ax z cx HX.out).later hal2); have HL2 := Aside0.mk (one_pk _ Ay z cy (HY.out.later hal)); rw [hsz] at HL2; have HP := Aside0.mk ((HP.out.later hal).later hal2); have HO := Aside0.mk ((HO.out.later hal).later hal2); have HW := Aside0.mk (below_step (below_step HW.out hal) hal2); clear hal hal2 hsz HC4)
    | (go_at_call 16; (with_reducible refine (k_twice hs hW HP.out).mono ?_); rintro e w11 ⟨Aw11, cw11, rfl, hq, hb⟩; have HP := Aside0.mk (HP.out.later hb.out); have HO := Aside0.mk (HO.out.later hb.out); have HQ1 := hq; clear hq; have HW := Aside0.mk (below_step HW.out hb.out); clear hb)
    | (go_at_call 20; (with_reducible refine (r_twice rW HP.out).mono ?_); rintro e w12 ⟨Aw12, cw12, rfl, hq, hb⟩; have HP := Aside0.mk (HP.out.later hb.out); have HO := Aside0.mk (HO.out.later hb.out); have HQ1 := Aside0.mk (HQ1.out.later hb.out); have HQ2 := hq; clear hq; have HW := Aside0.mk (below_step HW.out hb.out); clear hb)
    | (go_at_call 21; (with_reducible refine (k_mark hs hK HP.out).mono ?_); rintro e w14 ⟨Aw14, cw14, rfl, hq, hb⟩; have HP := Aside0.mk (HP.out.later hb.out); have HO := Aside0.mk (HO.out.later hb.out); have HQ1 := hq; clear hq; have HW := Aside0.mk (below_step HW.out hb.out); clear hb)
    | (go_at_call 22; (with_reducible refine (r_mark rK HP.out).mono ?_); rintro e w15 ⟨Aw15, cw15, rfl, hq, hb⟩; have HP := Aside0.mk (HP.out.later hb.out); have HO := Aside0.mk (HO.out.later hb.out); have HQ1 := Aside0.mk (HQ1.out.later hb.out); have HQ2 := hq; clear hq; have HW := Aside0.mk (below_step HW.out hb.out); clear hb)
    | (go_at_call 23; (with_reducible refine (k_spoil hs hS HP.out).mono ?_); rintro e w17 ⟨Aw17, cw17, rfl, hq, hb⟩; have HP := Aside0.mk (HP.out.later hb.out); have HO := Aside0.mk (HO.out.later hb.out); have HQ1 := hq; clear hq; have HW := Aside0.mk (below_step HW.out hb.out); clear hb)
    | (go_at_call 24; (with_reducible refine (r_spoil rS HP.out).mono ?_); rintro e w18 ⟨Aw18, cw18, rfl, hq, hb⟩; have HP := Aside0.mk (HP.out.later hb.out); have HO := Aside0.mk (HO.out.later hb.out); have HQ1 := Aside0.mk (HQ1.out.later hb.out); have HQ2 := hq; clear hq; have HW := Aside0.mk (below_step HW.out hb.out); clear hb)
    | (go_at_call 14; (with_reducible refine (k_same hsP HQ1.out HQ2.out).mono ?_); rintro e w6 ⟨rfl, hb⟩; have HP := Aside0.mk (HP.out.later hb.out); have HO := Aside0.mk (HO.out.later hb.out); have HW := Aside0.mk (below_step HW.out hb.out); clear hb)
    | (go_at_call 14; (with_reducible refine (k_same hsW HQ1.out HQ2.out).mono ?_); rintro e w13 ⟨rfl, hb⟩; have HP := Aside0.mk (HP.out.later hb.out); have HO := Aside0.mk (HO.out.later hb.out); have HW := Aside0.mk (below_step HW.out hb.out); clear hb)
    | (go_at_call 14; (with_reducible refine (k_same hsK HQ1.out HQ2.out).mono ?_); rintro e w16 ⟨rfl, hb⟩; have HP := Aside0.mk (HP.out.later hb.out); have HO := Aside0.mk (HO.out.later hb.out); have HW := Aside0.mk (below_step HW.out hb.out); clear hb)
    | (go_at_call 14; (with_reducible refine (k_same hsS HQ1.out HQ2.out).mono ?_); rintro e w19 ⟨rfl, hb⟩; have HP := Aside0.mk (HP.out.later hb.out); have HO := Aside0.mk (HO.out.later hb.out); have HW := Aside0.mk (below_step HW.out hb.out); clear hb)
    | (go_at_call 14; (with_reducible refine (k_same hsO HP.out HO.out).mono ?_); rintro e w20 ⟨rfl, hb⟩; have HP := Aside0.mk (HP.out.later hb.out); have HW := Aside0.mk (below_step HW.out hb.out); clear hb)
    | (go_at_call 11; (with_reducible refine (k_may hM HP.out).mono ?_); rintro e w21 ⟨rfl, hb⟩; have HP := Aside0.mk (HP.out.later hb.out); have HW := Aside0.mk (below_step HW.out hb.out); clear hb)
    | (go_at_call 25; (with_reducible refine (r_may rM HP.out).mono ?_); rintro e w22 ⟨rfl, hb⟩; have HW := Aside0.mk (below_step HW.out hb.out); clear hb))
  go_ret
  exact ⟨rfl, HW.out⟩
end Go.Proofs.Ytnfgcjeenjomgaa.Given
