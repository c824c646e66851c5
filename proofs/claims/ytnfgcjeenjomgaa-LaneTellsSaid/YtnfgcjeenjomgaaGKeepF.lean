/- The walk of LaneKeeps: put twice. -/
import Derived.Test.YtnfgcjeenjomgaaGKeepE
namespace Go.Proofs.Ytnfgcjeenjomgaa.Given
open Go.RowKit Go.Proofs.YtnfgcjeenjomgaaW.PrintWords Go.Proofs.YtnfgcjeenjomgaaW.PrintLast Go.Proofs.YtnfgcjeenjomgaaW.PrintMore Go.Proofs.Ytnfgcjeenjomgaa.S
set_option linter.unusedVariables false
set_option linter.unusedSimpArgs false
set_option maxHeartbeats 4000000 in
set_option maxRecDepth 100000 in
theorem keeps_ft (k : Nat) (A0 : Addr) (c0 : Nat) (l t : List S29) (y : S29) (n : Nat) (A1 : Option Addr) (c1 : Nat) (b : List Int) (w : World) (h0 : Pk w (some A0) c0 l) (h1 : By w A1 c1 b) (hs : small l) (hfew : fourinhandlaw22_few.f k l = some true) (hB : decide ((2100 : Int) < (b.length : Int)) = false) (hM : mayB l = true)
    (hsame : fourinhandref22_Same.f k l l = some true) (hP : pushB l b false = (l, false)) (hn : n < l.length) (hy : rd_T29 l (n : Int) = y) (hT : twiceB l (n : Int) = (t, true)) (hst : small t) (hMt : mayB t = true) (hTt : takeB t (l.length : Int) = (l, y.f0, y.f1, true)) (hone : fourinhandref22_Same.f k [y] [y] = some true) :
    Calls Try.prog 3 #[.slice (some A0) l.length c0, .slice A1 b.length c1, .int .i64 (n : Int)] w fun e w' => e = .returned (.bool true) ∧ Below w.heap.size w w' := by
  have hB' : decide ((b.length : Int) > (2100 : Int)) = false := hB
  have HP := Aside0.mk h0
  have HB := Aside0.mk h1
  clear h0 h1
  have hrun := fun (W : World) (A : Option Addr) (q c : Nat) (m : Bool) => one_run W A q c m
  have hn1 : decide ((n : Int) < 0) = false := decide_eq_false (by omega)
  have hn2 : decide ((n : Int) ≥ (l.length : Int)) = false := decide_eq_false (by omega)
  have hn3 : decide ((l.length : Int) ≤ (n : Int)) = false := hn2
  have hn4 : (0 : Int) ≤ (n : Int) := by omega
  have hn5 : (n : Int) < (l.length : Int) := by omega
  go_enter Try.func3, Try.ntmps3
  go_wp2_with (first
    | (go_at_call 13; (with_reducible refine (k_take hst hTt HT.out).mono ?_); rintro e w12 ⟨Am2, Ax2, cm2, cx2, rfl, hm, hx, hb⟩;
        have hal := below_alloc (Below.refl w12.heap.size w12) (.cells #[.slice Ax2 y.f0.length cx2, .bool y.f1] 29);
        have HP := Aside0.mk (HP.out.at hb.out hal); have HT := Aside0.mk (HT.out.at hb.out hal); have HM2 := Aside0.mk (hm.out.later hal); have HX2 := Aside0.mk (hx.out.later hal); have HC2 := Aside0.mk (Cel.make w12 Ax2 y.f0.length cx2 y.f1); have HW := Aside0.mk (below_step (below_step HW.out hb.out) hal); clear hb hm hx hal;
        obtain ⟨Ay, cy, hy0, hy1, hY⟩ := at_pk HP.out n hn; rw [hy] at hy0 hy1 hY;
        have hsz : (w12.alloc (.cells #[.slice Ax2 y.f0.length cx2, .bool y.f1] 29)).heap.size = w12.heap.size + 1 := Array.size_push ..;
        have hal := below_alloc (Below.refl _ (w12.alloc (.cells #[.slice Ax2 y.f0.length cx2, .bool y.f1] 29))) (.cells #[.slice Ay y.f0.length cy, .bool y.f1] 29);
        have HC3 := Aside0.mk (Cel.make (w12.alloc (.cells #[.slice Ax2 y.f0.length cx2, .bool y.f1] 29)) Ay y.f0.length cy y.f1);
        have HP := Aside0.mk (HP.out.later hal); have HT := Aside0.mk (HT.out.later hal); have HM2 := Aside0.mk (HM2.out.later hal); have HX2 := Aside0.mk (HX2.out.later hal); have HY := Aside0.mk (hY.later hal); have HC2 := Aside0.mk (HC2.out.later hal); have HW := Aside0.mk (below_step HW.out hal); rw [hsz] at HC3; clear hal hY hsz)
    | (go_at_call 14; (with_reducible refine (k_one hone HL1.out HL2.out).mono ?_); rintro e w14 ⟨rfl, hb⟩; have HT := Aside0.mk (HT.out.later hb.out); have HW := Aside0.mk (below_step HW.out hb.out); clear hb)
    | (go_at_call 14; (with_reducible refine (k_same hsame HM2.out HP.out).mono ?_); rintro e w13 ⟨rfl, hb⟩;
        have HC2 := Aside0.mk (HC2.out.later hb.out); have HC3 := Aside0.mk (HC3.out.later hb.out); have hg0 := HC2.out.1; have hg1 := HC2.out.2.1; have hk0 := HC3.out.1; have hk1 := HC3.out.2.1; have HX2 := Aside0.mk (HX2.out.later hb.out); have HY := Aside0.mk (HY.out.later hb.out); have HT := Aside0.mk (HT.out.later hb.out); have HW := Aside0.mk (below_step HW.out hb.out); clear hb;
        have hal := below_alloc (Below.refl w13.heap.size w13) (.cells #[.slice Ax2 y.f0.length cx2, .bool y.f1] 29);
        have HC4 := HC3.out.later hal; have hl0 := HC4.1; have hl1 := HC4.2.1;
        have hsz : (w13.alloc (.cells #[.slice Ax2 y.f0.length cx2, .bool y.f1] 29)).heap.size = w13.heap.size + 1 := Array.size_push ..;
        have hal2 := below_alloc (Below.refl _ (w13.alloc (.cells #[.slice Ax2 y.f0.length cx2, .bool y.f1] 29))) (.cells #[.slice Ay y.f0.length cy, .bool y.f1] 29);
        have HL1 := Aside0.mk ((one_pk w13 Ax2 y cx2 HX2.out).later hal2); have HL2 := Aside0.mk (one_pk _ Ay y cy (HY.out.later hal)); rw [hsz] at HL2; have HT := Aside0.mk ((HT.out.later hal).later hal2); have HW := Aside0.mk (below_step (below_step HW.out hal) hal2); clear hal hal2 hsz HC4)
    | (go_at_call 11; (with_reducible refine (k_may hMt HT.out).mono ?_); rintro e w15 ⟨rfl, hb⟩; have HW := Aside0.mk (below_step HW.out hb.out); clear hb)
    | (go_at_call 9; (with_reducible refine (k_awake _).mono ?_); rintro e w1 ⟨rfl, hb⟩; have HP := Aside0.mk (HP.out.later hb.out); have HB := Aside0.mk (HB.out.later hb.out); have HW := hb; clear hb)
    | (go_at_call 10; (with_reducible refine (k_few hfew HP.out).mono ?_); rintro e w2 ⟨rfl, hb⟩; have HP := Aside0.mk (HP.out.later hb.out); have HB := Aside0.mk (HB.out.later hb.out); have HW := Aside0.mk (below_step HW.out hb.out); clear hb)
    | (go_at_call 11; (with_reducible refine (k_may hM HP.out).mono ?_); rintro e w3 ⟨rfl, hb⟩; have HP := Aside0.mk (HP.out.later hb.out); have HB := Aside0.mk (HB.out.later hb.out); have HW := Aside0.mk (below_step HW.out hb.out); clear hb)
    | (go_at_call 12; (with_reducible refine (k_push hs hP HP.out HB.out).mono ?_); rintro e w4 ⟨Ap, cp, rfl, hq, hb⟩; have HP := Aside0.mk (HP.out.later hb.out); have HW := Aside0.mk (below_step HW.out hb.out); clear hb)
    | (go_at_call 16; (with_reducible refine (k_twice hs hT HP.out).mono ?_); rintro e w5 ⟨At, ct, rfl, hq, hb⟩; have HP := Aside0.mk (HP.out.later hb.out); have HT := hq; have HW := Aside0.mk (below_step HW.out hb.out); clear hb hq)
    | (go_at_call 14; (with_reducible refine (k_same hsame HQ.out HP.out).mono ?_); rintro e w6 ⟨rfl, hb⟩; have HW := Aside0.mk (below_step HW.out hb.out); clear hb))
  go_ret
  exact ⟨rfl, HW.out⟩
end Go.Proofs.Ytnfgcjeenjomgaa.Given
