/- The walk of LaneKeeps: what is pushed is the last one. -/
import Derived.Test.YtnfgcjeenjomgaaGKeepC
namespace Go.Proofs.Ytnfgcjeenjomgaa.Given
open Go.RowKit Go.Proofs.YtnfgcjeenjomgaaW.PrintWords Go.Proofs.YtnfgcjeenjomgaaW.PrintLast Go.Proofs.YtnfgcjeenjomgaaW.PrintMore Go.Proofs.Ytnfgcjeenjomgaa.S
set_option linter.unusedVariables false
set_option linter.unusedSimpArgs false
set_option maxHeartbeats 4000000 in
set_option maxRecDepth 100000 in
theorem keeps_tf (k : Nat) (A0 : Option Addr) (c0 : Nat) (l p : List S29) (A1 : Option Addr) (c1 : Nat) (b : List Int) (i : Int) (w : World) (h0 : Pk w A0 c0 l) (h1 : By w A1 c1 b) (hs : small l) (hfew : fourinhandlaw22_few.f k l = some true) (hB : decide ((2100 : Int) < (b.length : Int)) = false) (hM : mayB l = true)
    (hsame : fourinhandref22_Same.f k l l = some true) (hbyte : fourinhandref03_Same.f k b b = some true) (hP : pushB l b false = (p, true)) (hsp : small p) (hMp : mayB p = true) (hTp : takeB p (l.length : Int) = (l, b, false, true)) (hT : twiceB l i = (l, false)) :
    Calls Try.prog 3 #[.slice A0 l.length c0, .slice A1 b.length c1, .int .i64 i] w fun e w' => e = .returned (.bool true) ∧ Below w.heap.size w w' := by
  have hB' : decide ((b.length : Int) > (2100 : Int)) = false := hB
  have HP := Aside0.mk h0
  have HB := Aside0.mk h1
  clear h0 h1
  go_enter Try.func3, Try.ntmps3
  go_wp2_with (first
    | (go_at_call 9; (with_reducible refine (k_awake _).mono ?_); rintro e w1 ⟨rfl, hb⟩; have HP := Aside0.mk (HP.out.later hb.out); have HB := Aside0.mk (HB.out.later hb.out); have HW := hb; clear hb)
    | (go_at_call 10; (with_reducible refine (k_few hfew HP.out).mono ?_); rintro e w2 ⟨rfl, hb⟩; have HP := Aside0.mk (HP.out.later hb.out); have HB := Aside0.mk (HB.out.later hb.out); have HW := Aside0.mk (below_step HW.out hb.out); clear hb)
    | (go_at_call 11; (with_reducible refine (k_may hMp HQ.out).mono ?_); rintro e w9 ⟨rfl, hb⟩; have HP := Aside0.mk (HP.out.later hb.out); have HW := Aside0.mk (below_step HW.out hb.out); clear hb)
    | (go_at_call 11; (with_reducible refine (k_may hM HP.out).mono ?_); rintro e w3 ⟨rfl, hb⟩; have HP := Aside0.mk (HP.out.later hb.out); have HB := Aside0.mk (HB.out.later hb.out); have HW := Aside0.mk (below_step HW.out hb.out); clear hb)
    | (go_at_call 12; (with_reducible refine (k_push hs hP HP.out HB.out).mono ?_); rintro e w4 ⟨Ap, cp, rfl, hq, hb⟩; have HP := Aside0.mk (HP.out.later hb.out); have HB := Aside0.mk (HB.out.later hb.out); have HQ := hq; have HW := Aside0.mk (below_step HW.out hb.out); clear hb hq)
    | (go_at_call 13; (with_reducible refine (k_take hsp hTp HQ.out).mono ?_); rintro e w5 ⟨Am, Ax, cm, cx, rfl, hm, hx, hb⟩;
        have hal := below_alloc (Below.refl w5.heap.size w5) (.cells #[.slice Ax b.length cx, .bool false] 29);
        have HP := Aside0.mk (HP.out.at hb.out hal); have HB := Aside0.mk (HB.out.at hb.out hal); have HQ := Aside0.mk (HQ.out.at hb.out hal); have HM := Aside0.mk (hm.out.later hal); have HX := Aside0.mk (hx.out.later hal); have HC := Aside0.mk (Cel.make w5 Ax b.length cx false); have hc0 := HC.out.1; have hc1 := HC.out.2.1; have HW := Aside0.mk (below_step (below_step HW.out hb.out) hal); clear hb hm hx hal)
    | (go_at_call 15; (with_reducible refine (k_bytes hbyte HX.out HB.out).mono ?_); rintro e w7 ⟨rfl, hb⟩; have HP := Aside0.mk (HP.out.later hb.out); have HQ := Aside0.mk (HQ.out.later hb.out); have HW := Aside0.mk (below_step HW.out hb.out); have HC := Aside0.mk (HC.out.later hb.out); have hc0 := HC.out.1; have hc1 := HC.out.2.1; clear hb)
    | (go_at_call 16; (with_reducible refine (k_twice hs hT HP.out).mono ?_); rintro e w10 ⟨At, ct, rfl, hq, hb⟩; have HP := Aside0.mk (HP.out.later hb.out); have HT := hq; have HW := Aside0.mk (below_step HW.out hb.out); clear hb hq)
    | (go_at_call 14; (with_reducible refine (k_same hsame HT.out HP.out).mono ?_); rintro e w11 ⟨rfl, hb⟩; have HW := Aside0.mk (below_step HW.out hb.out); clear hb)
    | (go_at_call 14; (with_reducible refine (k_same hsame HM.out HP.out).mono ?_); rintro e w6 ⟨rfl, hb⟩; have HP := Aside0.mk (HP.out.later hb.out); have HB := Aside0.mk (HB.out.later hb.out); have HQ := Aside0.mk (HQ.out.later hb.out); have HX := Aside0.mk (HX.out.later hb.out); have HC := Aside0.mk (HC.out.later hb.out); have hc0 := HC.out.1; have hc1 := HC.out.2.1; have HW := Aside0.mk (below_step HW.out hb.out); clear hb))
  go_ret
  exact ⟨rfl, HW.out⟩
end Go.Proofs.Ytnfgcjeenjomgaa.Given
