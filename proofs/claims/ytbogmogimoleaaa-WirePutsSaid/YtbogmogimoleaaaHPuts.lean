/- The walk of WirePuts. -/
import Derived.Test.YtbogmogimoleaaaHLawB
namespace Go.Proofs.Ytbogmogimoleaaa.Given
open Go.RowKit Go.Proofs.YtbogmogimoleaaaW.PrintWords Go.Proofs.YtbogmogimoleaaaW.PrintLast Go.Proofs.YtbogmogimoleaaaW.PrintMore Go.Proofs.Ytbogmogimoleaaa.W Go.Proofs.Ytbogmogimoleaaa.Plain7
set_option linter.unusedVariables false
set_option linter.unusedSimpArgs false
set_option maxHeartbeats 8000000 in
set_option maxRecDepth 100000 in
theorem puts_out (a0 : Int) (a1 : Int) (a2 : Bool) (a3 : Bool) (a4 : Int) (a5 : Int) (a6 : Int) (a7 : Int) (a8 : Int) (a9 : Int) (a10 : Int) (a11 : Int) (a12 : Int) (a13 : List S58) (a14 : List Int) (A13 : Option Addr) (c13 : Nat) (A14 : Option Addr) (c14 : Nat) (w : World) (h13 : Sk w A13 c13 a13) (h14 : By w A14 c14 a14) (hL : lightB ⟨a0, a1, a2, a3, a4, a5, a6, a7, a8, a9, a10, a11, a12, a13, a14⟩ = false) :
    Calls Try.prog 9 #[.agg #[.int .i64 a0, .int .i64 a1, .bool a2, .bool a3, .int .u32 a4, .int .u32 a5, .int .u32 a6, .int .u32 a7, .int .i64 a8, .int .i64 a9, .int .u32 a10, .int .u32 a11, .int .u32 a12, .slice A13 a13.length c13, .slice A14 a14.length c14]] w fun e w' => e = .returned (.bool true) ∧ Below w.heap.size w w' := by
  have HL := Aside0.mk hL
  clear hL
  have hal : Below w.heap.size w (w.alloc (.cells #[.int .i64 a0, .int .i64 a1, .bool a2, .bool a3, .int .u32 a4, .int .u32 a5, .int .u32 a6, .int .u32 a7, .int .i64 a8, .int .i64 a9, .int .u32 a10, .int .u32 a11, .int .u32 a12, .slice A13 a13.length c13, .slice A14 a14.length c14] 41)) := below_alloc (Below.refl _ _) _
  have HS := Aside0.mk (h13.later hal)
  have HY := Aside0.mk (h14.later hal)
  have HR := Aside0.mk (show Rec (w.alloc (.cells #[.int .i64 a0, .int .i64 a1, .bool a2, .bool a3, .int .u32 a4, .int .u32 a5, .int .u32 a6, .int .u32 a7, .int .i64 a8, .int .i64 a9, .int .u32 a10, .int .u32 a11, .int .u32 a12, .slice A13 a13.length c13, .slice A14 a14.length c14] 41)) w.heap.size #[.int .i64 a0, .int .i64 a1, .bool a2, .bool a3, .int .u32 a4, .int .u32 a5, .int .u32 a6, .int .u32 a7, .int .i64 a8, .int .i64 a9, .int .u32 a10, .int .u32 a11, .int .u32 a12, .slice A13 a13.length c13, .slice A14 a14.length c14] from blk_new w _)
  have HW := Aside0.mk hal
  clear h13 h14 hal
  go_enter Try.func9, Try.ntmps9
  go_wp2_with (first
    | (go_at_call 24; (with_reducible refine (k_awake _).mono ?_); rintro e w1 ⟨rfl, hb⟩; have HS := Aside0.mk (HS.out.later hb.out); have HY := Aside0.mk (HY.out.later hb.out); have HR := Aside0.mk (show Rec w1 w.heap.size #[.int .i64 a0, .int .i64 a1, .bool a2, .bool a3, .int .u32 a4, .int .u32 a5, .int .u32 a6, .int .u32 a7, .int .i64 a8, .int .i64 a9, .int .u32 a10, .int .u32 a11, .int .u32 a12, .slice A13 a13.length c13, .slice A14 a14.length c14] from blk_below HR.out hb.out); have HW := Aside0.mk (HW.out.trans (hb.out.mono HW.out.size)); clear hb; obtain ⟨z0, z1, z2, z3, z4, z5, z6, z7, z8, z9, z10, z11, z12, z13, z14⟩ := HR.out.all)
    | (go_at_call 25; (with_reducible refine (k_light' HL.out HS.out HY.out).mono ?_); rintro e w2 ⟨rfl, hb⟩; have HS := Aside0.mk (HS.out.later hb.out); have HY := Aside0.mk (HY.out.later hb.out); have HR := Aside0.mk (show Rec w2 w.heap.size #[.int .i64 a0, .int .i64 a1, .bool a2, .bool a3, .int .u32 a4, .int .u32 a5, .int .u32 a6, .int .u32 a7, .int .i64 a8, .int .i64 a9, .int .u32 a10, .int .u32 a11, .int .u32 a12, .slice A13 a13.length c13, .slice A14 a14.length c14] from blk_below HR.out hb.out); have HW := Aside0.mk (HW.out.trans (hb.out.mono HW.out.size)); clear hb; clear z0 z1 z2 z3 z4 z5 z6 z7 z8 z9 z10 z11 z12 z13 z14; obtain ⟨z0, z1, z2, z3, z4, z5, z6, z7, z8, z9, z10, z11, z12, z13, z14⟩ := HR.out.all))
  go_ret
  exact ⟨rfl, HW.out⟩
set_option maxHeartbeats 8000000 in
set_option maxRecDepth 100000 in
theorem puts_in (a0 : Int) (a1 : Int) (a2 : Bool) (a3 : Bool) (a4 : Int) (a5 : Int) (a6 : Int) (a7 : Int) (a8 : Int) (a9 : Int) (a10 : Int) (a11 : Int) (a12 : Int) (a13 : List S58) (a14 : List Int) (A13 : Option Addr) (c13 : Nat) (A14 : Option Addr) (c14 : Nat) (w : World) (h13 : Sk w A13 c13 a13) (h14 : By w A14 c14 a14) (ho : okS ⟨a0, a1, a2, a3, a4, a5, a6, a7, a8, a9, a10, a11, a12, a13, a14⟩) (hL : lightB ⟨a0, a1, a2, a3, a4, a5, a6, a7, a8, a9, a10, a11, a12, a13, a14⟩ = true) :
    Calls Try.prog 9 #[.agg #[.int .i64 a0, .int .i64 a1, .bool a2, .bool a3, .int .u32 a4, .int .u32 a5, .int .u32 a6, .int .u32 a7, .int .i64 a8, .int .i64 a9, .int .u32 a10, .int .u32 a11, .int .u32 a12, .slice A13 a13.length c13, .slice A14 a14.length c14]] w fun e w' => e = .returned (.bool true) ∧ Below w.heap.size w w' := by
  obtain ⟨⟨out, err⟩, hp⟩ : ∃ p, putB ⟨a0, a1, a2, a3, a4, a5, a6, a7, a8, a9, a10, a11, a12, a13, a14⟩ = p := ⟨_, rfl⟩
  obtain ⟨M, hM⟩ : ∃ M, mayB ⟨a0, a1, a2, a3, a4, a5, a6, a7, a8, a9, a10, a11, a12, a13, a14⟩ = M := ⟨_, rfl⟩
  have HN := Aside0.mk (show out.length ≤ 1000000 by have := put_len hp hL; omega)
  have HL := Aside0.mk hL
  have HP := Aside0.mk hp
  have HM := Aside0.mk hM
  have HO := Aside0.mk ho
  clear hL hp hM ho
  have hal : Below w.heap.size w (w.alloc (.cells #[.int .i64 a0, .int .i64 a1, .bool a2, .bool a3, .int .u32 a4, .int .u32 a5, .int .u32 a6, .int .u32 a7, .int .i64 a8, .int .i64 a9, .int .u32 a10, .int .u32 a11, .int .u32 a12, .slice A13 a13.length c13, .slice A14 a14.length c14] 41)) := below_alloc (Below.refl _ _) _
  have HS := Aside0.mk (h13.later hal)
  have HY := Aside0.mk (h14.later hal)
  have HR := Aside0.mk (show Rec (w.alloc (.cells #[.int .i64 a0, .int .i64 a1, .bool a2, .bool a3, .int .u32 a4, .int .u32 a5, .int .u32 a6, .int .u32 a7, .int .i64 a8, .int .i64 a9, .int .u32 a10, .int .u32 a11, .int .u32 a12, .slice A13 a13.length c13, .slice A14 a14.length c14] 41)) w.heap.size #[.int .i64 a0, .int .i64 a1, .bool a2, .bool a3, .int .u32 a4, .int .u32 a5, .int .u32 a6, .int .u32 a7, .int .i64 a8, .int .i64 a9, .int .u32 a10, .int .u32 a11, .int .u32 a12, .slice A13 a13.length c13, .slice A14 a14.length c14] from blk_new w _)
  have HW := Aside0.mk hal
  clear h13 h14 hal
  go_enter Try.func9, Try.ntmps9
  go_wp2_with (first
    | (go_at_call 24; (with_reducible refine (k_awake _).mono ?_); rintro e w1 ⟨rfl, hb⟩; have HS := Aside0.mk (HS.out.later hb.out); have HY := Aside0.mk (HY.out.later hb.out); have HR := Aside0.mk (show Rec w1 w.heap.size #[.int .i64 a0, .int .i64 a1, .bool a2, .bool a3, .int .u32 a4, .int .u32 a5, .int .u32 a6, .int .u32 a7, .int .i64 a8, .int .i64 a9, .int .u32 a10, .int .u32 a11, .int .u32 a12, .slice A13 a13.length c13, .slice A14 a14.length c14] from blk_below HR.out hb.out); have HW := Aside0.mk (HW.out.trans (hb.out.mono HW.out.size)); clear hb; obtain ⟨z0, z1, z2, z3, z4, z5, z6, z7, z8, z9, z10, z11, z12, z13, z14⟩ := HR.out.all)
    | (go_at_call 25; (with_reducible refine (k_light' HL.out HS.out HY.out).mono ?_); rintro e w2 ⟨rfl, hb⟩; have HS := Aside0.mk (HS.out.later hb.out); have HY := Aside0.mk (HY.out.later hb.out); have HR := Aside0.mk (show Rec w2 w.heap.size #[.int .i64 a0, .int .i64 a1, .bool a2, .bool a3, .int .u32 a4, .int .u32 a5, .int .u32 a6, .int .u32 a7, .int .i64 a8, .int .i64 a9, .int .u32 a10, .int .u32 a11, .int .u32 a12, .slice A13 a13.length c13, .slice A14 a14.length c14] from blk_below HR.out hb.out); have HW := Aside0.mk (HW.out.trans (hb.out.mono HW.out.size)); clear hb; clear z0 z1 z2 z3 z4 z5 z6 z7 z8 z9 z10 z11 z12 z13 z14; obtain ⟨z0, z1, z2, z3, z4, z5, z6, z7, z8, z9, z10, z11, z12, z13, z14⟩ := HR.out.all)
    | (go_at_call 26; (with_reducible refine (k_sput HP.out HO.out HS.out HY.out).mono ?_); rintro e w3 ⟨A3, c3, rfl, hq, hb⟩; have HQ := hq; clear hq; have HS := Aside0.mk (HS.out.later hb.out); have HY := Aside0.mk (HY.out.later hb.out); have HR := Aside0.mk (show Rec w3 w.heap.size #[.int .i64 a0, .int .i64 a1, .bool a2, .bool a3, .int .u32 a4, .int .u32 a5, .int .u32 a6, .int .u32 a7, .int .i64 a8, .int .i64 a9, .int .u32 a10, .int .u32 a11, .int .u32 a12, .slice A13 a13.length c13, .slice A14 a14.length c14] from blk_below HR.out hb.out); have HW := Aside0.mk (HW.out.trans (hb.out.mono HW.out.size)); clear hb; clear z0 z1 z2 z3 z4 z5 z6 z7 z8 z9 z10 z11 z12 z13 z14; obtain ⟨z0, z1, z2, z3, z4, z5, z6, z7, z8, z9, z10, z11, z12, z13, z14⟩ := HR.out.all)
    | (go_at_call 27; (with_reducible refine (k_rput HP.out HO.out HS.out HY.out).mono ?_); rintro e w4 ⟨A4, c4, rfl, hq, hb⟩; have HQ2 := hq; clear hq; have HS := Aside0.mk (HS.out.later hb.out); have HY := Aside0.mk (HY.out.later hb.out); have HQ := Aside0.mk (HQ.out.later hb.out); have HR := Aside0.mk (show Rec w4 w.heap.size #[.int .i64 a0, .int .i64 a1, .bool a2, .bool a3, .int .u32 a4, .int .u32 a5, .int .u32 a6, .int .u32 a7, .int .i64 a8, .int .i64 a9, .int .u32 a10, .int .u32 a11, .int .u32 a12, .slice A13 a13.length c13, .slice A14 a14.length c14] from blk_below HR.out hb.out); have HW := Aside0.mk (HW.out.trans (hb.out.mono HW.out.size)); clear hb; clear z0 z1 z2 z3 z4 z5 z6 z7 z8 z9 z10 z11 z12 z13 z14; obtain ⟨z0, z1, z2, z3, z4, z5, z6, z7, z8, z9, z10, z11, z12, z13, z14⟩ := HR.out.all)
    | (go_at_call 18; (with_reducible refine (k_self HN.out HQ.out HQ2.out).mono ?_); rintro e w5 ⟨rfl, hb⟩; have HS := Aside0.mk (HS.out.later hb.out); have HY := Aside0.mk (HY.out.later hb.out); have HR := Aside0.mk (show Rec w5 w.heap.size #[.int .i64 a0, .int .i64 a1, .bool a2, .bool a3, .int .u32 a4, .int .u32 a5, .int .u32 a6, .int .u32 a7, .int .i64 a8, .int .i64 a9, .int .u32 a10, .int .u32 a11, .int .u32 a12, .slice A13 a13.length c13, .slice A14 a14.length c14] from blk_below HR.out hb.out); have HW := Aside0.mk (HW.out.trans (hb.out.mono HW.out.size)); clear hb; clear z0 z1 z2 z3 z4 z5 z6 z7 z8 z9 z10 z11 z12 z13 z14; obtain ⟨z0, z1, z2, z3, z4, z5, z6, z7, z8, z9, z10, z11, z12, z13, z14⟩ := HR.out.all))
  have hdr : Below w5.heap.size w5 w5.drew := below_drew (Below.refl _ _)
  have HS := Aside0.mk (HS.out.later hdr)
  have HY := Aside0.mk (HY.out.later hdr)
  have HR := Aside0.mk (show Rec w5.drew w.heap.size #[.int .i64 a0, .int .i64 a1, .bool a2, .bool a3, .int .u32 a4, .int .u32 a5, .int .u32 a6, .int .u32 a7, .int .i64 a8, .int .i64 a9, .int .u32 a10, .int .u32 a11, .int .u32 a12, .slice A13 a13.length c13, .slice A14 a14.length c14] from blk_drew HR.out)
  have HW := Aside0.mk (HW.out.trans (hdr.mono HW.out.size))
  clear hdr
  go_region_with (first
    | (go_at_call 28; (with_reducible refine (k_may' HM.out HS.out HY.out).mono ?_); rintro e w6 ⟨rfl, hb⟩; have HS := Aside0.mk (HS.out.later hb.out); have HY := Aside0.mk (HY.out.later hb.out); have HR := Aside0.mk (show Rec w6 w.heap.size #[.int .i64 a0, .int .i64 a1, .bool a2, .bool a3, .int .u32 a4, .int .u32 a5, .int .u32 a6, .int .u32 a7, .int .i64 a8, .int .i64 a9, .int .u32 a10, .int .u32 a11, .int .u32 a12, .slice A13 a13.length c13, .slice A14 a14.length c14] from blk_below HR.out hb.out); have HW := Aside0.mk (HW.out.trans (hb.out.mono HW.out.size)); clear hb; obtain ⟨t0, t1, t2, t3, t4, t5, t6, t7, t8, t9, t10, t11, t12, t13, t14⟩ := HR.out.all)
    | (go_at_call 29; (with_reducible refine (k_rmay' HM.out HS.out HY.out).mono ?_); rintro e w7 ⟨rfl, hb⟩; have HW := Aside0.mk (HW.out.trans (hb.out.mono HW.out.size)); clear hb))
  all_goals
    go_wp2
    go_ret
    exact ⟨by first | (go_simp; done) | (simp [Act.put]; done) | (cases M <;> rfl) | (cases M <;> simp [Act.put, go_sem]; done), HW.out⟩
theorem puts_all (a0 : Int) (a1 : Int) (a2 : Bool) (a3 : Bool) (a4 : Int) (a5 : Int) (a6 : Int) (a7 : Int) (a8 : Int) (a9 : Int) (a10 : Int) (a11 : Int) (a12 : Int) (a13 : List S58) (a14 : List Int) (A13 : Option Addr) (c13 : Nat) (A14 : Option Addr) (c14 : Nat) (w : World) (h13 : Sk w A13 c13 a13) (h14 : By w A14 c14 a14) (ho : okS ⟨a0, a1, a2, a3, a4, a5, a6, a7, a8, a9, a10, a11, a12, a13, a14⟩) :
    Calls Try.prog 9 #[.agg #[.int .i64 a0, .int .i64 a1, .bool a2, .bool a3, .int .u32 a4, .int .u32 a5, .int .u32 a6, .int .u32 a7, .int .i64 a8, .int .i64 a9, .int .u32 a10, .int .u32 a11, .int .u32 a12, .slice A13 a13.length c13, .slice A14 a14.length c14]] w fun e w' => e = .returned (.bool true) ∧ Below w.heap.size w w' := by
  cases hL : lightB ⟨a0, a1, a2, a3, a4, a5, a6, a7, a8, a9, a10, a11, a12, a13, a14⟩
  · exact puts_out _ _ _ _ _ _ _ _ _ _ _ _ _ _ _ A13 c13 A14 c14 w h13 h14 hL
  · exact puts_in _ _ _ _ _ _ _ _ _ _ _ _ _ _ _ A13 c13 A14 c14 w h13 h14 ho hL
end Go.Proofs.Ytbogmogimoleaaa.Given
