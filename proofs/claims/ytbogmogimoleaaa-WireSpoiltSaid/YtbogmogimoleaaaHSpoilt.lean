/- The walk of WireSpoilt. -/
import Derived.Test.YtbogmogimoleaaaHLawB
namespace Go.Proofs.Ytbogmogimoleaaa.Given
open Go.RowKit Go.Proofs.YtbogmogimoleaaaW.PrintWords Go.Proofs.YtbogmogimoleaaaW.PrintLast Go.Proofs.YtbogmogimoleaaaW.PrintMore Go.Proofs.Ytbogmogimoleaaa.W Go.Proofs.Ytbogmogimoleaaa.Plain7
set_option linter.unusedVariables false
set_option linter.unusedSimpArgs false
theorem get_zero {b : List Int} {err : Int} (hg : getB b = (zSg, err)) (hb : Byt b) (hn : b.length ≤ 1000000) (n : Nat) (hl : b.length = n) (W : World) (A : Option Addr) (c : Nat) (h : By W A c b) :
    Calls Try.prog 30 #[.slice A n c] W fun e w' => ∃ A13 c13 A14 c14, e = .returned (.tuple #[.agg #[.int .i64 0, .int .i64 0, .bool false, .bool false, .int .u32 0, .int .u32 0, .int .u32 0, .int .u32 0, .int .i64 0, .int .i64 0, .int .u32 0, .int .u32 0, .int .u32 0, .slice A13 0 c13, .slice A14 0 c14], .int .i64 err]) ∧ Aside0 (Below W.heap.size W w') := by
  subst hl
  refine (k_get hg hb hn h).mono ?_
  rintro e w' ⟨A13, c13, A14, c14, rfl, _, _, h3⟩
  exact ⟨A13, c13, A14, c14, rfl, h3⟩
theorem get_turned (l : List Int) (hb : Byt l) (i : Nat) (y : Int) (h : i < (seald l).length) (hy : 0 ≤ y ∧ y ≤ 255) (hne : y ≠ 0) : getB ((seald l).set i (bits .xor .u8 (rd (seald l) (i : Int)) y)) = (zSg, 8) ∧ Byt ((seald l).set i (bits .xor .u8 (rd (seald l) (i : Int)) y)) := by
  have hbs := seald_byt hb
  rw [rd_get _ i h]
  obtain ⟨x0, x1, x2⟩ := xor_byte (hbs _ (List.getElem_mem h)) hy
  have ho := opnd_turned hb i _ h ⟨x0, x1⟩ (x2 hne)
  refine ⟨?_, byt_set hbs i ⟨x0, x1⟩⟩
  unfold getB
  rw [ho]
  rfl
theorem get_short3 (l : List Int) : getB (l.take 3) = (zSg, 7) := by
  have ho : opnd (l.take 3) = ([], 7) := by
    unfold opnd
    rw [if_pos (by rw [List.length_take]; omega)]
  unfold getB
  rw [ho]
  rfl
set_option maxHeartbeats 8000000 in
set_option maxRecDepth 100000 in
theorem spoilt_o0 (a0 : Int) (a1 : Int) (a2 : Bool) (a3 : Bool) (a4 : Int) (a5 : Int) (a6 : Int) (a7 : Int) (a8 : Int) (a9 : Int) (a10 : Int) (a11 : Int) (a12 : Int) (a13 : List S58) (a14 : List Int) (A13 : Option Addr) (c13 : Nat) (A14 : Option Addr) (c14 : Nat) (x y : Int) (w : World) (h13 : Sk w A13 c13 a13) (h14 : By w A14 c14 a14) (ho : okS ⟨a0, a1, a2, a3, a4, a5, a6, a7, a8, a9, a10, a11, a12, a13, a14⟩) (L : Bool) (hL : lightB ⟨a0, a1, a2, a3, a4, a5, a6, a7, a8, a9, a10, a11, a12, a13, a14⟩ = L) (out : List Int) (err : Int) (hp : putB ⟨a0, a1, a2, a3, a4, a5, a6, a7, a8, a9, a10, a11, a12, a13, a14⟩ = (out, err))
    (hx : L = false) :
    Calls Try.prog 12 #[.agg #[.int .i64 a0, .int .i64 a1, .bool a2, .bool a3, .int .u32 a4, .int .u32 a5, .int .u32 a6, .int .u32 a7, .int .i64 a8, .int .i64 a9, .int .u32 a10, .int .u32 a11, .int .u32 a12, .slice A13 a13.length c13, .slice A14 a14.length c14], .int .i64 x, .int .u8 y] w fun e w' => e = .returned (.bool true) ∧ Below w.heap.size w w' := by
  have HL := Aside0.mk hL
  have HP := Aside0.mk hp
  have HO := Aside0.mk ho
  clear hL hp ho
  have hal : Below w.heap.size w (w.alloc (.cells #[.int .i64 a0, .int .i64 a1, .bool a2, .bool a3, .int .u32 a4, .int .u32 a5, .int .u32 a6, .int .u32 a7, .int .i64 a8, .int .i64 a9, .int .u32 a10, .int .u32 a11, .int .u32 a12, .slice A13 a13.length c13, .slice A14 a14.length c14] 41)) := below_alloc (Below.refl _ _) _
  have HS := Aside0.mk (h13.later hal)
  have HY := Aside0.mk (h14.later hal)
  have HR := Aside0.mk (show Rec (w.alloc (.cells #[.int .i64 a0, .int .i64 a1, .bool a2, .bool a3, .int .u32 a4, .int .u32 a5, .int .u32 a6, .int .u32 a7, .int .i64 a8, .int .i64 a9, .int .u32 a10, .int .u32 a11, .int .u32 a12, .slice A13 a13.length c13, .slice A14 a14.length c14] 41)) w.heap.size #[.int .i64 a0, .int .i64 a1, .bool a2, .bool a3, .int .u32 a4, .int .u32 a5, .int .u32 a6, .int .u32 a7, .int .i64 a8, .int .i64 a9, .int .u32 a10, .int .u32 a11, .int .u32 a12, .slice A13 a13.length c13, .slice A14 a14.length c14] from blk_new w _)
  have HW := Aside0.mk hal
  clear h13 h14 hal
  obtain rfl := hx
  go_enter Try.func12, Try.ntmps12
  go_wp2_with (first
    | (go_at_call 24; (with_reducible refine (k_awake _).mono ?_); rintro e w1 ⟨rfl, hb⟩; have HS := Aside0.mk (HS.out.later hb.out); have HY := Aside0.mk (HY.out.later hb.out); have HR := Aside0.mk (show Rec w1 w.heap.size #[.int .i64 a0, .int .i64 a1, .bool a2, .bool a3, .int .u32 a4, .int .u32 a5, .int .u32 a6, .int .u32 a7, .int .i64 a8, .int .i64 a9, .int .u32 a10, .int .u32 a11, .int .u32 a12, .slice A13 a13.length c13, .slice A14 a14.length c14] from blk_below HR.out hb.out); have HW := Aside0.mk (HW.out.trans (hb.out.mono HW.out.size)); clear hb; obtain ⟨z0, z1, z2, z3, z4, z5, z6, z7, z8, z9, z10, z11, z12, z13, z14⟩ := HR.out.all)
    | (go_at_call 25; (with_reducible refine (k_light' HL.out HS.out HY.out).mono ?_); rintro e w2 ⟨rfl, hb⟩; have HS := Aside0.mk (HS.out.later hb.out); have HY := Aside0.mk (HY.out.later hb.out); have HR := Aside0.mk (show Rec w2 w.heap.size #[.int .i64 a0, .int .i64 a1, .bool a2, .bool a3, .int .u32 a4, .int .u32 a5, .int .u32 a6, .int .u32 a7, .int .i64 a8, .int .i64 a9, .int .u32 a10, .int .u32 a11, .int .u32 a12, .slice A13 a13.length c13, .slice A14 a14.length c14] from blk_below HR.out hb.out); have HW := Aside0.mk (HW.out.trans (hb.out.mono HW.out.size)); clear hb; clear z0 z1 z2 z3 z4 z5 z6 z7 z8 z9 z10 z11 z12 z13 z14; obtain ⟨z0, z1, z2, z3, z4, z5, z6, z7, z8, z9, z10, z11, z12, z13, z14⟩ := HR.out.all)
    | (go_at_call 26; (with_reducible refine (k_sput HP.out HO.out HS.out HY.out).mono ?_); rintro e w3 ⟨A3, c3, rfl, hq, hb⟩; have HQ := hq; clear hq; have HS := Aside0.mk (HS.out.later hb.out); have HY := Aside0.mk (HY.out.later hb.out); have HR := Aside0.mk (show Rec w3 w.heap.size #[.int .i64 a0, .int .i64 a1, .bool a2, .bool a3, .int .u32 a4, .int .u32 a5, .int .u32 a6, .int .u32 a7, .int .i64 a8, .int .i64 a9, .int .u32 a10, .int .u32 a11, .int .u32 a12, .slice A13 a13.length c13, .slice A14 a14.length c14] from blk_below HR.out hb.out); have HW := Aside0.mk (HW.out.trans (hb.out.mono HW.out.size)); clear hb; clear z0 z1 z2 z3 z4 z5 z6 z7 z8 z9 z10 z11 z12 z13 z14))
  go_ret
  exact ⟨rfl, HW.out⟩
set_option maxHeartbeats 8000000 in
set_option maxRecDepth 100000 in
theorem spoilt_o1 (a0 : Int) (a1 : Int) (a2 : Bool) (a3 : Bool) (a4 : Int) (a5 : Int) (a6 : Int) (a7 : Int) (a8 : Int) (a9 : Int) (a10 : Int) (a11 : Int) (a12 : Int) (a13 : List S58) (a14 : List Int) (A13 : Option Addr) (c13 : Nat) (A14 : Option Addr) (c14 : Nat) (x y : Int) (w : World) (h13 : Sk w A13 c13 a13) (h14 : By w A14 c14 a14) (ho : okS ⟨a0, a1, a2, a3, a4, a5, a6, a7, a8, a9, a10, a11, a12, a13, a14⟩) (L : Bool) (hL : lightB ⟨a0, a1, a2, a3, a4, a5, a6, a7, a8, a9, a10, a11, a12, a13, a14⟩ = L) (out : List Int) (err : Int) (hp : putB ⟨a0, a1, a2, a3, a4, a5, a6, a7, a8, a9, a10, a11, a12, a13, a14⟩ = (out, err))
    (hx : L = true ∧ err = 1) :
    Calls Try.prog 12 #[.agg #[.int .i64 a0, .int .i64 a1, .bool a2, .bool a3, .int .u32 a4, .int .u32 a5, .int .u32 a6, .int .u32 a7, .int .i64 a8, .int .i64 a9, .int .u32 a10, .int .u32 a11, .int .u32 a12, .slice A13 a13.length c13, .slice A14 a14.length c14], .int .i64 x, .int .u8 y] w fun e w' => e = .returned (.bool true) ∧ Below w.heap.size w w' := by
  have HL := Aside0.mk hL
  have HP := Aside0.mk hp
  have HO := Aside0.mk ho
  clear hL hp ho
  have hal : Below w.heap.size w (w.alloc (.cells #[.int .i64 a0, .int .i64 a1, .bool a2, .bool a3, .int .u32 a4, .int .u32 a5, .int .u32 a6, .int .u32 a7, .int .i64 a8, .int .i64 a9, .int .u32 a10, .int .u32 a11, .int .u32 a12, .slice A13 a13.length c13, .slice A14 a14.length c14] 41)) := below_alloc (Below.refl _ _) _
  have HS := Aside0.mk (h13.later hal)
  have HY := Aside0.mk (h14.later hal)
  have HR := Aside0.mk (show Rec (w.alloc (.cells #[.int .i64 a0, .int .i64 a1, .bool a2, .bool a3, .int .u32 a4, .int .u32 a5, .int .u32 a6, .int .u32 a7, .int .i64 a8, .int .i64 a9, .int .u32 a10, .int .u32 a11, .int .u32 a12, .slice A13 a13.length c13, .slice A14 a14.length c14] 41)) w.heap.size #[.int .i64 a0, .int .i64 a1, .bool a2, .bool a3, .int .u32 a4, .int .u32 a5, .int .u32 a6, .int .u32 a7, .int .i64 a8, .int .i64 a9, .int .u32 a10, .int .u32 a11, .int .u32 a12, .slice A13 a13.length c13, .slice A14 a14.length c14] from blk_new w _)
  have HW := Aside0.mk hal
  clear h13 h14 hal
  obtain ⟨rfl, rfl⟩ := hx
  go_enter Try.func12, Try.ntmps12
  go_wp2_with (first
    | (go_at_call 24; (with_reducible refine (k_awake _).mono ?_); rintro e w1 ⟨rfl, hb⟩; have HS := Aside0.mk (HS.out.later hb.out); have HY := Aside0.mk (HY.out.later hb.out); have HR := Aside0.mk (show Rec w1 w.heap.size #[.int .i64 a0, .int .i64 a1, .bool a2, .bool a3, .int .u32 a4, .int .u32 a5, .int .u32 a6, .int .u32 a7, .int .i64 a8, .int .i64 a9, .int .u32 a10, .int .u32 a11, .int .u32 a12, .slice A13 a13.length c13, .slice A14 a14.length c14] from blk_below HR.out hb.out); have HW := Aside0.mk (HW.out.trans (hb.out.mono HW.out.size)); clear hb; obtain ⟨z0, z1, z2, z3, z4, z5, z6, z7, z8, z9, z10, z11, z12, z13, z14⟩ := HR.out.all)
    | (go_at_call 25; (with_reducible refine (k_light' HL.out HS.out HY.out).mono ?_); rintro e w2 ⟨rfl, hb⟩; have HS := Aside0.mk (HS.out.later hb.out); have HY := Aside0.mk (HY.out.later hb.out); have HR := Aside0.mk (show Rec w2 w.heap.size #[.int .i64 a0, .int .i64 a1, .bool a2, .bool a3, .int .u32 a4, .int .u32 a5, .int .u32 a6, .int .u32 a7, .int .i64 a8, .int .i64 a9, .int .u32 a10, .int .u32 a11, .int .u32 a12, .slice A13 a13.length c13, .slice A14 a14.length c14] from blk_below HR.out hb.out); have HW := Aside0.mk (HW.out.trans (hb.out.mono HW.out.size)); clear hb; clear z0 z1 z2 z3 z4 z5 z6 z7 z8 z9 z10 z11 z12 z13 z14; obtain ⟨z0, z1, z2, z3, z4, z5, z6, z7, z8, z9, z10, z11, z12, z13, z14⟩ := HR.out.all)
    | (go_at_call 26; (with_reducible refine (k_sput HP.out HO.out HS.out HY.out).mono ?_); rintro e w3 ⟨A3, c3, rfl, hq, hb⟩; have HQ := hq; clear hq; have HS := Aside0.mk (HS.out.later hb.out); have HY := Aside0.mk (HY.out.later hb.out); have HR := Aside0.mk (show Rec w3 w.heap.size #[.int .i64 a0, .int .i64 a1, .bool a2, .bool a3, .int .u32 a4, .int .u32 a5, .int .u32 a6, .int .u32 a7, .int .i64 a8, .int .i64 a9, .int .u32 a10, .int .u32 a11, .int .u32 a12, .slice A13 a13.length c13, .slice A14 a14.length c14] from blk_below HR.out hb.out); have HW := Aside0.mk (HW.out.trans (hb.out.mono HW.out.size)); clear hb; clear z0 z1 z2 z3 z4 z5 z6 z7 z8 z9 z10 z11 z12 z13 z14))
  go_ret
  exact ⟨rfl, HW.out⟩
set_option maxHeartbeats 8000000 in
set_option maxRecDepth 100000 in
theorem spoilt_o2 (a0 : Int) (a1 : Int) (a2 : Bool) (a3 : Bool) (a4 : Int) (a5 : Int) (a6 : Int) (a7 : Int) (a8 : Int) (a9 : Int) (a10 : Int) (a11 : Int) (a12 : Int) (a13 : List S58) (a14 : List Int) (A13 : Option Addr) (c13 : Nat) (A14 : Option Addr) (c14 : Nat) (x y : Int) (w : World) (h13 : Sk w A13 c13 a13) (h14 : By w A14 c14 a14) (ho : okS ⟨a0, a1, a2, a3, a4, a5, a6, a7, a8, a9, a10, a11, a12, a13, a14⟩) (L : Bool) (hL : lightB ⟨a0, a1, a2, a3, a4, a5, a6, a7, a8, a9, a10, a11, a12, a13, a14⟩ = L) (out : List Int) (err : Int) (hp : putB ⟨a0, a1, a2, a3, a4, a5, a6, a7, a8, a9, a10, a11, a12, a13, a14⟩ = (out, err))
    (hx : L = true ∧ err = 0 ∧ decide (x < 0) = true) :
    Calls Try.prog 12 #[.agg #[.int .i64 a0, .int .i64 a1, .bool a2, .bool a3, .int .u32 a4, .int .u32 a5, .int .u32 a6, .int .u32 a7, .int .i64 a8, .int .i64 a9, .int .u32 a10, .int .u32 a11, .int .u32 a12, .slice A13 a13.length c13, .slice A14 a14.length c14], .int .i64 x, .int .u8 y] w fun e w' => e = .returned (.bool true) ∧ Below w.heap.size w w' := by
  have HL := Aside0.mk hL
  have HP := Aside0.mk hp
  have HO := Aside0.mk ho
  clear hL hp ho
  have hal : Below w.heap.size w (w.alloc (.cells #[.int .i64 a0, .int .i64 a1, .bool a2, .bool a3, .int .u32 a4, .int .u32 a5, .int .u32 a6, .int .u32 a7, .int .i64 a8, .int .i64 a9, .int .u32 a10, .int .u32 a11, .int .u32 a12, .slice A13 a13.length c13, .slice A14 a14.length c14] 41)) := below_alloc (Below.refl _ _) _
  have HS := Aside0.mk (h13.later hal)
  have HY := Aside0.mk (h14.later hal)
  have HR := Aside0.mk (show Rec (w.alloc (.cells #[.int .i64 a0, .int .i64 a1, .bool a2, .bool a3, .int .u32 a4, .int .u32 a5, .int .u32 a6, .int .u32 a7, .int .i64 a8, .int .i64 a9, .int .u32 a10, .int .u32 a11, .int .u32 a12, .slice A13 a13.length c13, .slice A14 a14.length c14] 41)) w.heap.size #[.int .i64 a0, .int .i64 a1, .bool a2, .bool a3, .int .u32 a4, .int .u32 a5, .int .u32 a6, .int .u32 a7, .int .i64 a8, .int .i64 a9, .int .u32 a10, .int .u32 a11, .int .u32 a12, .slice A13 a13.length c13, .slice A14 a14.length c14] from blk_new w _)
  have HW := Aside0.mk hal
  clear h13 h14 hal
  obtain ⟨rfl, rfl, hx1⟩ := hx
  go_enter Try.func12, Try.ntmps12
  go_wp2_with (first
    | (go_at_call 24; (with_reducible refine (k_awake _).mono ?_); rintro e w1 ⟨rfl, hb⟩; have HS := Aside0.mk (HS.out.later hb.out); have HY := Aside0.mk (HY.out.later hb.out); have HR := Aside0.mk (show Rec w1 w.heap.size #[.int .i64 a0, .int .i64 a1, .bool a2, .bool a3, .int .u32 a4, .int .u32 a5, .int .u32 a6, .int .u32 a7, .int .i64 a8, .int .i64 a9, .int .u32 a10, .int .u32 a11, .int .u32 a12, .slice A13 a13.length c13, .slice A14 a14.length c14] from blk_below HR.out hb.out); have HW := Aside0.mk (HW.out.trans (hb.out.mono HW.out.size)); clear hb; obtain ⟨z0, z1, z2, z3, z4, z5, z6, z7, z8, z9, z10, z11, z12, z13, z14⟩ := HR.out.all)
    | (go_at_call 25; (with_reducible refine (k_light' HL.out HS.out HY.out).mono ?_); rintro e w2 ⟨rfl, hb⟩; have HS := Aside0.mk (HS.out.later hb.out); have HY := Aside0.mk (HY.out.later hb.out); have HR := Aside0.mk (show Rec w2 w.heap.size #[.int .i64 a0, .int .i64 a1, .bool a2, .bool a3, .int .u32 a4, .int .u32 a5, .int .u32 a6, .int .u32 a7, .int .i64 a8, .int .i64 a9, .int .u32 a10, .int .u32 a11, .int .u32 a12, .slice A13 a13.length c13, .slice A14 a14.length c14] from blk_below HR.out hb.out); have HW := Aside0.mk (HW.out.trans (hb.out.mono HW.out.size)); clear hb; clear z0 z1 z2 z3 z4 z5 z6 z7 z8 z9 z10 z11 z12 z13 z14; obtain ⟨z0, z1, z2, z3, z4, z5, z6, z7, z8, z9, z10, z11, z12, z13, z14⟩ := HR.out.all)
    | (go_at_call 26; (with_reducible refine (k_sput HP.out HO.out HS.out HY.out).mono ?_); rintro e w3 ⟨A3, c3, rfl, hq, hb⟩; have HQ := hq; clear hq; have HS := Aside0.mk (HS.out.later hb.out); have HY := Aside0.mk (HY.out.later hb.out); have HR := Aside0.mk (show Rec w3 w.heap.size #[.int .i64 a0, .int .i64 a1, .bool a2, .bool a3, .int .u32 a4, .int .u32 a5, .int .u32 a6, .int .u32 a7, .int .i64 a8, .int .i64 a9, .int .u32 a10, .int .u32 a11, .int .u32 a12, .slice A13 a13.length c13, .slice A14 a14.length c14] from blk_below HR.out hb.out); have HW := Aside0.mk (HW.out.trans (hb.out.mono HW.out.size)); clear hb; clear z0 z1 z2 z3 z4 z5 z6 z7 z8 z9 z10 z11 z12 z13 z14))
  go_ret
  exact ⟨rfl, HW.out⟩
set_option maxHeartbeats 8000000 in
set_option maxRecDepth 100000 in
theorem spoilt_o3 (a0 : Int) (a1 : Int) (a2 : Bool) (a3 : Bool) (a4 : Int) (a5 : Int) (a6 : Int) (a7 : Int) (a8 : Int) (a9 : Int) (a10 : Int) (a11 : Int) (a12 : Int) (a13 : List S58) (a14 : List Int) (A13 : Option Addr) (c13 : Nat) (A14 : Option Addr) (c14 : Nat) (x y : Int) (w : World) (h13 : Sk w A13 c13 a13) (h14 : By w A14 c14 a14) (ho : okS ⟨a0, a1, a2, a3, a4, a5, a6, a7, a8, a9, a10, a11, a12, a13, a14⟩) (L : Bool) (hL : lightB ⟨a0, a1, a2, a3, a4, a5, a6, a7, a8, a9, a10, a11, a12, a13, a14⟩ = L) (out : List Int) (err : Int) (hp : putB ⟨a0, a1, a2, a3, a4, a5, a6, a7, a8, a9, a10, a11, a12, a13, a14⟩ = (out, err))
    (hx : L = true ∧ err = 0 ∧ decide (x < 0) = false ∧ decide ((out.length : Int) ≤ x) = true) :
    Calls Try.prog 12 #[.agg #[.int .i64 a0, .int .i64 a1, .bool a2, .bool a3, .int .u32 a4, .int .u32 a5, .int .u32 a6, .int .u32 a7, .int .i64 a8, .int .i64 a9, .int .u32 a10, .int .u32 a11, .int .u32 a12, .slice A13 a13.length c13, .slice A14 a14.length c14], .int .i64 x, .int .u8 y] w fun e w' => e = .returned (.bool true) ∧ Below w.heap.size w w' := by
  have HL := Aside0.mk hL
  have HP := Aside0.mk hp
  have HO := Aside0.mk ho
  clear hL hp ho
  have hal : Below w.heap.size w (w.alloc (.cells #[.int .i64 a0, .int .i64 a1, .bool a2, .bool a3, .int .u32 a4, .int .u32 a5, .int .u32 a6, .int .u32 a7, .int .i64 a8, .int .i64 a9, .int .u32 a10, .int .u32 a11, .int .u32 a12, .slice A13 a13.length c13, .slice A14 a14.length c14] 41)) := below_alloc (Below.refl _ _) _
  have HS := Aside0.mk (h13.later hal)
  have HY := Aside0.mk (h14.later hal)
  have HR := Aside0.mk (show Rec (w.alloc (.cells #[.int .i64 a0, .int .i64 a1, .bool a2, .bool a3, .int .u32 a4, .int .u32 a5, .int .u32 a6, .int .u32 a7, .int .i64 a8, .int .i64 a9, .int .u32 a10, .int .u32 a11, .int .u32 a12, .slice A13 a13.length c13, .slice A14 a14.length c14] 41)) w.heap.size #[.int .i64 a0, .int .i64 a1, .bool a2, .bool a3, .int .u32 a4, .int .u32 a5, .int .u32 a6, .int .u32 a7, .int .i64 a8, .int .i64 a9, .int .u32 a10, .int .u32 a11, .int .u32 a12, .slice A13 a13.length c13, .slice A14 a14.length c14] from blk_new w _)
  have HW := Aside0.mk hal
  clear h13 h14 hal
  obtain ⟨rfl, rfl, hx1, hx2⟩ := hx
  go_enter Try.func12, Try.ntmps12
  go_wp2_with (first
    | (go_at_call 24; (with_reducible refine (k_awake _).mono ?_); rintro e w1 ⟨rfl, hb⟩; have HS := Aside0.mk (HS.out.later hb.out); have HY := Aside0.mk (HY.out.later hb.out); have HR := Aside0.mk (show Rec w1 w.heap.size #[.int .i64 a0, .int .i64 a1, .bool a2, .bool a3, .int .u32 a4, .int .u32 a5, .int .u32 a6, .int .u32 a7, .int .i64 a8, .int .i64 a9, .int .u32 a10, .int .u32 a11, .int .u32 a12, .slice A13 a13.length c13, .slice A14 a14.length c14] from blk_below HR.out hb.out); have HW := Aside0.mk (HW.out.trans (hb.out.mono HW.out.size)); clear hb; obtain ⟨z0, z1, z2, z3, z4, z5, z6, z7, z8, z9, z10, z11, z12, z13, z14⟩ := HR.out.all)
    | (go_at_call 25; (with_reducible refine (k_light' HL.out HS.out HY.out).mono ?_); rintro e w2 ⟨rfl, hb⟩; have HS := Aside0.mk (HS.out.later hb.out); have HY := Aside0.mk (HY.out.later hb.out); have HR := Aside0.mk (show Rec w2 w.heap.size #[.int .i64 a0, .int .i64 a1, .bool a2, .bool a3, .int .u32 a4, .int .u32 a5, .int .u32 a6, .int .u32 a7, .int .i64 a8, .int .i64 a9, .int .u32 a10, .int .u32 a11, .int .u32 a12, .slice A13 a13.length c13, .slice A14 a14.length c14] from blk_below HR.out hb.out); have HW := Aside0.mk (HW.out.trans (hb.out.mono HW.out.size)); clear hb; clear z0 z1 z2 z3 z4 z5 z6 z7 z8 z9 z10 z11 z12 z13 z14; obtain ⟨z0, z1, z2, z3, z4, z5, z6, z7, z8, z9, z10, z11, z12, z13, z14⟩ := HR.out.all)
    | (go_at_call 26; (with_reducible refine (k_sput HP.out HO.out HS.out HY.out).mono ?_); rintro e w3 ⟨A3, c3, rfl, hq, hb⟩; have HQ := hq; clear hq; have HS := Aside0.mk (HS.out.later hb.out); have HY := Aside0.mk (HY.out.later hb.out); have HR := Aside0.mk (show Rec w3 w.heap.size #[.int .i64 a0, .int .i64 a1, .bool a2, .bool a3, .int .u32 a4, .int .u32 a5, .int .u32 a6, .int .u32 a7, .int .i64 a8, .int .i64 a9, .int .u32 a10, .int .u32 a11, .int .u32 a12, .slice A13 a13.length c13, .slice A14 a14.length c14] from blk_below HR.out hb.out); have HW := Aside0.mk (HW.out.trans (hb.out.mono HW.out.size)); clear hb; clear z0 z1 z2 z3 z4 z5 z6 z7 z8 z9 z10 z11 z12 z13 z14))
  go_ret
  exact ⟨rfl, HW.out⟩
set_option maxHeartbeats 8000000 in
set_option maxRecDepth 100000 in
theorem spoilt_o4 (a0 : Int) (a1 : Int) (a2 : Bool) (a3 : Bool) (a4 : Int) (a5 : Int) (a6 : Int) (a7 : Int) (a8 : Int) (a9 : Int) (a10 : Int) (a11 : Int) (a12 : Int) (a13 : List S58) (a14 : List Int) (A13 : Option Addr) (c13 : Nat) (A14 : Option Addr) (c14 : Nat) (x y : Int) (w : World) (h13 : Sk w A13 c13 a13) (h14 : By w A14 c14 a14) (ho : okS ⟨a0, a1, a2, a3, a4, a5, a6, a7, a8, a9, a10, a11, a12, a13, a14⟩) (L : Bool) (hL : lightB ⟨a0, a1, a2, a3, a4, a5, a6, a7, a8, a9, a10, a11, a12, a13, a14⟩ = L) (out : List Int) (err : Int) (hp : putB ⟨a0, a1, a2, a3, a4, a5, a6, a7, a8, a9, a10, a11, a12, a13, a14⟩ = (out, err))
    (hx : L = true ∧ err = 0 ∧ decide (x < 0) = false ∧ decide ((out.length : Int) ≤ x) = false ∧ (y == 0) = true) :
    Calls Try.prog 12 #[.agg #[.int .i64 a0, .int .i64 a1, .bool a2, .bool a3, .int .u32 a4, .int .u32 a5, .int .u32 a6, .int .u32 a7, .int .i64 a8, .int .i64 a9, .int .u32 a10, .int .u32 a11, .int .u32 a12, .slice A13 a13.length c13, .slice A14 a14.length c14], .int .i64 x, .int .u8 y] w fun e w' => e = .returned (.bool true) ∧ Below w.heap.size w w' := by
  have HL := Aside0.mk hL
  have HP := Aside0.mk hp
  have HO := Aside0.mk ho
  clear hL hp ho
  have hal : Below w.heap.size w (w.alloc (.cells #[.int .i64 a0, .int .i64 a1, .bool a2, .bool a3, .int .u32 a4, .int .u32 a5, .int .u32 a6, .int .u32 a7, .int .i64 a8, .int .i64 a9, .int .u32 a10, .int .u32 a11, .int .u32 a12, .slice A13 a13.length c13, .slice A14 a14.length c14] 41)) := below_alloc (Below.refl _ _) _
  have HS := Aside0.mk (h13.later hal)
  have HY := Aside0.mk (h14.later hal)
  have HR := Aside0.mk (show Rec (w.alloc (.cells #[.int .i64 a0, .int .i64 a1, .bool a2, .bool a3, .int .u32 a4, .int .u32 a5, .int .u32 a6, .int .u32 a7, .int .i64 a8, .int .i64 a9, .int .u32 a10, .int .u32 a11, .int .u32 a12, .slice A13 a13.length c13, .slice A14 a14.length c14] 41)) w.heap.size #[.int .i64 a0, .int .i64 a1, .bool a2, .bool a3, .int .u32 a4, .int .u32 a5, .int .u32 a6, .int .u32 a7, .int .i64 a8, .int .i64 a9, .int .u32 a10, .int .u32 a11, .int .u32 a12, .slice A13 a13.length c13, .slice A14 a14.length c14] from blk_new w _)
  have HW := Aside0.mk hal
  clear h13 h14 hal
  obtain ⟨rfl, rfl, hx1, hx2, hx3⟩ := hx
  go_enter Try.func12, Try.ntmps12
  go_wp2_with (first
    | (go_at_call 24; (with_reducible refine (k_awake _).mono ?_); rintro e w1 ⟨rfl, hb⟩; have HS := Aside0.mk (HS.out.later hb.out); have HY := Aside0.mk (HY.out.later hb.out); have HR := Aside0.mk (show Rec w1 w.heap.size #[.int .i64 a0, .int .i64 a1, .bool a2, .bool a3, .int .u32 a4, .int .u32 a5, .int .u32 a6, .int .u32 a7, .int .i64 a8, .int .i64 a9, .int .u32 a10, .int .u32 a11, .int .u32 a12, .slice A13 a13.length c13, .slice A14 a14.length c14] from blk_below HR.out hb.out); have HW := Aside0.mk (HW.out.trans (hb.out.mono HW.out.size)); clear hb; obtain ⟨z0, z1, z2, z3, z4, z5, z6, z7, z8, z9, z10, z11, z12, z13, z14⟩ := HR.out.all)
    | (go_at_call 25; (with_reducible refine (k_light' HL.out HS.out HY.out).mono ?_); rintro e w2 ⟨rfl, hb⟩; have HS := Aside0.mk (HS.out.later hb.out); have HY := Aside0.mk (HY.out.later hb.out); have HR := Aside0.mk (show Rec w2 w.heap.size #[.int .i64 a0, .int .i64 a1, .bool a2, .bool a3, .int .u32 a4, .int .u32 a5, .int .u32 a6, .int .u32 a7, .int .i64 a8, .int .i64 a9, .int .u32 a10, .int .u32 a11, .int .u32 a12, .slice A13 a13.length c13, .slice A14 a14.length c14] from blk_below HR.out hb.out); have HW := Aside0.mk (HW.out.trans (hb.out.mono HW.out.size)); clear hb; clear z0 z1 z2 z3 z4 z5 z6 z7 z8 z9 z10 z11 z12 z13 z14; obtain ⟨z0, z1, z2, z3, z4, z5, z6, z7, z8, z9, z10, z11, z12, z13, z14⟩ := HR.out.all)
    | (go_at_call 26; (with_reducible refine (k_sput HP.out HO.out HS.out HY.out).mono ?_); rintro e w3 ⟨A3, c3, rfl, hq, hb⟩; have HQ := hq; clear hq; have HS := Aside0.mk (HS.out.later hb.out); have HY := Aside0.mk (HY.out.later hb.out); have HR := Aside0.mk (show Rec w3 w.heap.size #[.int .i64 a0, .int .i64 a1, .bool a2, .bool a3, .int .u32 a4, .int .u32 a5, .int .u32 a6, .int .u32 a7, .int .i64 a8, .int .i64 a9, .int .u32 a10, .int .u32 a11, .int .u32 a12, .slice A13 a13.length c13, .slice A14 a14.length c14] from blk_below HR.out hb.out); have HW := Aside0.mk (HW.out.trans (hb.out.mono HW.out.size)); clear hb; clear z0 z1 z2 z3 z4 z5 z6 z7 z8 z9 z10 z11 z12 z13 z14))
  go_ret
  exact ⟨rfl, HW.out⟩
theorem spoilt_out (a0 : Int) (a1 : Int) (a2 : Bool) (a3 : Bool) (a4 : Int) (a5 : Int) (a6 : Int) (a7 : Int) (a8 : Int) (a9 : Int) (a10 : Int) (a11 : Int) (a12 : Int) (a13 : List S58) (a14 : List Int) (A13 : Option Addr) (c13 : Nat) (A14 : Option Addr) (c14 : Nat) (x y : Int) (w : World) (h13 : Sk w A13 c13 a13) (h14 : By w A14 c14 a14) (ho : okS ⟨a0, a1, a2, a3, a4, a5, a6, a7, a8, a9, a10, a11, a12, a13, a14⟩) (L : Bool) (hL : lightB ⟨a0, a1, a2, a3, a4, a5, a6, a7, a8, a9, a10, a11, a12, a13, a14⟩ = L) (out : List Int) (err : Int) (hp : putB ⟨a0, a1, a2, a3, a4, a5, a6, a7, a8, a9, a10, a11, a12, a13, a14⟩ = (out, err))
    (hx : (L = false) ∨ (L = true ∧ err = 1) ∨ (L = true ∧ err = 0 ∧ decide (x < 0) = true) ∨ (L = true ∧ err = 0 ∧ decide (x < 0) = false ∧ decide ((out.length : Int) ≤ x) = true) ∨ (L = true ∧ err = 0 ∧ decide (x < 0) = false ∧ decide ((out.length : Int) ≤ x) = false ∧ (y == 0) = true)) :
    Calls Try.prog 12 #[.agg #[.int .i64 a0, .int .i64 a1, .bool a2, .bool a3, .int .u32 a4, .int .u32 a5, .int .u32 a6, .int .u32 a7, .int .i64 a8, .int .i64 a9, .int .u32 a10, .int .u32 a11, .int .u32 a12, .slice A13 a13.length c13, .slice A14 a14.length c14], .int .i64 x, .int .u8 y] w fun e w' => e = .returned (.bool true) ∧ Below w.heap.size w w' := by
  rcases hx with h | h | h | h | h
  · exact spoilt_o0 a0 a1 a2 a3 a4 a5 a6 a7 a8 a9 a10 a11 a12 a13 a14 A13 c13 A14 c14 x y w h13 h14 ho L hL out err hp h
  · exact spoilt_o1 a0 a1 a2 a3 a4 a5 a6 a7 a8 a9 a10 a11 a12 a13 a14 A13 c13 A14 c14 x y w h13 h14 ho L hL out err hp h
  · exact spoilt_o2 a0 a1 a2 a3 a4 a5 a6 a7 a8 a9 a10 a11 a12 a13 a14 A13 c13 A14 c14 x y w h13 h14 ho L hL out err hp h
  · exact spoilt_o3 a0 a1 a2 a3 a4 a5 a6 a7 a8 a9 a10 a11 a12 a13 a14 A13 c13 A14 c14 x y w h13 h14 ho L hL out err hp h
  · exact spoilt_o4 a0 a1 a2 a3 a4 a5 a6 a7 a8 a9 a10 a11 a12 a13 a14 A13 c13 A14 c14 x y w h13 h14 ho L hL out err hp h
set_option maxHeartbeats 8000000 in
set_option maxRecDepth 100000 in
theorem spoilt_in (a0 : Int) (a1 : Int) (a2 : Bool) (a3 : Bool) (a4 : Int) (a5 : Int) (a6 : Int) (a7 : Int) (a8 : Int) (a9 : Int) (a10 : Int) (a11 : Int) (a12 : Int) (a13 : List S58) (a14 : List Int) (A13 : Option Addr) (c13 : Nat) (A14 : Option Addr) (c14 : Nat) (i : Nat) (y : Int) (w : World) (h13 : Sk w A13 c13 a13) (h14 : By w A14 c14 a14) (ho : okS ⟨a0, a1, a2, a3, a4, a5, a6, a7, a8, a9, a10, a11, a12, a13, a14⟩) (hL : lightB ⟨a0, a1, a2, a3, a4, a5, a6, a7, a8, a9, a10, a11, a12, a13, a14⟩ = true) (hm : mayB ⟨a0, a1, a2, a3, a4, a5, a6, a7, a8, a9, a10, a11, a12, a13, a14⟩ = true) (out : List Int) (hout : out = seald (outB ⟨a0, a1, a2, a3, a4, a5, a6, a7, a8, a9, a10, a11, a12, a13, a14⟩)) (hi : i < out.length) (hy : 0 ≤ y ∧ y ≤ 255) (hne : y ≠ 0) :
    Calls Try.prog 12 #[.agg #[.int .i64 a0, .int .i64 a1, .bool a2, .bool a3, .int .u32 a4, .int .u32 a5, .int .u32 a6, .int .u32 a7, .int .i64 a8, .int .i64 a9, .int .u32 a10, .int .u32 a11, .int .u32 a12, .slice A13 a13.length c13, .slice A14 a14.length c14], .int .i64 (i : Int), .int .u8 y] w fun e w' => e = .returned (.bool true) ∧ Below w.heap.size w w' := by
  have hp : putB ⟨a0, a1, a2, a3, a4, a5, a6, a7, a8, a9, a10, a11, a12, a13, a14⟩ = (out, 0) := by rw [hout]; exact if_pos hm
  have hlen : out.length = 36 + 8 * a13.length + a14.length := by rw [hout, seald_len, outB_len]; simp only; omega
  obtain ⟨_, _, _, _, _, _, _, _, _, m9, m10⟩ := may_parts hm
  have hgt := get_turned (outB ⟨a0, a1, a2, a3, a4, a5, a6, a7, a8, a9, a10, a11, a12, a13, a14⟩) (outB_byt ho) i y (by rw [← hout]; exact hi) hy hne
  rw [← hout] at hgt
  have hbo : Byt out := by rw [hout]; exact seald_byt (outB_byt ho)
  obtain ⟨o2, ho2⟩ : ∃ o2, o2 = out.set i (bits .xor .u8 (rd out (i : Int)) y) := ⟨_, rfl⟩
  rw [← ho2] at hgt
  have hl2 : o2.length = out.length := by rw [ho2, List.length_set]
  have HG2 : Aside0 (∀ (W : World) (A : Option Addr) (c : Nat), By W A c o2 → Calls Try.prog 30 #[.slice A out.length c] W fun e w' => ∃ A13 c13 A14 c14, e = .returned (.tuple #[.agg #[.int .i64 0, .int .i64 0, .bool false, .bool false, .int .u32 0, .int .u32 0, .int .u32 0, .int .u32 0, .int .i64 0, .int .i64 0, .int .u32 0, .int .u32 0, .int .u32 0, .slice A13 0 c13, .slice A14 0 c14], .int .i64 8]) ∧ Aside0 (Below W.heap.size W w')) := ⟨get_zero hgt.1 hgt.2 (by omega) out.length hl2⟩
  have HG3 : Aside0 (∀ (W : World) (A : Option Addr) (c : Nat), By W A c (out.take 3) → Calls Try.prog 30 #[.slice A 3 c] W fun e w' => ∃ A13 c13 A14 c14, e = .returned (.tuple #[.agg #[.int .i64 0, .int .i64 0, .bool false, .bool false, .int .u32 0, .int .u32 0, .int .u32 0, .int .u32 0, .int .i64 0, .int .i64 0, .int .u32 0, .int .u32 0, .int .u32 0, .slice A13 0 c13, .slice A14 0 c14], .int .i64 7]) ∧ Aside0 (Below W.heap.size W w')) := ⟨get_zero (get_short3 out) (byt_take hbo 3) (by rw [List.length_take]; omega) 3 (by rw [List.length_take]; omega)⟩
  obtain ⟨i0, hi0, _, hsz0, _⟩ := info_parts info5
  have HI := Aside0.mk hi0
  have HO2 := Aside0.mk ho2
  have HLEN := Aside0.mk (show 36 ≤ out.length by omega)
  have HLN := Aside0.mk (show out.length ≤ 1000000 by omega)
  have hx1 : decide ((i : Int) < 0) = false := decide_eq_false (by omega)
  have hx2 : decide ((out.length : Int) ≤ (i : Int)) = false := decide_eq_false (by omega)
  have hx2' : decide ((i : Int) ≥ (out.length : Int)) = false := decide_eq_false (by omega)
  have hx3 : (y == 0) = false := by rw [beq_eq_false_iff_ne]; exact hne
  have hx4 : decide ((out.length : Int) < 36) = false := decide_eq_false (by omega)
  have hil : (i : Int) < (out.length : Int) := by omega
  have HL := Aside0.mk hL
  have HP := Aside0.mk hp
  have HO := Aside0.mk ho
  clear hL hp ho hm hout hlen hgt hbo ho2 hl2 hi0 hsz0 hne
  have hal : Below w.heap.size w (w.alloc (.cells #[.int .i64 a0, .int .i64 a1, .bool a2, .bool a3, .int .u32 a4, .int .u32 a5, .int .u32 a6, .int .u32 a7, .int .i64 a8, .int .i64 a9, .int .u32 a10, .int .u32 a11, .int .u32 a12, .slice A13 a13.length c13, .slice A14 a14.length c14] 41)) := below_alloc (Below.refl _ _) _
  have HS := Aside0.mk (h13.later hal)
  have HY := Aside0.mk (h14.later hal)
  have HR := Aside0.mk (show Rec (w.alloc (.cells #[.int .i64 a0, .int .i64 a1, .bool a2, .bool a3, .int .u32 a4, .int .u32 a5, .int .u32 a6, .int .u32 a7, .int .i64 a8, .int .i64 a9, .int .u32 a10, .int .u32 a11, .int .u32 a12, .slice A13 a13.length c13, .slice A14 a14.length c14] 41)) w.heap.size #[.int .i64 a0, .int .i64 a1, .bool a2, .bool a3, .int .u32 a4, .int .u32 a5, .int .u32 a6, .int .u32 a7, .int .i64 a8, .int .i64 a9, .int .u32 a10, .int .u32 a11, .int .u32 a12, .slice A13 a13.length c13, .slice A14 a14.length c14] from blk_new w _)
  have HW := Aside0.mk hal
  clear h13 h14 hal
  go_enter Try.func12, Try.ntmps12
  go_wp2_with (first
    | (go_at_call 24; (with_reducible refine (k_awake _).mono ?_); rintro e w1 ⟨rfl, hb⟩; have HS := Aside0.mk (HS.out.later hb.out); have HY := Aside0.mk (HY.out.later hb.out); have HR := Aside0.mk (show Rec w1 w.heap.size #[.int .i64 a0, .int .i64 a1, .bool a2, .bool a3, .int .u32 a4, .int .u32 a5, .int .u32 a6, .int .u32 a7, .int .i64 a8, .int .i64 a9, .int .u32 a10, .int .u32 a11, .int .u32 a12, .slice A13 a13.length c13, .slice A14 a14.length c14] from blk_below HR.out hb.out); have HW := Aside0.mk (HW.out.trans (hb.out.mono HW.out.size)); clear hb; obtain ⟨z0, z1, z2, z3, z4, z5, z6, z7, z8, z9, z10, z11, z12, z13, z14⟩ := HR.out.all)
    | (go_at_call 25; (with_reducible refine (k_light' HL.out HS.out HY.out).mono ?_); rintro e w2 ⟨rfl, hb⟩; have HS := Aside0.mk (HS.out.later hb.out); have HY := Aside0.mk (HY.out.later hb.out); have HR := Aside0.mk (show Rec w2 w.heap.size #[.int .i64 a0, .int .i64 a1, .bool a2, .bool a3, .int .u32 a4, .int .u32 a5, .int .u32 a6, .int .u32 a7, .int .i64 a8, .int .i64 a9, .int .u32 a10, .int .u32 a11, .int .u32 a12, .slice A13 a13.length c13, .slice A14 a14.length c14] from blk_below HR.out hb.out); have HW := Aside0.mk (HW.out.trans (hb.out.mono HW.out.size)); clear hb; clear z0 z1 z2 z3 z4 z5 z6 z7 z8 z9 z10 z11 z12 z13 z14; obtain ⟨z0, z1, z2, z3, z4, z5, z6, z7, z8, z9, z10, z11, z12, z13, z14⟩ := HR.out.all)
    | (go_at_call 26; (with_reducible refine (k_sput HP.out HO.out HS.out HY.out).mono ?_); rintro e w3 ⟨A3, c3, rfl, hq, hb⟩; have HQ := hq; clear hq; have HS := Aside0.mk (HS.out.later hb.out); have HY := Aside0.mk (HY.out.later hb.out); have HR := Aside0.mk (show Rec w3 w.heap.size #[.int .i64 a0, .int .i64 a1, .bool a2, .bool a3, .int .u32 a4, .int .u32 a5, .int .u32 a6, .int .u32 a7, .int .i64 a8, .int .i64 a9, .int .u32 a10, .int .u32 a11, .int .u32 a12, .slice A13 a13.length c13, .slice A14 a14.length c14] from blk_below HR.out hb.out); have HW := Aside0.mk (HW.out.trans (hb.out.mono HW.out.size)); clear hb; clear z0 z1 z2 z3 z4 z5 z6 z7 z8 z9 z10 z11 z12 z13 z14; have hcut := cut_to (P := Try.prog) 23 5 .i64 Try.underlying23 HI.out A3 out.length c3 3 (by omega) (by have := HLEN.out; omega) HQ.out.2)
    | ((with_reducible refine gate_builtin (b := .append) (xs := #[.const (.slice none 0 0), .tmp 52]) rfl ?_); at_builtin; refine Kd.R_append_rows (Kd.int .u8) (w0 := w3) w3.heap.size rfl (.const (.slice none 0 0)) (.tmp 52) 23 5 (.int .u8 0) 1 rfl Try.underlying23 info5 rfl (by decide) (by omega) (.slice none 0 0) ([] : List Int) out _ _ _ (fun _ => True) (fun _ => False) rfl rfl (Kd.R_nil _ _ _ _ _) HQ.out.1 (fun _ _ h => h) (fun _ h => h.elim) (fun _ _ => trivial) (Below.refl _ _) (Nat.le_refl _) (by have := HLN.out; simp; omega) ?_; intro v1 w5 hr1 hb5 hg1 hat1; rw [List.nil_append] at hr1; obtain ⟨g, cap, rfl, hgb, hgl, _⟩ := Kd.R_form hr1 (by have := HLEN.out; omega); obtain ⟨hx0, hf0⟩ := Kd.R_celln 0 hr1 (i : Int) (by omega) (by omega); have hput := Kd.R_putg hr1 (i : Int) (bits .xor .u8 (rd out (i : Int)) y); rw [Int.toNat_natCast] at hx0 hf0 hput; replace hx0 : w5.cell? ⟨g, i, none⟩ = some (.int .u8 (rd out (i : Int))) := hx0; have hQS : Below w3.heap.size w3 (w5.setCell ⟨g, i, none⟩ (.int .u8 (bits .xor .u8 (rd out (i : Int)) y))) := hb5.setCell hgb _; have hB2 := By.of hput.1; rw [← HO2.out] at hB2; have HB2 := Aside0.mk hB2; have HQ := Aside0.mk (HQ.out.later hQS); have HW := Aside0.mk (HW.out.trans (hQS.mono HW.out.size)); clear hr1 hb5 hg1 hat1 hput hQS hB2 hgb hgl)
    | (go_at_call 30; (with_reducible refine (HG2.out _ _ _ HB2.out).mono ?_); rintro e w6 ⟨B13, e13, B14, e14, rfl, hb⟩; have hal := below_alloc (Below.refl w6.heap.size w6) (.cells #[.int .i64 0, .int .i64 0, .bool false, .bool false, .int .u32 0, .int .u32 0, .int .u32 0, .int .u32 0, .int .i64 0, .int .i64 0, .int .u32 0, .int .u32 0, .int .u32 0, .slice B13 0 e13, .slice B14 0 e14] 41); have R2 := Aside0.mk (show Rec (w6.alloc (.cells #[.int .i64 0, .int .i64 0, .bool false, .bool false, .int .u32 0, .int .u32 0, .int .u32 0, .int .u32 0, .int .i64 0, .int .i64 0, .int .u32 0, .int .u32 0, .int .u32 0, .slice B13 0 e13, .slice B14 0 e14] 41)) w6.heap.size #[.int .i64 0, .int .i64 0, .bool false, .bool false, .int .u32 0, .int .u32 0, .int .u32 0, .int .u32 0, .int .i64 0, .int .i64 0, .int .u32 0, .int .u32 0, .int .u32 0, .slice B13 0 e13, .slice B14 0 e14] from blk_new w6 _); have HQ := Aside0.mk ((HQ.out.later hb.out).later hal); have HW := Aside0.mk (HW.out.trans (hb.out.mono HW.out.size)); have HW := Aside0.mk (HW.out.trans (hal.mono HW.out.size)); clear hb hal HB2; have HT := Aside0.mk (show By (w6.alloc (.cells #[.int .i64 0, .int .i64 0, .bool false, .bool false, .int .u32 0, .int .u32 0, .int .u32 0, .int .u32 0, .int .i64 0, .int .i64 0, .int .u32 0, .int .u32 0, .int .u32 0, .slice B13 0 e13, .slice B14 0 e14] 41)) A3 c3 (out.take 3) from ⟨Kd.C_take HQ.out.1 (by have := HLEN.out; omega), by rw [List.length_take]; have := HQ.out.2; omega⟩))
    | (go_at_call 30; (with_reducible refine (HG3.out _ _ _ HT.out).mono ?_); rintro e w7 ⟨C13, f13, C14, f14, rfl, hb⟩; have hal := below_alloc (Below.refl w7.heap.size w7) (.cells #[.int .i64 0, .int .i64 0, .bool false, .bool false, .int .u32 0, .int .u32 0, .int .u32 0, .int .u32 0, .int .i64 0, .int .i64 0, .int .u32 0, .int .u32 0, .int .u32 0, .slice C13 0 f13, .slice C14 0 f14] 41); have R2 := Aside0.mk (show Rec (w7.alloc (.cells #[.int .i64 0, .int .i64 0, .bool false, .bool false, .int .u32 0, .int .u32 0, .int .u32 0, .int .u32 0, .int .i64 0, .int .i64 0, .int .u32 0, .int .u32 0, .int .u32 0, .slice C13 0 f13, .slice C14 0 f14] 41)) w6.heap.size #[.int .i64 0, .int .i64 0, .bool false, .bool false, .int .u32 0, .int .u32 0, .int .u32 0, .int .u32 0, .int .i64 0, .int .i64 0, .int .u32 0, .int .u32 0, .int .u32 0, .slice B13 0 e13, .slice B14 0 e14] from blk_alloc (blk_below R2.out hb.out) _); have HW := Aside0.mk (HW.out.trans (hb.out.mono HW.out.size)); have HW := Aside0.mk (HW.out.trans (hal.mono HW.out.size)); clear hb hal; obtain ⟨t0, t1, t2, t3, t4, t5, t6, t7, t8, t9, t10, t11, t12, t13, t14⟩ := R2.out.all))
  go_ret
  exact ⟨rfl, HW.out⟩
theorem spoilt_all (a0 : Int) (a1 : Int) (a2 : Bool) (a3 : Bool) (a4 : Int) (a5 : Int) (a6 : Int) (a7 : Int) (a8 : Int) (a9 : Int) (a10 : Int) (a11 : Int) (a12 : Int) (a13 : List S58) (a14 : List Int) (A13 : Option Addr) (c13 : Nat) (A14 : Option Addr) (c14 : Nat) (x y : Int) (w : World) (h13 : Sk w A13 c13 a13) (h14 : By w A14 c14 a14) (ho : okS ⟨a0, a1, a2, a3, a4, a5, a6, a7, a8, a9, a10, a11, a12, a13, a14⟩) (hy : 0 ≤ y ∧ y ≤ 255) :
    Calls Try.prog 12 #[.agg #[.int .i64 a0, .int .i64 a1, .bool a2, .bool a3, .int .u32 a4, .int .u32 a5, .int .u32 a6, .int .u32 a7, .int .i64 a8, .int .i64 a9, .int .u32 a10, .int .u32 a11, .int .u32 a12, .slice A13 a13.length c13, .slice A14 a14.length c14], .int .i64 x, .int .u8 y] w fun e w' => e = .returned (.bool true) ∧ Below w.heap.size w w' := by
  have out := fun (L : Bool) (hL : lightB ⟨a0, a1, a2, a3, a4, a5, a6, a7, a8, a9, a10, a11, a12, a13, a14⟩ = L) (o : List Int) (err : Int) (hp : putB ⟨a0, a1, a2, a3, a4, a5, a6, a7, a8, a9, a10, a11, a12, a13, a14⟩ = (o, err)) hx => spoilt_out _ _ _ _ _ _ _ _ _ _ _ _ _ _ _ A13 c13 A14 c14 x y w h13 h14 ho L hL o err hp hx
  cases hL : lightB ⟨a0, a1, a2, a3, a4, a5, a6, a7, a8, a9, a10, a11, a12, a13, a14⟩
  · exact out _ hL _ _ rfl (.inl rfl)
  · cases hm : mayB ⟨a0, a1, a2, a3, a4, a5, a6, a7, a8, a9, a10, a11, a12, a13, a14⟩
    · have hp : putB ⟨a0, a1, a2, a3, a4, a5, a6, a7, a8, a9, a10, a11, a12, a13, a14⟩ = ([], 1) := by unfold putB; rw [hm]; rfl
      exact out _ hL _ _ hp (.inr (.inl ⟨rfl, rfl⟩))
    · have hp : putB ⟨a0, a1, a2, a3, a4, a5, a6, a7, a8, a9, a10, a11, a12, a13, a14⟩ = (seald (outB ⟨a0, a1, a2, a3, a4, a5, a6, a7, a8, a9, a10, a11, a12, a13, a14⟩), 0) := if_pos hm
      by_cases h1 : x < 0
      · exact out _ hL _ _ hp (.inr (.inr (.inl ⟨rfl, rfl, decide_eq_true h1⟩)))
      · by_cases h2 : ((seald (outB ⟨a0, a1, a2, a3, a4, a5, a6, a7, a8, a9, a10, a11, a12, a13, a14⟩)).length : Int) ≤ x
        · exact out _ hL _ _ hp (.inr (.inr (.inr (.inl ⟨rfl, rfl, decide_eq_false h1, decide_eq_true h2⟩))))
        · by_cases h3 : y = 0
          · exact out _ hL _ _ hp (.inr (.inr (.inr (.inr ⟨rfl, rfl, decide_eq_false h1, decide_eq_false h2, by rw [h3]; rfl⟩))))
          · obtain ⟨i, rfl⟩ : ∃ i : Nat, x = i := ⟨x.toNat, by omega⟩
            exact spoilt_in _ _ _ _ _ _ _ _ _ _ _ _ _ _ _ A13 c13 A14 c14 i y w h13 h14 ho hL hm _ rfl (by omega) hy h3
end Go.Proofs.Ytbogmogimoleaaa.Given
