/- The walk of WireLong. -/
import Derived.Test.YtbogmogimoleaaaHLawB
import Derived.Deep.QuietTactic
namespace Go.Proofs.Ytbogmogimoleaaa.Given
open Go.RowKit Go.Proofs.YtbogmogimoleaaaW.PrintWords Go.Proofs.YtbogmogimoleaaaW.PrintLast Go.Proofs.YtbogmogimoleaaaW.PrintMore Go.Proofs.Ytbogmogimoleaaa.W Go.Proofs.Ytbogmogimoleaaa.Plain7
set_option linter.unusedVariables false
set_option linter.unusedSimpArgs false
theorem rd_seald (l : List Int) (j : Nat) : rd (seald l) ((j + 4 : Nat) : Int) = rd l (j : Int) := by
  have h : (seald l).drop 4 = l := seald_drop l
  have h2 : rd ((seald l).drop 4) (j : Int) = rd (seald l) ((j + 4 : Nat) : Int) := by
    unfold rd
    rw [Int.toNat_natCast, Int.toNat_natCast, List.getD_eq_getElem?_getD, List.getD_eq_getElem?_getD, List.getElem?_drop, Nat.add_comm]
  rw [← h2, h]
theorem long_firsts (s : Sg) (h : okS s) (hm : mayB s = true) : rd (seald (outB s)) 4 = s.a0 * 16 + s.a1 ∧ rd (seald (outB s)) 35 = (s.l13.length : Int) := by
  obtain ⟨_, hs⟩ := segOf_put s h hm
  have hl : 32 ≤ (outB s).length := by rw [outB_len]; omega
  have hb := outB_byt h
  have e0 : rd (seald (outB s)) 4 = num (outB s) 0 1 := by
    rw [num_one _ 0 (by omega), show (4 : Int) = ((0 + 4 : Nat) : Int) from rfl, rd_seald]
    exact rd_get _ 0 (by omega)
  have e1 : rd (seald (outB s)) 35 = num (outB s) 31 1 := by
    rw [num_one _ 31 (by omega), show (35 : Int) = ((31 + 4 : Nat) : Int) from rfl, rd_seald]
    exact rd_get _ 31 (by omega)
  obtain ⟨b0, b1⟩ := num_bd (outB s) hb 31 1 (by decide)
  have h0 : num (outB s) 0 1 / 16 = s.a0 := congrArg Sg.a0 hs
  have h1 : num (outB s) 0 1 % 16 = s.a1 := congrArg Sg.a1 hs
  have h13 : sacksB (outB s) (num (outB s) 31 1).toNat = s.l13 := congrArg Sg.l13 hs
  have hlen := congrArg List.length h13
  rw [sacksB_len] at hlen
  rw [e0, e1]
  constructor
  · omega
  · omega
theorem long_cells {w : World} {A : Option Addr} {c : Nat} {l : List Int} (h : By w A c l) (hl : 36 ≤ l.length) : ∃ ad : Addr, A = some ad ∧ w.cell? ⟨ad.block, ad.off + 4, none⟩ = some (.int .u8 (rd l 4)) ∧ w.cell? ⟨ad.block, ad.off + 35, none⟩ = some (.int .u8 (rd l 35)) := by
  obtain ⟨ad, e, h4⟩ := Kd.at_int h.1 4 (by omega) (by omega)
  obtain ⟨ad1, e1, h35⟩ := Kd.at_int h.1 35 (by omega) (by omega)
  rw [e] at e1
  cases e1
  exact ⟨ad, e, h4, h35⟩
set_option maxHeartbeats 8000000 in
set_option maxRecDepth 100000 in
theorem long_out (a0 : Int) (a1 : Int) (a2 : Bool) (a3 : Bool) (a4 : Int) (a5 : Int) (a6 : Int) (a7 : Int) (a8 : Int) (a9 : Int) (a10 : Int) (a11 : Int) (a12 : Int) (a13 : List S58) (a14 : List Int) (A13 : Option Addr) (c13 : Nat) (A14 : Option Addr) (c14 : Nat) (w : World) (h13 : Sk w A13 c13 a13) (h14 : By w A14 c14 a14) (ho : okS ⟨a0, a1, a2, a3, a4, a5, a6, a7, a8, a9, a10, a11, a12, a13, a14⟩) (L : Bool) (hL : lightB ⟨a0, a1, a2, a3, a4, a5, a6, a7, a8, a9, a10, a11, a12, a13, a14⟩ = L) (out : List Int) (err : Int) (hp : putB ⟨a0, a1, a2, a3, a4, a5, a6, a7, a8, a9, a10, a11, a12, a13, a14⟩ = (out, err)) (hx : L = false ∨ (L = true ∧ err = 1)) :
    Calls Try.prog 13 #[.agg #[.int .i64 a0, .int .i64 a1, .bool a2, .bool a3, .int .u32 a4, .int .u32 a5, .int .u32 a6, .int .u32 a7, .int .i64 a8, .int .i64 a9, .int .u32 a10, .int .u32 a11, .int .u32 a12, .slice A13 a13.length c13, .slice A14 a14.length c14]] w fun e w' => e = .returned (.bool true) ∧ Below w.heap.size w w' := by
  have HL := Aside0.mk hL
  have HP := Aside0.mk hp
  have HO := Aside0.mk ho
  clear hL hp ho
  have hal : Below w.heap.size w (w.alloc (.cells #[.int .i64 a0, .int .i64 a1, .bool a2, .bool a3, .int .u32 a4, .int .u32 a5, .int .u32 a6, .int .u32 a7, .int .i64 a8, .int .i64 a9, .int .u32 a10, .int .u32 a11, .int .u32 a12, .slice A13 a13.length c13, .slice A14 a14.length c14] 41)) := below_alloc (Below.refl _ _) _
  have HS := Aside0.mk (h13.later hal)
  have HY := Aside0.mk (h14.later hal)
  have HR := Aside0.mk (show Rec (w.alloc (.cells #[.int .i64 a0, .int .i64 a1, .bool a2, .bool a3, .int .u32 a4, .int .u32 a5, .int .u32 a6, .int .u32 a7, .int .i64 a8, .int .i64 a9, .int .u32 a10, .int .u32 a11, .int .u32 a12, .slice A13 a13.length c13, .slice A14 a14.length c14] 41)) w.heap.size #[.int .i64 a0, .int .i64 a1, .bool a2, .bool a3, .int .u32 a4, .int .u32 a5, .int .u32 a6, .int .u32 a7, .int .i64 a8, .int .i64 a9, .int .u32 a10, .int .u32 a11, .int .u32 a12, .slice A13 a13.length c13, .slice A14 a14.length c14] from blk_new w _)
  have HW := Aside0.mk hal
  clear h13 h14 hal
  rcases hx with rfl | ⟨rfl, rfl⟩
  all_goals
    go_enter Try.func13, Try.ntmps13
    go_wp2_with (first
      | (go_at_call 24; (with_reducible refine (k_awake _).mono ?_); rintro e w1 ⟨rfl, hb⟩; have HS := Aside0.mk (HS.out.later hb.out); have HY := Aside0.mk (HY.out.later hb.out); have HR := Aside0.mk (show Rec w1 w.heap.size #[.int .i64 a0, .int .i64 a1, .bool a2, .bool a3, .int .u32 a4, .int .u32 a5, .int .u32 a6, .int .u32 a7, .int .i64 a8, .int .i64 a9, .int .u32 a10, .int .u32 a11, .int .u32 a12, .slice A13 a13.length c13, .slice A14 a14.length c14] from blk_below HR.out hb.out); have HW := Aside0.mk (HW.out.trans (hb.out.mono HW.out.size)); clear hb; obtain ⟨z0, z1, z2, z3, z4, z5, z6, z7, z8, z9, z10, z11, z12, z13, z14⟩ := HR.out.all)
      | (go_at_call 25; (with_reducible refine (k_light' HL.out HS.out HY.out).mono ?_); rintro e w2 ⟨rfl, hb⟩; have HS := Aside0.mk (HS.out.later hb.out); have HY := Aside0.mk (HY.out.later hb.out); have HR := Aside0.mk (show Rec w2 w.heap.size #[.int .i64 a0, .int .i64 a1, .bool a2, .bool a3, .int .u32 a4, .int .u32 a5, .int .u32 a6, .int .u32 a7, .int .i64 a8, .int .i64 a9, .int .u32 a10, .int .u32 a11, .int .u32 a12, .slice A13 a13.length c13, .slice A14 a14.length c14] from blk_below HR.out hb.out); have HW := Aside0.mk (HW.out.trans (hb.out.mono HW.out.size)); clear hb; clear z0 z1 z2 z3 z4 z5 z6 z7 z8 z9 z10 z11 z12 z13 z14; obtain ⟨z0, z1, z2, z3, z4, z5, z6, z7, z8, z9, z10, z11, z12, z13, z14⟩ := HR.out.all)
      | (go_at_call 26; (with_reducible refine (k_sput HP.out HO.out HS.out HY.out).mono ?_); rintro e w3 ⟨A3, c3, rfl, hq, hb⟩; have HQ := hq; clear hq; have HS := Aside0.mk (HS.out.later hb.out); have HY := Aside0.mk (HY.out.later hb.out); have HR := Aside0.mk (show Rec w3 w.heap.size #[.int .i64 a0, .int .i64 a1, .bool a2, .bool a3, .int .u32 a4, .int .u32 a5, .int .u32 a6, .int .u32 a7, .int .i64 a8, .int .i64 a9, .int .u32 a10, .int .u32 a11, .int .u32 a12, .slice A13 a13.length c13, .slice A14 a14.length c14] from blk_below HR.out hb.out); have HW := Aside0.mk (HW.out.trans (hb.out.mono HW.out.size)); clear hb; clear z0 z1 z2 z3 z4 z5 z6 z7 z8 z9 z10 z11 z12 z13 z14))
    go_ret
    exact ⟨rfl, HW.out⟩
set_option maxHeartbeats 8000000 in
set_option maxRecDepth 100000 in
theorem long_in (a0 : Int) (a1 : Int) (a2 : Bool) (a3 : Bool) (a4 : Int) (a5 : Int) (a6 : Int) (a7 : Int) (a8 : Int) (a9 : Int) (a10 : Int) (a11 : Int) (a12 : Int) (a13 : List S58) (a14 : List Int) (A13 : Option Addr) (c13 : Nat) (A14 : Option Addr) (c14 : Nat) (w : World) (h13 : Sk w A13 c13 a13) (h14 : By w A14 c14 a14) (ho : okS ⟨a0, a1, a2, a3, a4, a5, a6, a7, a8, a9, a10, a11, a12, a13, a14⟩) (hL : lightB ⟨a0, a1, a2, a3, a4, a5, a6, a7, a8, a9, a10, a11, a12, a13, a14⟩ = true) (hm : mayB ⟨a0, a1, a2, a3, a4, a5, a6, a7, a8, a9, a10, a11, a12, a13, a14⟩ = true) :
    Calls Try.prog 13 #[.agg #[.int .i64 a0, .int .i64 a1, .bool a2, .bool a3, .int .u32 a4, .int .u32 a5, .int .u32 a6, .int .u32 a7, .int .i64 a8, .int .i64 a9, .int .u32 a10, .int .u32 a11, .int .u32 a12, .slice A13 a13.length c13, .slice A14 a14.length c14]] w fun e w' => e = .returned (.bool true) ∧ Below w.heap.size w w' := by
  obtain ⟨out, hout⟩ : ∃ out, out = seald (outB ⟨a0, a1, a2, a3, a4, a5, a6, a7, a8, a9, a10, a11, a12, a13, a14⟩) := ⟨_, rfl⟩
  have hp : putB ⟨a0, a1, a2, a3, a4, a5, a6, a7, a8, a9, a10, a11, a12, a13, a14⟩ = (out, 0) := by rw [hout]; exact if_pos hm
  obtain ⟨r4, r35⟩ := long_firsts ⟨a0, a1, a2, a3, a4, a5, a6, a7, a8, a9, a10, a11, a12, a13, a14⟩ ho hm
  rw [← hout] at r4 r35
  simp only at r4 r35
  obtain ⟨m0, m1, m2, m3, _, _, _, _, _, m9, m10⟩ := may_parts hm
  have hlen : out.length = 36 + 8 * a13.length + a14.length := by rw [hout, seald_len, outB_len]; simp only; omega
  obtain ⟨kN, hkN⟩ : ∃ kN, kN = 36 + 8 * a13.length := ⟨_, rfl⟩
  have hdrop : out.drop kN = a14 := by
    rw [hout, hkN, show 36 + 8 * a13.length = 4 + (32 + 8 * a13.length) by omega, ← List.drop_drop, seald_drop]
    unfold outB
    rw [List.drop_left' (by rw [List.length_append, hdr_len, skB_len])]
  have hneq : ((out.length : Int) != 36 + 8 * (a13.length : Int) + (a14.length : Int)) = false := by rw [bne_eq_false_iff_eq]; omega
  have hsub : (out.length : Int) - (a14.length : Int) = (kN : Int) := by omega
  have hsubw : IntKind.i64.wrap ((out.length : Int) - (a14.length : Int)) = (kN : Int) := by rw [IntKind.wrap_i64]; omega
  have hw1 : IntKind.i64.wrap (16 * a0) = 16 * a0 := by rw [IntKind.wrap_i64]; omega
  have hw2 : IntKind.i64.wrap (16 * a0 + a1) = 16 * a0 + a1 := by rw [IntKind.wrap_i64]; omega
  have hw3 : IntKind.i64.wrap (a0 * 16 + a1) = a0 * 16 + a1 := by rw [IntKind.wrap_i64]; omega
  have hw4 : IntKind.i64.wrap (a13.length : Int) = (a13.length : Int) := by rw [IntKind.wrap_i64]; omega
  have hkw : IntKind.i64.wrap (kN : Int) = (kN : Int) := by rw [IntKind.wrap_i64]; omega
  have heq : (a0 * 16 + a1 == 16 * a0 + a1) = true := by rw [beq_iff_eq]; omega
  obtain ⟨i0, hi0, _, hsz0, _⟩ := info_parts info5
  have HLEN := Aside0.mk hlen
  have HKN := Aside0.mk hkN
  have HD := Aside0.mk hdrop
  have HR4 := Aside0.mk r4
  have HR35 := Aside0.mk r35
  have HI := Aside0.mk hi0
  have HSZ := Aside0.mk hsz0
  have HN14 := Aside0.mk (show a14.length ≤ 1000000 by omega)
  have HL := Aside0.mk hL
  have HP := Aside0.mk hp
  have HO := Aside0.mk ho
  have hl4 : (4 : Int) < (out.length : Int) := by omega
  have hl35 : (35 : Int) < (out.length : Int) := by omega
  have hl4n : 4 < out.length := by omega
  have hl35n : 35 < out.length := by omega
  clear hL hp ho hm hout hlen hkN hdrop r4 r35 hi0 hsz0
  have hal : Below w.heap.size w (w.alloc (.cells #[.int .i64 a0, .int .i64 a1, .bool a2, .bool a3, .int .u32 a4, .int .u32 a5, .int .u32 a6, .int .u32 a7, .int .i64 a8, .int .i64 a9, .int .u32 a10, .int .u32 a11, .int .u32 a12, .slice A13 a13.length c13, .slice A14 a14.length c14] 41)) := below_alloc (Below.refl _ _) _
  have HS := Aside0.mk (h13.later hal)
  have HY := Aside0.mk (h14.later hal)
  have HR := Aside0.mk (show Rec (w.alloc (.cells #[.int .i64 a0, .int .i64 a1, .bool a2, .bool a3, .int .u32 a4, .int .u32 a5, .int .u32 a6, .int .u32 a7, .int .i64 a8, .int .i64 a9, .int .u32 a10, .int .u32 a11, .int .u32 a12, .slice A13 a13.length c13, .slice A14 a14.length c14] 41)) w.heap.size #[.int .i64 a0, .int .i64 a1, .bool a2, .bool a3, .int .u32 a4, .int .u32 a5, .int .u32 a6, .int .u32 a7, .int .i64 a8, .int .i64 a9, .int .u32 a10, .int .u32 a11, .int .u32 a12, .slice A13 a13.length c13, .slice A14 a14.length c14] from blk_new w _)
  have HW := Aside0.mk hal
  clear h13 h14 hal
  go_enter Try.func13, Try.ntmps13
  go_wp2_with (first
    | (go_at_call 24; (with_reducible refine (k_awake _).mono ?_); rintro e w1 ⟨rfl, hb⟩; have HS := Aside0.mk (HS.out.later hb.out); have HY := Aside0.mk (HY.out.later hb.out); have HR := Aside0.mk (show Rec w1 w.heap.size #[.int .i64 a0, .int .i64 a1, .bool a2, .bool a3, .int .u32 a4, .int .u32 a5, .int .u32 a6, .int .u32 a7, .int .i64 a8, .int .i64 a9, .int .u32 a10, .int .u32 a11, .int .u32 a12, .slice A13 a13.length c13, .slice A14 a14.length c14] from blk_below HR.out hb.out); have HW := Aside0.mk (HW.out.trans (hb.out.mono HW.out.size)); clear hb; obtain ⟨z0, z1, z2, z3, z4, z5, z6, z7, z8, z9, z10, z11, z12, z13, z14⟩ := HR.out.all)
    | (go_at_call 25; (with_reducible refine (k_light' HL.out HS.out HY.out).mono ?_); rintro e w2 ⟨rfl, hb⟩; have HS := Aside0.mk (HS.out.later hb.out); have HY := Aside0.mk (HY.out.later hb.out); have HR := Aside0.mk (show Rec w2 w.heap.size #[.int .i64 a0, .int .i64 a1, .bool a2, .bool a3, .int .u32 a4, .int .u32 a5, .int .u32 a6, .int .u32 a7, .int .i64 a8, .int .i64 a9, .int .u32 a10, .int .u32 a11, .int .u32 a12, .slice A13 a13.length c13, .slice A14 a14.length c14] from blk_below HR.out hb.out); have HW := Aside0.mk (HW.out.trans (hb.out.mono HW.out.size)); clear hb; clear z0 z1 z2 z3 z4 z5 z6 z7 z8 z9 z10 z11 z12 z13 z14; obtain ⟨z0, z1, z2, z3, z4, z5, z6, z7, z8, z9, z10, z11, z12, z13, z14⟩ := HR.out.all)
    | (go_at_call 26; (with_reducible refine (k_sput HP.out HO.out HS.out HY.out).mono ?_); rintro e w3 ⟨A3, c3, rfl, hq, hb⟩; have HQ := hq; clear hq; have HS := Aside0.mk (HS.out.later hb.out); have HY := Aside0.mk (HY.out.later hb.out); have HR := Aside0.mk (show Rec w3 w.heap.size #[.int .i64 a0, .int .i64 a1, .bool a2, .bool a3, .int .u32 a4, .int .u32 a5, .int .u32 a6, .int .u32 a7, .int .i64 a8, .int .i64 a9, .int .u32 a10, .int .u32 a11, .int .u32 a12, .slice A13 a13.length c13, .slice A14 a14.length c14] from blk_below HR.out hb.out); have HW := Aside0.mk (HW.out.trans (hb.out.mono HW.out.size)); clear hb; clear z0 z1 z2 z3 z4 z5 z6 z7 z8 z9 z10 z11 z12 z13 z14; obtain ⟨z0, z1, z2, z3, z4, z5, z6, z7, z8, z9, z10, z11, z12, z13, z14⟩ := HR.out.all; have hcut := cut_from (P := Try.prog) 23 5 .i64 Try.underlying23 HI.out 1 HSZ.out A3 out.length c3 (kN : Int) (by omega) (by have := HLEN.out; have := HKN.out; omega); rw [Int.toNat_natCast, Nat.mul_one] at hcut; have hCd := Kd.C_drop (c := c3) (m := kN) HQ.out.1 (by have := HLEN.out; have := HKN.out; omega) HQ.out.2; rw [show (Kd.int .u8).sz = 1 from rfl, Nat.mul_one] at hCd; obtain ⟨A4, hA4⟩ : ∃ A4, A4 = (if c3 = kN then A3 else Option.map (fun x => x.add kN) A3) := ⟨_, rfl⟩; rw [← hA4] at hcut hCd; rw [HD.out] at hCd; rw [show out.length - kN = a14.length by have := HLEN.out; have := HKN.out; omega] at hcut; have HQ4 := Aside0.mk (show By w3 A4 (c3 - kN) a14 from ⟨hCd, by have := HQ.out.2; have := HLEN.out; have := HKN.out; omega⟩); clear hCd hA4))
  have hdr : Below w3.heap.size w3 w3.drew := below_drew (Below.refl _ _)
  have HY := Aside0.mk (HY.out.later hdr)
  have HQ4 := Aside0.mk (HQ4.out.later hdr)
  have HQ := Aside0.mk (HQ.out.later hdr)
  have HR := Aside0.mk (show Rec w3.drew w.heap.size #[.int .i64 a0, .int .i64 a1, .bool a2, .bool a3, .int .u32 a4, .int .u32 a5, .int .u32 a6, .int .u32 a7, .int .i64 a8, .int .i64 a9, .int .u32 a10, .int .u32 a11, .int .u32 a12, .slice A13 a13.length c13, .slice A14 a14.length c14] from blk_drew HR.out)
  have HW := Aside0.mk (HW.out.trans (hdr.mono HW.out.size))
  clear hdr
  go_region_with (go_at_call 18; (with_reducible refine (k_self HN14.out HQ4.out HY.out).mono ?_); rintro e w5 ⟨rfl, hb⟩; have HQ := Aside0.mk (HQ.out.later hb.out); have HR := Aside0.mk (show Rec w5 w.heap.size #[.int .i64 a0, .int .i64 a1, .bool a2, .bool a3, .int .u32 a4, .int .u32 a5, .int .u32 a6, .int .u32 a7, .int .i64 a8, .int .i64 a9, .int .u32 a10, .int .u32 a11, .int .u32 a12, .slice A13 a13.length c13, .slice A14 a14.length c14] from blk_below HR.out hb.out); have HW := Aside0.mk (HW.out.trans (hb.out.mono HW.out.size)); clear hb; obtain ⟨t0, t1, t2, t3, t4, t5, t6, t7, t8, t9, t10, t11, t12, t13, t14⟩ := HR.out.all; obtain ⟨ad, e4, h4, h35⟩ := long_cells HQ.out (by have := HLEN.out; omega); subst e4; rw [HR4.out] at h4; rw [HR35.out] at h35)
  all_goals
    go_wp2
    go_quiet (fail)
    go_wp2
    go_ret
    exact ⟨by simp, pw_below_drewN HW.out _⟩
theorem long_all (a0 : Int) (a1 : Int) (a2 : Bool) (a3 : Bool) (a4 : Int) (a5 : Int) (a6 : Int) (a7 : Int) (a8 : Int) (a9 : Int) (a10 : Int) (a11 : Int) (a12 : Int) (a13 : List S58) (a14 : List Int) (A13 : Option Addr) (c13 : Nat) (A14 : Option Addr) (c14 : Nat) (w : World) (h13 : Sk w A13 c13 a13) (h14 : By w A14 c14 a14) (ho : okS ⟨a0, a1, a2, a3, a4, a5, a6, a7, a8, a9, a10, a11, a12, a13, a14⟩) :
    Calls Try.prog 13 #[.agg #[.int .i64 a0, .int .i64 a1, .bool a2, .bool a3, .int .u32 a4, .int .u32 a5, .int .u32 a6, .int .u32 a7, .int .i64 a8, .int .i64 a9, .int .u32 a10, .int .u32 a11, .int .u32 a12, .slice A13 a13.length c13, .slice A14 a14.length c14]] w fun e w' => e = .returned (.bool true) ∧ Below w.heap.size w w' := by
  cases hm : mayB ⟨a0, a1, a2, a3, a4, a5, a6, a7, a8, a9, a10, a11, a12, a13, a14⟩
  · have hp : putB ⟨a0, a1, a2, a3, a4, a5, a6, a7, a8, a9, a10, a11, a12, a13, a14⟩ = ([], 1) := by unfold putB; rw [hm]; rfl
    cases hL : lightB ⟨a0, a1, a2, a3, a4, a5, a6, a7, a8, a9, a10, a11, a12, a13, a14⟩
    · exact long_out _ _ _ _ _ _ _ _ _ _ _ _ _ _ _ A13 c13 A14 c14 w h13 h14 ho _ hL _ _ hp (.inl rfl)
    · exact long_out _ _ _ _ _ _ _ _ _ _ _ _ _ _ _ A13 c13 A14 c14 w h13 h14 ho _ hL _ _ hp (.inr ⟨rfl, rfl⟩)
  · cases hL : lightB ⟨a0, a1, a2, a3, a4, a5, a6, a7, a8, a9, a10, a11, a12, a13, a14⟩
    · exact long_out _ _ _ _ _ _ _ _ _ _ _ _ _ _ _ A13 c13 A14 c14 w h13 h14 ho _ hL _ _ rfl (.inl rfl)
    · exact long_in _ _ _ _ _ _ _ _ _ _ _ _ _ _ _ A13 c13 A14 c14 w h13 h14 ho hL hm
end Go.Proofs.Ytbogmogimoleaaa.Given
