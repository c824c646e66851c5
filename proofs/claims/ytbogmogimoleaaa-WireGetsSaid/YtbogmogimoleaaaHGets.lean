/- The walk of WireGets. -/
import Derived.Test.YtbogmogimoleaaaHLawA
import Derived.Test.YtbogmogimoleaaaHRget
namespace Go.Proofs.Ytbogmogimoleaaa.Given
open Go.RowKit Go.Proofs.YtbogmogimoleaaaW.PrintWords Go.Proofs.YtbogmogimoleaaaW.PrintLast Go.Proofs.YtbogmogimoleaaaW.PrintMore Go.Proofs.Ytbogmogimoleaaa.W Go.Proofs.Ytbogmogimoleaaa.Plain7
set_option linter.unusedVariables false
set_option linter.unusedSimpArgs false
theorem k_rget {b : List Int} {a0 : Int} {a1 : Int} {a2 : Bool} {a3 : Bool} {a4 : Int} {a5 : Int} {a6 : Int} {a7 : Int} {a8 : Int} {a9 : Int} {a10 : Int} {a11 : Int} {a12 : Int} {a13 : List S58} {a14 : List Int} {err : Int} (hg : getB b = (⟨a0, a1, a2, a3, a4, a5, a6, a7, a8, a9, a10, a11, a12, a13, a14⟩, err)) (hb : Byt b) (hn : b.length ≤ 1000000) {A : Option Addr} {c : Nat} {w : World} (h : By w A c b) :
    Calls Try.prog 31 #[.slice A b.length c] w fun e w' => ∃ A13 c13 A14 c14, e = .returned (.tuple #[.agg #[.int .i64 a0, .int .i64 a1, .bool a2, .bool a3, .int .u32 a4, .int .u32 a5, .int .u32 a6, .int .u32 a7, .int .i64 a8, .int .i64 a9, .int .u32 a10, .int .u32 a11, .int .u32 a12, .slice A13 a13.length c13, .slice A14 a14.length c14], .int .i64 err]) ∧ Aside0 (Sk w' A13 c13 a13) ∧ Aside0 (By w' A14 c14 a14) ∧ Aside0 (Below w.heap.size w w') := by
  unfold getB at hg
  have hob := byt_opnd hb
  have hol := opnd_len b
  generalize ho : opnd b = o at *
  obtain ⟨own, er⟩ := o
  simp only at hg hob hol
  have zero : ∀ (er' : Int), (zSg, er') = ((⟨a0, a1, a2, a3, a4, a5, a6, a7, a8, a9, a10, a11, a12, a13, a14⟩ : Sg), err) → (Calls Try.prog 31 #[.slice A b.length c] w fun e w' => e = .returned (.tuple #[.agg zeros, .int .i64 er']) ∧ Below w.heap.size w w') → Calls Try.prog 31 #[.slice A b.length c] w fun e w' => ∃ A13 c13 A14 c14, e = .returned (.tuple #[.agg #[.int .i64 a0, .int .i64 a1, .bool a2, .bool a3, .int .u32 a4, .int .u32 a5, .int .u32 a6, .int .u32 a7, .int .i64 a8, .int .i64 a9, .int .u32 a10, .int .u32 a11, .int .u32 a12, .slice A13 a13.length c13, .slice A14 a14.length c14], .int .i64 err]) ∧ Aside0 (Sk w' A13 c13 a13) ∧ Aside0 (By w' A14 c14 a14) ∧ Aside0 (Below w.heap.size w w') := by
    intro er' he hc
    obtain ⟨h1, h2⟩ := Prod.mk.inj he
    subst h2
    unfold zSg at h1
    injection h1 with h0 h1 h2 h3 h4 h5 h6 h7 h8 h9 h10 h11 h12 h13 h14
    subst h0 h1 h2 h3 h4 h5 h6 h7 h8 h9 h10 h11 h12 h13 h14
    refine hc.mono ?_
    rintro e w' ⟨rfl, hb⟩
    exact ⟨none, 0, none, 0, rfl, ⟨Sk.none _⟩, ⟨By.none _⟩, ⟨hb⟩⟩
  by_cases he : er = 0
  · subst he
    rw [if_pos rfl] at hg
    by_cases hen : enough own
    · have hen' : enoughB own = true := decide_eq_true hen
      rw [hen', Bool.true_and] at hg
      generalize hs : segOf own = sg at hg
      obtain ⟨d0, d1, d2, d3, d4, d5, d6, d7, d8, d9, d10, d11, d12, d13, d14⟩ := sg
      by_cases hm : mayB ⟨d0, d1, d2, d3, d4, d5, d6, d7, d8, d9, d10, d11, d12, d13, d14⟩ = true
      · rw [if_pos hm] at hg
        obtain ⟨h1, h2⟩ := Prod.mk.inj hg
        subst h2
        injection h1 with h0 h1 h2 h3 h4 h5 h6 h7 h8 h9 h10 h11 h12 h13 h14
        subst h0 h1 h2 h3 h4 h5 h6 h7 h8 h9 h10 h11 h12 h13 h14
        refine (rget_enough b own ho hen _ _ _ _ _ _ _ _ _ _ _ _ _ _ _ hs true hm hob (by omega) hb hn A c w h).mono ?_
        rintro e w' ⟨A13, c13, A14, c14, (⟨_, rfl⟩ | ⟨hf, _⟩), h1, h2, h3⟩
        · exact ⟨A13, c13, A14, c14, rfl, ⟨h1⟩, ⟨h2⟩, ⟨h3⟩⟩
        · cases hf
      · rw [if_neg hm] at hg
        refine zero 7 hg ((rget_enough b own ho hen _ _ _ _ _ _ _ _ _ _ _ _ _ _ _ hs false (by simpa using hm) hob (by omega) hb hn A c w h).mono ?_)
        rintro e w' ⟨A13, c13, A14, c14, (⟨hf, _⟩ | ⟨_, rfl⟩), h1, h2, h3⟩
        · cases hf
        · exact ⟨rfl, h3⟩
    · have hen' : enoughB own = false := decide_eq_false hen
      rw [hen', Bool.false_and, if_neg (by simp)] at hg
      by_cases hfew : own.length < 32
      · exact zero 7 hg (rget_few b own ho hfew hb hn A c w h)
      · exact zero 7 hg (rget_less b own ho hob (by omega) (by omega) hen hb hn A c w h)
  · rw [if_neg he] at hg
    exact zero er hg (rget_bad b own er ho he hb hn A c w h)
set_option maxHeartbeats 8000000 in
set_option maxRecDepth 100000 in
theorem gets_in (A : Option Addr) (c : Nat) (b : List Int) (w : World) (h0 : By w A c b) (hby : Byt b) (hn : b.length ≤ 2000) :
    Calls Try.prog 10 #[.slice A b.length c] w fun e w' => e = .returned (.bool true) ∧ Below w.heap.size w w' := by
  obtain ⟨⟨⟨a0, a1, a2, a3, a4, a5, a6, a7, a8, a9, a10, a11, a12, a13, a14⟩, err⟩, hg⟩ : ∃ p, getB b = p := ⟨_, rfl⟩
  obtain ⟨sb, hsb⟩ : ∃ sb, sb = seald b := ⟨_, rfl⟩
  obtain ⟨⟨⟨d0, d1, d2, d3, d4, d5, d6, d7, d8, d9, d10, d11, d12, d13, d14⟩, err2⟩, hg2⟩ : ∃ p, getB sb = p := ⟨_, rfl⟩
  have hsl : sb.length ≤ 1000000 := by rw [hsb, seald_len]; omega
  have hsbb : Byt sb := by rw [hsb]; exact seald_byt hby
  have HSA := Aside0.mk (get_same b _ _ hg (by omega))
  have HSD := Aside0.mk (get_same sb _ _ hg2 hsl)
  have HG := Aside0.mk hg
  have HG2 := Aside0.mk hg2
  have HBY := Aside0.mk hby
  have HSB := Aside0.mk hsbb
  have HN := Aside0.mk (show b.length ≤ 1000000 by omega)
  have HN2 := Aside0.mk hsl
  have HSEAL : Aside0 (∀ (W : World) (A : Option Addr) (c : Nat), By W A c b → Calls Try.prog 19 #[.slice A b.length c] W fun e w' => ∃ (A2 : Option Addr) (c2 : Nat), e = .returned (.slice A2 sb.length c2) ∧ Aside0 (By w' A2 c2 sb) ∧ Aside0 (Below W.heap.size W w')) := ⟨fun W A c h => by rw [hsb]; exact k_seal hby (by omega) h⟩
  have HRSEAL : Aside0 (∀ (W : World) (A : Option Addr) (c : Nat), By W A c b → Calls Try.prog 20 #[.slice A b.length c] W fun e w' => ∃ (A2 : Option Addr) (c2 : Nat), e = .returned (.slice A2 sb.length c2) ∧ Aside0 (By w' A2 c2 sb) ∧ Aside0 (Below W.heap.size W w')) := ⟨fun W A c h => by rw [hsb]; exact k_rseal hby (by omega) h⟩
  have hd : decide ((b.length : Int) > 2000) = false := decide_eq_false (by omega)
  have hd2 : decide ((2000 : Int) < (b.length : Int)) = false := decide_eq_false (by omega)
  have HB := Aside0.mk h0
  clear h0 hg hg2 hby hsb hsbb hsl hn
  go_enter Try.func10, Try.ntmps10
  go_wp2_with (first
    | (go_at_call 24; (with_reducible refine (k_awake _).mono ?_); rintro e w1 ⟨rfl, hb⟩; have HB := Aside0.mk (HB.out.later hb.out); have HW := hb; clear hb)
    | (go_at_call 30; (with_reducible refine (k_get HG.out HBY.out HN.out HB.out).mono ?_); rintro e w2 ⟨A13, c13, A14, c14, rfl, hs, hy, hb⟩; have hal := below_alloc (Below.refl w2.heap.size w2) (.cells #[.int .i64 a0, .int .i64 a1, .bool a2, .bool a3, .int .u32 a4, .int .u32 a5, .int .u32 a6, .int .u32 a7, .int .i64 a8, .int .i64 a9, .int .u32 a10, .int .u32 a11, .int .u32 a12, .slice A13 a13.length c13, .slice A14 a14.length c14] 41); have HB := Aside0.mk (HB.out.later hb.out); have HB := Aside0.mk (HB.out.later hal); have R1 := Aside0.mk (show Rec (w2.alloc (.cells #[.int .i64 a0, .int .i64 a1, .bool a2, .bool a3, .int .u32 a4, .int .u32 a5, .int .u32 a6, .int .u32 a7, .int .i64 a8, .int .i64 a9, .int .u32 a10, .int .u32 a11, .int .u32 a12, .slice A13 a13.length c13, .slice A14 a14.length c14] 41)) w2.heap.size #[.int .i64 a0, .int .i64 a1, .bool a2, .bool a3, .int .u32 a4, .int .u32 a5, .int .u32 a6, .int .u32 a7, .int .i64 a8, .int .i64 a9, .int .u32 a10, .int .u32 a11, .int .u32 a12, .slice A13 a13.length c13, .slice A14 a14.length c14] from blk_new w2 _); have HS1 := Aside0.mk (hs.out.later hal); have HY1 := Aside0.mk (hy.out.later hal); have HW := Aside0.mk (HW.out.trans (hb.out.mono HW.out.size)); have HW := Aside0.mk (HW.out.trans (hal.mono HW.out.size)); clear hs hy hb hal)
    | (go_at_call 31; (with_reducible refine (k_rget HG.out HBY.out HN.out HB.out).mono ?_); rintro e w3 ⟨B13, e13, B14, e14, rfl, hs, hy, hb⟩; have hal := below_alloc (Below.refl w3.heap.size w3) (.cells #[.int .i64 a0, .int .i64 a1, .bool a2, .bool a3, .int .u32 a4, .int .u32 a5, .int .u32 a6, .int .u32 a7, .int .i64 a8, .int .i64 a9, .int .u32 a10, .int .u32 a11, .int .u32 a12, .slice B13 a13.length e13, .slice B14 a14.length e14] 41); have HB := Aside0.mk (HB.out.later hb.out); have HS1 := Aside0.mk (HS1.out.later hb.out); have HY1 := Aside0.mk (HY1.out.later hb.out); have HB := Aside0.mk (HB.out.later hal); have HS1 := Aside0.mk (HS1.out.later hal); have HY1 := Aside0.mk (HY1.out.later hal); have R1 := Aside0.mk (show Rec (w3.alloc (.cells #[.int .i64 a0, .int .i64 a1, .bool a2, .bool a3, .int .u32 a4, .int .u32 a5, .int .u32 a6, .int .u32 a7, .int .i64 a8, .int .i64 a9, .int .u32 a10, .int .u32 a11, .int .u32 a12, .slice B13 a13.length e13, .slice B14 a14.length e14] 41)) w2.heap.size #[.int .i64 a0, .int .i64 a1, .bool a2, .bool a3, .int .u32 a4, .int .u32 a5, .int .u32 a6, .int .u32 a7, .int .i64 a8, .int .i64 a9, .int .u32 a10, .int .u32 a11, .int .u32 a12, .slice A13 a13.length c13, .slice A14 a14.length c14] from blk_alloc (blk_below R1.out hb.out) _); have R2 := Aside0.mk (show Rec (w3.alloc (.cells #[.int .i64 a0, .int .i64 a1, .bool a2, .bool a3, .int .u32 a4, .int .u32 a5, .int .u32 a6, .int .u32 a7, .int .i64 a8, .int .i64 a9, .int .u32 a10, .int .u32 a11, .int .u32 a12, .slice B13 a13.length e13, .slice B14 a14.length e14] 41)) w3.heap.size #[.int .i64 a0, .int .i64 a1, .bool a2, .bool a3, .int .u32 a4, .int .u32 a5, .int .u32 a6, .int .u32 a7, .int .i64 a8, .int .i64 a9, .int .u32 a10, .int .u32 a11, .int .u32 a12, .slice B13 a13.length e13, .slice B14 a14.length e14] from blk_new w3 _); have HS2 := Aside0.mk (hs.out.later hal); have HY2 := Aside0.mk (hy.out.later hal); have HW := Aside0.mk (HW.out.trans (hb.out.mono HW.out.size)); have HW := Aside0.mk (HW.out.trans (hal.mono HW.out.size)); clear hs hy hb hal; obtain ⟨s0, s1, s2, s3, s4, s5, s6, s7, s8, s9, s10, s11, s12, s13, s14⟩ := R1.out.all; obtain ⟨t0, t1, t2, t3, t4, t5, t6, t7, t8, t9, t10, t11, t12, t13, t14⟩ := R2.out.all)
    | (go_at_call 32; (with_reducible refine (k_wsame HSA.out HS1.out HY1.out HS2.out HY2.out).mono ?_); rintro e w4 ⟨rfl, hb⟩; have HB := Aside0.mk (HB.out.later hb.out); have HW := Aside0.mk (HW.out.trans (hb.out.mono HW.out.size)); clear hb s0 s1 s2 s3 s4 s5 s6 s7 s8 s9 s10 s11 s12 s13 s14 t0 t1 t2 t3 t4 t5 t6 t7 t8 t9 t10 t11 t12 t13 t14)
    | (go_at_call 19; (with_reducible refine (HSEAL.out _ _ _ HB.out).mono ?_); rintro e w5 ⟨A5, c5, rfl, hy, hb⟩; have HB := Aside0.mk (HB.out.later hb.out); have HQ := hy; have HW := Aside0.mk (HW.out.trans (hb.out.mono HW.out.size)); clear hb hy)
    | (go_at_call 30; (with_reducible refine (k_get HG2.out HSB.out HN2.out HQ.out).mono ?_); rintro e w6 ⟨C13, f13, C14, f14, rfl, hs, hy, hb⟩; have hal := below_alloc (Below.refl w6.heap.size w6) (.cells #[.int .i64 d0, .int .i64 d1, .bool d2, .bool d3, .int .u32 d4, .int .u32 d5, .int .u32 d6, .int .u32 d7, .int .i64 d8, .int .i64 d9, .int .u32 d10, .int .u32 d11, .int .u32 d12, .slice C13 d13.length f13, .slice C14 d14.length f14] 41); have HB := Aside0.mk (HB.out.later hb.out); have HB := Aside0.mk (HB.out.later hal); have R3 := Aside0.mk (show Rec (w6.alloc (.cells #[.int .i64 d0, .int .i64 d1, .bool d2, .bool d3, .int .u32 d4, .int .u32 d5, .int .u32 d6, .int .u32 d7, .int .i64 d8, .int .i64 d9, .int .u32 d10, .int .u32 d11, .int .u32 d12, .slice C13 d13.length f13, .slice C14 d14.length f14] 41)) w6.heap.size #[.int .i64 d0, .int .i64 d1, .bool d2, .bool d3, .int .u32 d4, .int .u32 d5, .int .u32 d6, .int .u32 d7, .int .i64 d8, .int .i64 d9, .int .u32 d10, .int .u32 d11, .int .u32 d12, .slice C13 d13.length f13, .slice C14 d14.length f14] from blk_new w6 _); have HS3 := Aside0.mk (hs.out.later hal); have HY3 := Aside0.mk (hy.out.later hal); have HW := Aside0.mk (HW.out.trans (hb.out.mono HW.out.size)); have HW := Aside0.mk (HW.out.trans (hal.mono HW.out.size)); clear hs hy hb hal)
    | (go_at_call 20; (with_reducible refine (HRSEAL.out _ _ _ HB.out).mono ?_); rintro e w7 ⟨A7, c7, rfl, hy, hb⟩; have HS3 := Aside0.mk (HS3.out.later hb.out); have HY3 := Aside0.mk (HY3.out.later hb.out); have R3 := Aside0.mk (show Rec w7 w6.heap.size #[.int .i64 d0, .int .i64 d1, .bool d2, .bool d3, .int .u32 d4, .int .u32 d5, .int .u32 d6, .int .u32 d7, .int .i64 d8, .int .i64 d9, .int .u32 d10, .int .u32 d11, .int .u32 d12, .slice C13 d13.length f13, .slice C14 d14.length f14] from blk_below R3.out hb.out); have HQ2 := hy; have HW := Aside0.mk (HW.out.trans (hb.out.mono HW.out.size)); clear hb hy)
    | (go_at_call 31; (with_reducible refine (k_rget HG2.out HSB.out HN2.out HQ2.out).mono ?_); rintro e w8 ⟨D13, g13, D14, g14, rfl, hs, hy, hb⟩; have hal := below_alloc (Below.refl w8.heap.size w8) (.cells #[.int .i64 d0, .int .i64 d1, .bool d2, .bool d3, .int .u32 d4, .int .u32 d5, .int .u32 d6, .int .u32 d7, .int .i64 d8, .int .i64 d9, .int .u32 d10, .int .u32 d11, .int .u32 d12, .slice D13 d13.length g13, .slice D14 d14.length g14] 41); have HS3 := Aside0.mk (HS3.out.later hb.out); have HY3 := Aside0.mk (HY3.out.later hb.out); have HS3 := Aside0.mk (HS3.out.later hal); have HY3 := Aside0.mk (HY3.out.later hal); have R3 := Aside0.mk (show Rec (w8.alloc (.cells #[.int .i64 d0, .int .i64 d1, .bool d2, .bool d3, .int .u32 d4, .int .u32 d5, .int .u32 d6, .int .u32 d7, .int .i64 d8, .int .i64 d9, .int .u32 d10, .int .u32 d11, .int .u32 d12, .slice D13 d13.length g13, .slice D14 d14.length g14] 41)) w6.heap.size #[.int .i64 d0, .int .i64 d1, .bool d2, .bool d3, .int .u32 d4, .int .u32 d5, .int .u32 d6, .int .u32 d7, .int .i64 d8, .int .i64 d9, .int .u32 d10, .int .u32 d11, .int .u32 d12, .slice C13 d13.length f13, .slice C14 d14.length f14] from blk_alloc (blk_below R3.out hb.out) _); have R4 := Aside0.mk (show Rec (w8.alloc (.cells #[.int .i64 d0, .int .i64 d1, .bool d2, .bool d3, .int .u32 d4, .int .u32 d5, .int .u32 d6, .int .u32 d7, .int .i64 d8, .int .i64 d9, .int .u32 d10, .int .u32 d11, .int .u32 d12, .slice D13 d13.length g13, .slice D14 d14.length g14] 41)) w8.heap.size #[.int .i64 d0, .int .i64 d1, .bool d2, .bool d3, .int .u32 d4, .int .u32 d5, .int .u32 d6, .int .u32 d7, .int .i64 d8, .int .i64 d9, .int .u32 d10, .int .u32 d11, .int .u32 d12, .slice D13 d13.length g13, .slice D14 d14.length g14] from blk_new w8 _); have HS4 := Aside0.mk (hs.out.later hal); have HY4 := Aside0.mk (hy.out.later hal); have HW := Aside0.mk (HW.out.trans (hb.out.mono HW.out.size)); have HW := Aside0.mk (HW.out.trans (hal.mono HW.out.size)); clear hs hy hb hal; obtain ⟨s0, s1, s2, s3, s4, s5, s6, s7, s8, s9, s10, s11, s12, s13, s14⟩ := R3.out.all; obtain ⟨t0, t1, t2, t3, t4, t5, t6, t7, t8, t9, t10, t11, t12, t13, t14⟩ := R4.out.all)
    | (go_at_call 32; (with_reducible refine (k_wsame HSD.out HS3.out HY3.out HS4.out HY4.out).mono ?_); rintro e w9 ⟨rfl, hb⟩; have HW := Aside0.mk (HW.out.trans (hb.out.mono HW.out.size)); clear hb))
  go_ret
  exact ⟨rfl, HW.out⟩
theorem gets_out (A : Option Addr) (c n : Nat) (w : World) (hn : ¬ n ≤ 2000) :
    Calls Try.prog 10 #[.slice A n c] w fun e w' => e = .returned (.bool true) ∧ Below w.heap.size w w' := by
  have hd : decide ((n : Int) > 2000) = true := decide_eq_true (by omega)
  have hd2 : decide ((2000 : Int) < (n : Int)) = true := decide_eq_true (by omega)
  go_enter Try.func10, Try.ntmps10
  go_wp2_with (go_at_call 24; (with_reducible refine (k_awake _).mono ?_); rintro e w1 ⟨rfl, hb⟩)
  go_ret
  exact ⟨rfl, hb.out⟩
theorem gets_all (A : Option Addr) (c : Nat) (b : List Int) (w : World) (h0 : By w A c b) (hby : Byt b) :
    Calls Try.prog 10 #[.slice A b.length c] w fun e w' => e = .returned (.bool true) ∧ Below w.heap.size w w' := by
  by_cases hn : b.length ≤ 2000
  · exact gets_in A c b w h0 hby hn
  · exact gets_out A c b.length w hn
end Go.Proofs.Ytbogmogimoleaaa.Given
