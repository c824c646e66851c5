/- Put in plain words, and the walk of awake. -/
import Derived.Test.YtbogmogimoleaaaHPlainF
namespace Go.Proofs.Ytbogmogimoleaaa.Given
open Go.RowKit Go.Proofs.YtbogmogimoleaaaW.PrintWords Go.Proofs.YtbogmogimoleaaaW.PrintLast Go.Proofs.YtbogmogimoleaaaW.PrintMore Go.Proofs.Ytbogmogimoleaaa.W Go.Proofs.Ytbogmogimoleaaa.Plain7
set_option linter.unusedVariables false
set_option linter.unusedSimpArgs false
theorem k_sput {a0 : Int} {a1 : Int} {a2 : Bool} {a3 : Bool} {a4 : Int} {a5 : Int} {a6 : Int} {a7 : Int} {a8 : Int} {a9 : Int} {a10 : Int} {a11 : Int} {a12 : Int} {l13 : List S58} {l14 : List Int} {out : List Int} {err : Int} (hp : putB ⟨a0, a1, a2, a3, a4, a5, a6, a7, a8, a9, a10, a11, a12, l13, l14⟩ = (out, err)) (ho : okS ⟨a0, a1, a2, a3, a4, a5, a6, a7, a8, a9, a10, a11, a12, l13, l14⟩) {A13 : Option Addr} {c13 : Nat} {A14 : Option Addr} {c14 : Nat} {w : World} (h13 : Sk w A13 c13 l13) (h14 : By w A14 c14 l14) :
    Calls Try.prog 26 #[.agg #[.int .i64 a0, .int .i64 a1, .bool a2, .bool a3, .int .u32 a4, .int .u32 a5, .int .u32 a6, .int .u32 a7, .int .i64 a8, .int .i64 a9, .int .u32 a10, .int .u32 a11, .int .u32 a12, .slice A13 l13.length c13, .slice A14 l14.length c14]] w fun e w' => ∃ (A : Option Addr) (c : Nat), e = .returned (.tuple #[.slice A out.length c, .int .i64 err]) ∧ Aside0 (By w' A c out) ∧ Aside0 (Below w.heap.size w w') := by
  unfold putB at hp
  by_cases hm : mayB ⟨a0, a1, a2, a3, a4, a5, a6, a7, a8, a9, a10, a11, a12, l13, l14⟩ = true
  · rw [if_pos hm] at hp
    obtain ⟨h1, h2⟩ := Prod.mk.inj hp
    subst h1 h2
    refine (sput_yes _ _ _ _ _ _ _ _ _ _ _ _ _ l13 l14 hm ho A13 c13 A14 c14 w h13 h14).mono ?_
    rintro e w' ⟨A, c, rfl, h3, h4⟩
    exact ⟨A, c, rfl, ⟨h3⟩, ⟨h4⟩⟩
  · rw [if_neg hm] at hp
    obtain ⟨h1, h2⟩ := Prod.mk.inj hp
    subst h1 h2
    refine (sput_no _ _ _ _ _ _ _ _ _ _ _ _ _ l13 l14 (by simpa using hm) A13 c13 A14 c14 w h13 h14).mono ?_
    rintro e w' ⟨rfl, h4⟩
    exact ⟨none, 0, rfl, ⟨By.none _⟩, ⟨h4⟩⟩
theorem k_rput {a0 : Int} {a1 : Int} {a2 : Bool} {a3 : Bool} {a4 : Int} {a5 : Int} {a6 : Int} {a7 : Int} {a8 : Int} {a9 : Int} {a10 : Int} {a11 : Int} {a12 : Int} {l13 : List S58} {l14 : List Int} {out : List Int} {err : Int} (hp : putB ⟨a0, a1, a2, a3, a4, a5, a6, a7, a8, a9, a10, a11, a12, l13, l14⟩ = (out, err)) (ho : okS ⟨a0, a1, a2, a3, a4, a5, a6, a7, a8, a9, a10, a11, a12, l13, l14⟩) {A13 : Option Addr} {c13 : Nat} {A14 : Option Addr} {c14 : Nat} {w : World} (h13 : Sk w A13 c13 l13) (h14 : By w A14 c14 l14) :
    Calls Try.prog 27 #[.agg #[.int .i64 a0, .int .i64 a1, .bool a2, .bool a3, .int .u32 a4, .int .u32 a5, .int .u32 a6, .int .u32 a7, .int .i64 a8, .int .i64 a9, .int .u32 a10, .int .u32 a11, .int .u32 a12, .slice A13 l13.length c13, .slice A14 l14.length c14]] w fun e w' => ∃ (A : Option Addr) (c : Nat), e = .returned (.tuple #[.slice A out.length c, .int .i64 err]) ∧ Aside0 (By w' A c out) ∧ Aside0 (Below w.heap.size w w') := by
  have hf := rput_eq ⟨a0, a1, a2, a3, a4, a5, a6, a7, a8, a9, a10, a11, a12, l13, l14⟩ ho 20200 (Nat.le_refl _)
  rw [show (if mayB (⟨a0, a1, a2, a3, a4, a5, a6, a7, a8, a9, a10, a11, a12, l13, l14⟩ : Sg) = true then (seald (outB ⟨a0, a1, a2, a3, a4, a5, a6, a7, a8, a9, a10, a11, a12, l13, l14⟩), (0 : Int)) else ([], 1)) = (out, err) from hp] at hf
  refine (fourinhandref07_Put.calls 20200 a0 a1 a2 a3 a4 a5 a6 a7 a8 a9 a10 a11 a12 A13 c13 l13 A14 c14 l14 out err w h13.1 h13.2 h14.1 h14.2 hf).mono ?_
  rintro e w' ⟨v, rfl, hr, hb⟩
  obtain ⟨A, c, rfl⟩ := Kd.R_slice hr
  exact ⟨A, c, rfl, ⟨By.of hr⟩, ⟨hb⟩⟩
def s0 : Sg := ⟨4, 1, false, false, 0, 0, 0, 0, 0, 0, 0, 0, 0, [], []⟩
theorem s0_ok : okS s0 := by
  refine ⟨?_, ?_, ?_, ?_, ?_, ?_, ?_, ?_, ?_⟩
  all_goals first | exact ⟨by decide, by decide⟩ | (intro p hp; cases hp)
theorem s0_may : mayB s0 = true := by decide
theorem s0_len : (seald (outB s0)).length = 36 := by rw [seald_len, outB_len]; rfl
theorem s0_four : rd (seald (outB s0)) 4 = 65 := by
  have h : (seald (outB s0)).drop 4 = outB s0 := seald_drop _
  have h2 : rd (seald (outB s0)) 4 = rd ((seald (outB s0)).drop 4) 0 := by
    unfold rd
    simp [List.getD_eq_getElem?_getD]
  rw [h2, h, out_eq, be1]
  rfl
set_option maxHeartbeats 4000000 in
set_option maxRecDepth 100000 in
theorem k_awake (w : World) : Calls Try.prog 24 #[] w fun e w' => e = .returned (.bool true) ∧ Aside0 (Below w.heap.size w w') := by
  have hput : Calls Try.prog 26 #[.agg #[.int .i64 4, .int .i64 1, .bool false, .bool false, .int .u32 0, .int .u32 0, .int .u32 0, .int .u32 0, .int .i64 0, .int .i64 0, .int .u32 0, .int .u32 0, .int .u32 0, .slice none 0 0, .slice none 0 0]] w fun e w' => ∃ (A : Option Addr) (c : Nat), e = .returned (.tuple #[.slice A 36 c, .int .i64 0]) ∧ Aside0 (By w' A c (seald (outB s0))) ∧ Aside0 (Below w.heap.size w w') := by
    have hp : putB s0 = (seald (outB s0), 0) := by unfold putB; rw [if_pos s0_may]
    refine (k_sput hp s0_ok (Sk.none w) (By.none w)).mono ?_
    rintro e w' ⟨A, c, rfl, h1, h2⟩
    rw [s0_len]
    exact ⟨A, c, rfl, h1, h2⟩
  have hget : Aside0 (∀ (W : World) (A : Option Addr) (c : Nat), By W A c (seald (outB s0)) → Calls Try.prog 30 #[.slice A 36 c] W fun e w' => ∃ A13 c13 A14 c14, e = .returned (.tuple #[.agg #[.int .i64 4, .int .i64 1, .bool false, .bool false, .int .u32 0, .int .u32 0, .int .u32 0, .int .u32 0, .int .i64 0, .int .i64 0, .int .u32 0, .int .u32 0, .int .u32 0, .slice A13 0 c13, .slice A14 0 c14], .int .i64 0]) ∧ Aside0 (Sk w' A13 c13 []) ∧ Aside0 (By w' A14 c14 []) ∧ Aside0 (Below W.heap.size W w')) := ⟨fun W A c h => by
    have := k_get (get_put s0 s0_ok s0_may) (seald_byt (outB_byt s0_ok)) (by rw [s0_len]; decide) h
    rw [s0_len] at this
    exact this⟩
  have hmay : Aside0 (∀ (W : World) (A13 : Option Addr) (c13 : Nat) (A14 : Option Addr) (c14 : Nat), Sk W A13 c13 [] → By W A14 c14 [] → Calls Try.prog 28 #[.agg #[.int .i64 4, .int .i64 1, .bool false, .bool false, .int .u32 0, .int .u32 0, .int .u32 0, .int .u32 0, .int .i64 0, .int .i64 0, .int .u32 0, .int .u32 0, .int .u32 0, .slice A13 0 c13, .slice A14 0 c14]] W fun e w' => e = .returned (.bool true) ∧ Aside0 (Below W.heap.size W w')) := ⟨fun W A13 c13 A14 c14 h1 h2 => by
    have := k_may s0 h1 h2
    rw [s0_may] at this
    exact this⟩
  have HPUT := Aside0.mk hput
  clear hput
  go_enter Try.func24, Try.ntmps24
  go_wp2_with (first
    | (go_at_call 26; (with_reducible refine HPUT.out.mono ?_); rintro e w1 ⟨A1, c1, rfl, hby, hb1⟩)
    | (go_at_call 30; (with_reducible refine (hget.out _ _ _ hby.out).mono ?_); rintro e w2 ⟨A13, c13, A14, c14, rfl, hs2, hy2, hb2⟩; have hal := below_alloc (Below.refl w2.heap.size w2) (.cells #[.int .i64 4, .int .i64 1, .bool false, .bool false, .int .u32 0, .int .u32 0, .int .u32 0, .int .u32 0, .int .i64 0, .int .i64 0, .int .u32 0, .int .u32 0, .int .u32 0, .slice A13 0 c13, .slice A14 0 c14] 41); have hrec := Aside0.mk (show Rec (w2.alloc (.cells #[.int .i64 4, .int .i64 1, .bool false, .bool false, .int .u32 0, .int .u32 0, .int .u32 0, .int .u32 0, .int .i64 0, .int .i64 0, .int .u32 0, .int .u32 0, .int .u32 0, .slice A13 0 c13, .slice A14 0 c14] 41)) w2.heap.size #[.int .i64 4, .int .i64 1, .bool false, .bool false, .int .u32 0, .int .u32 0, .int .u32 0, .int .u32 0, .int .i64 0, .int .i64 0, .int .u32 0, .int .u32 0, .int .u32 0, .slice A13 0 c13, .slice A14 0 c14] from blk_new w2 _); obtain ⟨z0, z1, z2, z3, z4, z5, z6, z7, z8, z9, z10, z11, z12, z13, z14⟩ := hrec.out.all; obtain ⟨ad, e4, h4⟩ := Kd.at_int (hby.out.later hb2.out).1 4 (by decide) (by rw [s0_len]; decide); subst e4; rw [s0_four] at h4; replace h4 : w2.cell? ⟨ad.block, ad.off + 4, none⟩ = some (.int .u8 65) := h4; replace h4 := (hal.cell (World.block_lt_of_cell? w2 _ h4)).trans h4; have HS := Aside0.mk (hs2.out.later hal); have HY := Aside0.mk (hy2.out.later hal); have HAL := Aside0.mk hal; clear hal)
    | (go_at_call 28; (with_reducible refine (hmay.out _ _ _ _ _ HS.out HY.out).mono ?_); rintro e w3 ⟨rfl, hb3⟩))
  go_ret
  exact ⟨rfl, ⟨((hb1.out.trans (hb2.out.mono hb1.out.size)).trans (HAL.out.mono (Nat.le_trans hb1.out.size hb2.out.size))).trans (hb3.out.mono (Nat.le_trans (Nat.le_trans hb1.out.size hb2.out.size) HAL.out.size))⟩⟩
end Go.Proofs.Ytbogmogimoleaaa.Given
