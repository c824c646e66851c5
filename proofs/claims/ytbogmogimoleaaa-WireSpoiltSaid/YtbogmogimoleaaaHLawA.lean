/- The contracts that the laws of segments take. -/
import Derived.Test.YtbogmogimoleaaaHAwake
namespace Go.Proofs.Ytbogmogimoleaaa.Given
open Go.RowKit Go.Proofs.YtbogmogimoleaaaW.PrintWords Go.Proofs.YtbogmogimoleaaaW.PrintLast Go.Proofs.YtbogmogimoleaaaW.PrintMore Go.Proofs.Ytbogmogimoleaaa.W Go.Proofs.Ytbogmogimoleaaa.Plain7
set_option linter.unusedVariables false
set_option linter.unusedSimpArgs false
def lightB (s : Sg) : Bool := decide ((s.l14.length : Int) ≤ 1600) && decide ((s.l13.length : Int) ≤ 50)
theorem k_light (s : Sg) {A13 A14 : Option Addr} {c13 c14 : Nat} {w : World} (h13 : Sk w A13 c13 s.l13) (h14 : By w A14 c14 s.l14) :
    Calls Try.prog 25 #[.agg #[.int .i64 s.a0, .int .i64 s.a1, .bool s.a2, .bool s.a3, .int .u32 s.a4, .int .u32 s.a5, .int .u32 s.a6, .int .u32 s.a7, .int .i64 s.a8, .int .i64 s.a9, .int .u32 s.a10, .int .u32 s.a11, .int .u32 s.a12, .slice A13 s.l13.length c13, .slice A14 s.l14.length c14]] w fun e w' => e = .returned (.bool (lightB s)) ∧ Aside0 (Below w.heap.size w w') := by
  have hf : fourinhandlaw07_light.f s.a0 s.a1 s.a2 s.a3 s.a4 s.a5 s.a6 s.a7 s.a8 s.a9 s.a10 s.a11 s.a12 s.l13 s.l14 = some (lightB s) := by
    unfold fourinhandlaw07_light.f lightB
    by_cases h1 : (s.l14.length : Int) ≤ 1600 <;> simp [h1]
  exact (fourinhandlaw07_light.calls s.a0 s.a1 s.a2 s.a3 s.a4 s.a5 s.a6 s.a7 s.a8 s.a9 s.a10 s.a11 s.a12 A13 c13 s.l13 A14 c14 s.l14 (lightB s) w h13.1 h13.2 h14.1 h14.2 hf).mono fun e w' ⟨h1, h2⟩ => ⟨h1, ⟨h2⟩⟩
theorem k_wsame {a0 : Int} {a1 : Int} {a2 : Bool} {a3 : Bool} {a4 : Int} {a5 : Int} {a6 : Int} {a7 : Int} {a8 : Int} {a9 : Int} {a10 : Int} {a11 : Int} {a12 : Int} {a13 : List S58} {a14 : List Int} {d0 : Int} {d1 : Int} {d2 : Bool} {d3 : Bool} {d4 : Int} {d5 : Int} {d6 : Int} {d7 : Int} {d8 : Int} {d9 : Int} {d10 : Int} {d11 : Int} {d12 : Int} {d13 : List S58} {d14 : List Int} {r : Bool} (hr : fourinhandref07_Same.f 1100010 a0 a1 a2 a3 a4 a5 a6 a7 a8 a9 a10 a11 a12 a13 a14 d0 d1 d2 d3 d4 d5 d6 d7 d8 d9 d10 d11 d12 d13 d14 = some r) {A13 A14 B13 B14 : Option Addr} {c13 c14 e13 e14 : Nat} {w : World} (h13 : Sk w A13 c13 a13) (h14 : By w A14 c14 a14) (k13 : Sk w B13 e13 d13) (k14 : By w B14 e14 d14) :
    Calls Try.prog 32 #[.agg #[.int .i64 a0, .int .i64 a1, .bool a2, .bool a3, .int .u32 a4, .int .u32 a5, .int .u32 a6, .int .u32 a7, .int .i64 a8, .int .i64 a9, .int .u32 a10, .int .u32 a11, .int .u32 a12, .slice A13 a13.length c13, .slice A14 a14.length c14], .agg #[.int .i64 d0, .int .i64 d1, .bool d2, .bool d3, .int .u32 d4, .int .u32 d5, .int .u32 d6, .int .u32 d7, .int .i64 d8, .int .i64 d9, .int .u32 d10, .int .u32 d11, .int .u32 d12, .slice B13 d13.length e13, .slice B14 d14.length e14]] w fun e w' => e = .returned (.bool r) ∧ Aside0 (Below w.heap.size w w') :=
  (fourinhandref07_Same.calls 1100010 a0 a1 a2 a3 a4 a5 a6 a7 a8 a9 a10 a11 a12 A13 c13 a13 A14 c14 a14 d0 d1 d2 d3 d4 d5 d6 d7 d8 d9 d10 d11 d12 B13 e13 d13 B14 e14 d14 r w h13.1 h13.2 h14.1 h14.2 k13.1 k13.2 k14.1 k14.2 hr).mono fun e w' ⟨h1, h2⟩ => ⟨h1, ⟨h2⟩⟩
theorem get_lens (b : List Int) (x : Sg) (e : Int) (hg : getB b = (x, e)) (hn : b.length ≤ 1000000) : x.l13.length ≤ 100000 ∧ x.l14.length ≤ 1000000 := by
  unfold getB at hg
  have hol := opnd_len b
  by_cases h0 : (opnd b).2 = 0
  · rw [if_pos h0] at hg
    by_cases h : (enoughB (opnd b).1 && mayB (segOf (opnd b).1)) = true
    · rw [if_pos h] at hg
      obtain ⟨h1, h2⟩ := Prod.mk.inj hg
      subst h1
      rw [Bool.and_eq_true] at h
      have hp := may_parts (a0 := (segOf (opnd b).1).a0) (a1 := (segOf (opnd b).1).a1) (a2 := (segOf (opnd b).1).a2) (a3 := (segOf (opnd b).1).a3) (a4 := (segOf (opnd b).1).a4) (a5 := (segOf (opnd b).1).a5) (a6 := (segOf (opnd b).1).a6) (a7 := (segOf (opnd b).1).a7) (a8 := (segOf (opnd b).1).a8) (a9 := (segOf (opnd b).1).a9) (a10 := (segOf (opnd b).1).a10) (a11 := (segOf (opnd b).1).a11) (a12 := (segOf (opnd b).1).a12) (l13 := (segOf (opnd b).1).l13) (l14 := (segOf (opnd b).1).l14) h.2
      obtain ⟨_, _, _, _, _, _, _, _, _, m9, m10⟩ := hp
      exact ⟨by omega, by omega⟩
    · rw [if_neg h] at hg
      obtain ⟨h1, h2⟩ := Prod.mk.inj hg
      subst h1
      exact ⟨by decide, by decide⟩
  · rw [if_neg h0] at hg
    obtain ⟨h1, h2⟩ := Prod.mk.inj hg
    subst h1
    exact ⟨by decide, by decide⟩
theorem get_same (b : List Int) (x : Sg) (e : Int) (hg : getB b = (x, e)) (hn : b.length ≤ 1000000) : fourinhandref07_Same.f 1100010 x.a0 x.a1 x.a2 x.a3 x.a4 x.a5 x.a6 x.a7 x.a8 x.a9 x.a10 x.a11 x.a12 x.l13 x.l14 x.a0 x.a1 x.a2 x.a3 x.a4 x.a5 x.a6 x.a7 x.a8 x.a9 x.a10 x.a11 x.a12 x.l13 x.l14 = some true := by
  obtain ⟨h1, h2⟩ := get_lens b x e hg hn
  obtain ⟨r, h3, h4⟩ := same_f x x 1100010 (Nat.le_refl _) h1 h2
  rw [h3, h4 rfl]
end Go.Proofs.Ytbogmogimoleaaa.Given
