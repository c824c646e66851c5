/- The contracts that the laws over a segment take. -/
import Derived.Test.YtbogmogimoleaaaHLawA
import Derived.Test.YtbogmogimoleaaaOpens
import Derived.Deep.Fields
import Derived.Deep.Strs
namespace Go.Proofs.YtbogmogimoleaaaW.Opens
open Go.RowKit Go.ChangeShapes Go.WideShapes Go.Deep Go.Proofs.YtbogmogimoleaaaW.PrintWords Go.Proofs.YtbogmogimoleaaaW.PrintLast Go.Proofs.YtbogmogimoleaaaW.PrintMore
set_option maxHeartbeats 2000000 in
set_option maxRecDepth 100000 in
theorem open_fields15 {P : Program} {H : Type} {enc : TypeId × Value → H} {w : World} {base base' : Nat} {r : Reach} {spare : Nat → Bool} {held : Bool} {t : TypeId} {f0 f1 f2 f3 f4 f5 f6 f7 f8 f9 f10 f11 f12 f13 f14 : Field} {v : Value} {d : DataW H} {p : List MemPlace} (ht : P.underlying t = some (.struct #[f0, f1, f2, f3, f4, f5, f6, f7, f8, f9, f10, f11, f12, f13, f14])) (ho : oneCellFields P #[f0, f1, f2, f3, f4, f5, f6, f7, f8, f9, f10, f11, f12, f13, f14] = true) (hc : P.cellsOf t = 15)
    (hv : Value.okWide P w r base' t v) (h : DataW.Trod enc P w base spare held t v d p) : ∃ c0 c1 c2 c3 c4 c5 c6 c7 c8 c9 c10 c11 c12 c13 c14, v = .agg #[c0, c1, c2, c3, c4, c5, c6, c7, c8, c9, c10, c11, c12, c13, c14] ∧ (∃ m x, DataW.trod enc P w base spare held m f0.type [c0] = some x) ∧ (∃ m x, DataW.trod enc P w base spare held m f1.type [c1] = some x) ∧ (∃ m x, DataW.trod enc P w base spare held m f2.type [c2] = some x) ∧ (∃ m x, DataW.trod enc P w base spare held m f3.type [c3] = some x) ∧ (∃ m x, DataW.trod enc P w base spare held m f4.type [c4] = some x) ∧ (∃ m x, DataW.trod enc P w base spare held m f5.type [c5] = some x) ∧ (∃ m x, DataW.trod enc P w base spare held m f6.type [c6] = some x) ∧ (∃ m x, DataW.trod enc P w base spare held m f7.type [c7] = some x) ∧ (∃ m x, DataW.trod enc P w base spare held m f8.type [c8] = some x) ∧ (∃ m x, DataW.trod enc P w base spare held m f9.type [c9] = some x) ∧ (∃ m x, DataW.trod enc P w base spare held m f10.type [c10] = some x) ∧ (∃ m x, DataW.trod enc P w base spare held m f11.type [c11] = some x) ∧ (∃ m x, DataW.trod enc P w base spare held m f12.type [c12] = some x) ∧ (∃ m x, DataW.trod enc P w base spare held m f13.type [c13] = some x) ∧ (∃ m x, DataW.trod enc P w base spare held m f14.type [c14] = some x) := by
  obtain ⟨fuel, h⟩ := h
  obtain ⟨xs, n, _, _, hl, hlen, hf⟩ := DataW.trod_struct ht h
  obtain ⟨cs, rfl, hs⟩ := okWide_struct ht hv
  rw [hc] at hs
  obtain ⟨cs⟩ := cs
  match xs, hlen, cs, hs with
  | [y0, y1, y2, y3, y4, y5, y6, y7, y8, y9, y10, y11, y12, y13, y14], _, [c0, c1, c2, c3, c4, c5, c6, c7, c8, c9, c10, c11, c12, c13, c14], _ =>
    have a0 := hf 0 f0 rfl
    obtain ⟨o0, k0⟩ := hone_of ho 0 f0 rfl
    rw [o0, k0] at a0
    have a1 := hf 1 f1 rfl
    obtain ⟨o1, k1⟩ := hone_of ho 1 f1 rfl
    rw [o1, k1] at a1
    have a2 := hf 2 f2 rfl
    obtain ⟨o2, k2⟩ := hone_of ho 2 f2 rfl
    rw [o2, k2] at a2
    have a3 := hf 3 f3 rfl
    obtain ⟨o3, k3⟩ := hone_of ho 3 f3 rfl
    rw [o3, k3] at a3
    have a4 := hf 4 f4 rfl
    obtain ⟨o4, k4⟩ := hone_of ho 4 f4 rfl
    rw [o4, k4] at a4
    have a5 := hf 5 f5 rfl
    obtain ⟨o5, k5⟩ := hone_of ho 5 f5 rfl
    rw [o5, k5] at a5
    have a6 := hf 6 f6 rfl
    obtain ⟨o6, k6⟩ := hone_of ho 6 f6 rfl
    rw [o6, k6] at a6
    have a7 := hf 7 f7 rfl
    obtain ⟨o7, k7⟩ := hone_of ho 7 f7 rfl
    rw [o7, k7] at a7
    have a8 := hf 8 f8 rfl
    obtain ⟨o8, k8⟩ := hone_of ho 8 f8 rfl
    rw [o8, k8] at a8
    have a9 := hf 9 f9 rfl
    obtain ⟨o9, k9⟩ := hone_of ho 9 f9 rfl
    rw [o9, k9] at a9
    have a10 := hf 10 f10 rfl
    obtain ⟨o10, k10⟩ := hone_of ho 10 f10 rfl
    rw [o10, k10] at a10
    have a11 := hf 11 f11 rfl
    obtain ⟨o11, k11⟩ := hone_of ho 11 f11 rfl
    rw [o11, k11] at a11
    have a12 := hf 12 f12 rfl
    obtain ⟨o12, k12⟩ := hone_of ho 12 f12 rfl
    rw [o12, k12] at a12
    have a13 := hf 13 f13 rfl
    obtain ⟨o13, k13⟩ := hone_of ho 13 f13 rfl
    rw [o13, k13] at a13
    have a14 := hf 14 f14 rfl
    obtain ⟨o14, k14⟩ := hone_of ho 14 f14 rfl
    rw [o14, k14] at a14
    exact ⟨c0, c1, c2, c3, c4, c5, c6, c7, c8, c9, c10, c11, c12, c13, c14, rfl, ⟨n, _, a0⟩, ⟨n, _, a1⟩, ⟨n, _, a2⟩, ⟨n, _, a3⟩, ⟨n, _, a4⟩, ⟨n, _, a5⟩, ⟨n, _, a6⟩, ⟨n, _, a7⟩, ⟨n, _, a8⟩, ⟨n, _, a9⟩, ⟨n, _, a10⟩, ⟨n, _, a11⟩, ⟨n, _, a12⟩, ⟨n, _, a13⟩, ⟨n, _, a14⟩⟩
/-- A struct of two one-cell fields, as an element. -/
theorem opens_pair {α β γ : Type} {P : Program} {t : TypeId} {f0 f1 : Field} {d0 : Kd α} {d1 : Kd β} {w0 : α → Prop} {w1 : β → Prop} (g : γ → α × β) (g' : α × β → γ) (hg : ∀ x, g (g' x) = x) (ht : P.underlying t = some (.struct #[f0, f1])) (ho : oneCellFields P #[f0, f1] = true) (hc : P.cellsOf t = 2)
    (h0 : Opens P d0 f0.type w0) (h1 : Opens P d1 f1.type w1) : Opens P (Kd.iso (Kd.pair d0 d1) g) t (fun x => w0 (g x).1 ∧ w1 (g x).2) := by
  intro H enc w base spare held fuel cs x h
  obtain ⟨y0, y1, n, _, hl, a0, a1⟩ := trod_struct2 ht h
  obtain ⟨o0, k0⟩ := hone_of ho 0 f0 rfl
  obtain ⟨o1, k1⟩ := hone_of ho 1 f1 rfl
  rw [o0, k0] at a0
  rw [o1, k1] at a1
  rw [hc] at hl
  match cs, hl with
  | [c0, c1], _ =>
    obtain ⟨x0, e0, wf0⟩ := h0 enc w base spare held n [c0] _ a0
    obtain ⟨x1, e1, wf1⟩ := h1 enc w base spare held n [c1] _ a1
    refine ⟨g' (x0, x1), ?_, ?_⟩
    · show (Kd.pair d0 d1).K w (g (g' (x0, x1))) [c0, c1]
      rw [hg]
      exact ⟨[c0], [c1], rfl, e0, e1⟩
    · show w0 (g (g' (x0, x1))).1 ∧ w1 (g (g' (x0, x1))).2
      rw [hg]
      exact ⟨wf0, wf1⟩
end Go.Proofs.YtbogmogimoleaaaW.Opens
namespace Go.Proofs.Ytbogmogimoleaaa.Given
open Go.RowKit Go.Proofs.YtbogmogimoleaaaW.PrintWords Go.Proofs.YtbogmogimoleaaaW.PrintLast Go.Proofs.YtbogmogimoleaaaW.PrintMore Go.Proofs.Ytbogmogimoleaaa.W Go.Proofs.Ytbogmogimoleaaa.Plain7
set_option linter.unusedVariables false
set_option linter.unusedSimpArgs false
theorem k_light' {a0 : Int} {a1 : Int} {a2 : Bool} {a3 : Bool} {a4 : Int} {a5 : Int} {a6 : Int} {a7 : Int} {a8 : Int} {a9 : Int} {a10 : Int} {a11 : Int} {a12 : Int} {a13 : List S58} {a14 : List Int} {L : Bool} (hL : lightB ⟨a0, a1, a2, a3, a4, a5, a6, a7, a8, a9, a10, a11, a12, a13, a14⟩ = L) {A13 A14 : Option Addr} {c13 c14 : Nat} {w : World} (h13 : Sk w A13 c13 a13) (h14 : By w A14 c14 a14) :
    Calls Try.prog 25 #[.agg #[.int .i64 a0, .int .i64 a1, .bool a2, .bool a3, .int .u32 a4, .int .u32 a5, .int .u32 a6, .int .u32 a7, .int .i64 a8, .int .i64 a9, .int .u32 a10, .int .u32 a11, .int .u32 a12, .slice A13 a13.length c13, .slice A14 a14.length c14]] w fun e w' => e = .returned (.bool L) ∧ Aside0 (Below w.heap.size w w') := by
  subst hL; exact k_light ⟨a0, a1, a2, a3, a4, a5, a6, a7, a8, a9, a10, a11, a12, a13, a14⟩ h13 h14
theorem k_may' {a0 : Int} {a1 : Int} {a2 : Bool} {a3 : Bool} {a4 : Int} {a5 : Int} {a6 : Int} {a7 : Int} {a8 : Int} {a9 : Int} {a10 : Int} {a11 : Int} {a12 : Int} {a13 : List S58} {a14 : List Int} {L : Bool} (hL : mayB ⟨a0, a1, a2, a3, a4, a5, a6, a7, a8, a9, a10, a11, a12, a13, a14⟩ = L) {A13 A14 : Option Addr} {c13 c14 : Nat} {w : World} (h13 : Sk w A13 c13 a13) (h14 : By w A14 c14 a14) :
    Calls Try.prog 28 #[.agg #[.int .i64 a0, .int .i64 a1, .bool a2, .bool a3, .int .u32 a4, .int .u32 a5, .int .u32 a6, .int .u32 a7, .int .i64 a8, .int .i64 a9, .int .u32 a10, .int .u32 a11, .int .u32 a12, .slice A13 a13.length c13, .slice A14 a14.length c14]] w fun e w' => e = .returned (.bool L) ∧ Aside0 (Below w.heap.size w w') := by
  subst hL; exact k_may ⟨a0, a1, a2, a3, a4, a5, a6, a7, a8, a9, a10, a11, a12, a13, a14⟩ h13 h14
theorem k_rmay' {a0 : Int} {a1 : Int} {a2 : Bool} {a3 : Bool} {a4 : Int} {a5 : Int} {a6 : Int} {a7 : Int} {a8 : Int} {a9 : Int} {a10 : Int} {a11 : Int} {a12 : Int} {a13 : List S58} {a14 : List Int} {L : Bool} (hL : mayB ⟨a0, a1, a2, a3, a4, a5, a6, a7, a8, a9, a10, a11, a12, a13, a14⟩ = L) {A13 A14 : Option Addr} {c13 c14 : Nat} {w : World} (h13 : Sk w A13 c13 a13) (h14 : By w A14 c14 a14) :
    Calls Try.prog 29 #[.agg #[.int .i64 a0, .int .i64 a1, .bool a2, .bool a3, .int .u32 a4, .int .u32 a5, .int .u32 a6, .int .u32 a7, .int .i64 a8, .int .i64 a9, .int .u32 a10, .int .u32 a11, .int .u32 a12, .slice A13 a13.length c13, .slice A14 a14.length c14]] w fun e w' => e = .returned (.bool L) ∧ Aside0 (Below w.heap.size w w') := by
  subst hL; exact k_rmay ⟨a0, a1, a2, a3, a4, a5, a6, a7, a8, a9, a10, a11, a12, a13, a14⟩ h13 h14
theorem k_self {l : List Int} (hn : l.length ≤ 1000000) {A A1 : Option Addr} {c c1 : Nat} {w : World} (hp : By w A c l) (hp1 : By w A1 c1 l) :
    Calls Try.prog 18 #[.slice A l.length c, .slice A1 l.length c1] w fun e w' => e = .returned (.bool true) ∧ Aside0 (Below w.heap.size w w') := by
  have h := k_same hn hp hp1
  rw [decide_eq_true rfl] at h
  exact h
theorem light_lens {a0 : Int} {a1 : Int} {a2 : Bool} {a3 : Bool} {a4 : Int} {a5 : Int} {a6 : Int} {a7 : Int} {a8 : Int} {a9 : Int} {a10 : Int} {a11 : Int} {a12 : Int} {a13 : List S58} {a14 : List Int} (h : lightB ⟨a0, a1, a2, a3, a4, a5, a6, a7, a8, a9, a10, a11, a12, a13, a14⟩ = true) : a13.length ≤ 50 ∧ a14.length ≤ 1600 := by
  unfold lightB at h
  rw [Bool.and_eq_true, decide_eq_true_eq, decide_eq_true_eq] at h
  obtain ⟨h1, h2⟩ := h
  simp only at h1 h2
  exact ⟨by omega, by omega⟩
theorem put_len {a0 : Int} {a1 : Int} {a2 : Bool} {a3 : Bool} {a4 : Int} {a5 : Int} {a6 : Int} {a7 : Int} {a8 : Int} {a9 : Int} {a10 : Int} {a11 : Int} {a12 : Int} {a13 : List S58} {a14 : List Int} {out : List Int} {err : Int} (hp : putB ⟨a0, a1, a2, a3, a4, a5, a6, a7, a8, a9, a10, a11, a12, a13, a14⟩ = (out, err)) (h : lightB ⟨a0, a1, a2, a3, a4, a5, a6, a7, a8, a9, a10, a11, a12, a13, a14⟩ = true) : out.length ≤ 3000 := by
  obtain ⟨h1, h2⟩ := light_lens h
  unfold putB at hp
  split at hp
  · obtain ⟨rfl, _⟩ := Prod.mk.inj hp
    rw [seald_len, outB_len]; simp only; omega
  · obtain ⟨rfl, _⟩ := Prod.mk.inj hp
    decide
theorem put_byt {a0 : Int} {a1 : Int} {a2 : Bool} {a3 : Bool} {a4 : Int} {a5 : Int} {a6 : Int} {a7 : Int} {a8 : Int} {a9 : Int} {a10 : Int} {a11 : Int} {a12 : Int} {a13 : List S58} {a14 : List Int} {out : List Int} {err : Int} (hp : putB ⟨a0, a1, a2, a3, a4, a5, a6, a7, a8, a9, a10, a11, a12, a13, a14⟩ = (out, err)) (h : okS ⟨a0, a1, a2, a3, a4, a5, a6, a7, a8, a9, a10, a11, a12, a13, a14⟩) : Byt out := by
  unfold putB at hp
  split at hp
  · obtain ⟨rfl, _⟩ := Prod.mk.inj hp
    exact seald_byt (outB_byt h)
  · obtain ⟨rfl, _⟩ := Prod.mk.inj hp
    intro c hc; cases hc
end Go.Proofs.Ytbogmogimoleaaa.Given
