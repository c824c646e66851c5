/- What can be read, and the contracts of some functions in plain words. -/
import Derived.Test.YtbogmogimoleaaaHGot
import Derived.Test.YtbogmogimoleaaaHPlainA
namespace Go.Proofs.Ytbogmogimoleaaa.Given
open Go.RowKit Go.Proofs.YtbogmogimoleaaaW.PrintWords Go.Proofs.YtbogmogimoleaaaW.PrintLast Go.Proofs.YtbogmogimoleaaaW.PrintMore Go.Proofs.Ytbogmogimoleaaa.W Go.Proofs.Ytbogmogimoleaaa.Plain7
set_option linter.unusedVariables false
set_option linter.unusedSimpArgs false
structure Sg where
  a0 : Int
  a1 : Int
  a2 : Bool
  a3 : Bool
  a4 : Int
  a5 : Int
  a6 : Int
  a7 : Int
  a8 : Int
  a9 : Int
  a10 : Int
  a11 : Int
  a12 : Int
  l13 : List S58
  l14 : List Int
def zSg : Sg := ⟨0, 0, false, false, 0, 0, 0, 0, 0, 0, 0, 0, 0, [], []⟩
def segOf (bs : List Int) : Sg := ⟨num bs 0 1 / 16, num bs 0 1 % 16, (bits BinOp.and IntKind.i64 (num bs 1 1) 1 != 0), (bits BinOp.and IntKind.i64 (num bs 1 1) 2 != 0), num bs 4 4, num bs 8 4, num bs 12 4, num bs 16 4, num bs 2 2, num bs 1 1 / 4, num bs 20 3, num bs 23 4, num bs 27 4, sacksB bs (num bs 31 1).toNat, bs.drop (32 + 8 * (num bs 31 1).toNat)⟩
theorem segOf_is (bs : List Int) : SegIs bs (segOf bs).a0 (segOf bs).a1 (segOf bs).a2 (segOf bs).a3 (segOf bs).a4 (segOf bs).a5 (segOf bs).a6 (segOf bs).a7 (segOf bs).a8 (segOf bs).a9 (segOf bs).a10 (segOf bs).a11 (segOf bs).a12 (segOf bs).l13 (segOf bs).l14 := ⟨rfl, rfl, rfl, rfl, rfl, rfl, rfl, rfl, rfl, rfl, rfl, rfl, rfl, rfl, rfl⟩
def inB (n h : Int) : Bool := decide (0 ≤ n ∧ n ≤ h)
def mayB (s : Sg) : Bool := inB s.a0 4 && (inB s.a1 3 && (inB s.a8 65535 && (inB s.a9 7 && (decide (s.a10 < 16777216) && (decide ((s.l13.length : Int) ≤ 3) && decide ((s.l14.length : Int) ≤ 1460))))))
theorem if_bool (b y : Bool) : (if b = true then some y else some false) = some (b && y) := by cases b <;> rfl
theorem if_dec (p : Prop) [Decidable p] (y : Bool) : (if p then some y else some false) = some (decide p && y) := by by_cases h : p <;> simp [h]
theorem if_not (p : Prop) [Decidable p] (y : Bool) : (if p then some false else some y) = some (!decide p && y) := by by_cases h : p <;> simp [h]
theorem win_eq (n h : Int) : wire_in.f n h = some (inB n h) := by
  unfold wire_in.f inB
  by_cases h0 : 0 ≤ n <;> simp [h0]
theorem may_eq (s : Sg) : wire_May.f s.a0 s.a1 s.a2 s.a3 s.a4 s.a5 s.a6 s.a7 s.a8 s.a9 s.a10 s.a11 s.a12 s.l13 s.l14 = some (mayB s) := by
  unfold wire_May.f mayB
  simp only [win_eq, Option.bind_some, if_dec, Bool.decide_eq_true]
theorem in_two (n h : Int) (y : Bool) : (!decide (n < 0) && (!decide (n > h) && y)) = (inB n h && y) := by
  unfold inB
  by_cases h0 : 0 ≤ n <;> by_cases h1 : n ≤ h
  · simp [show ¬ n < 0 by omega, show ¬ n > h by omega, h0, h1]
  · simp [show n > h by omega, h1]
  · simp [show n < 0 by omega, h0]
  · simp [show n < 0 by omega, h0]
theorem rmay_eq (s : Sg) : fourinhandref07_May.f s.a0 s.a1 s.a2 s.a3 s.a4 s.a5 s.a6 s.a7 s.a8 s.a9 s.a10 s.a11 s.a12 s.l13 s.l14 = some (mayB s) := by
  unfold fourinhandref07_May.f mayB
  simp only [if_dec, if_not, in_two]
def By (w : World) (A : Option Addr) (c : Nat) (l : List Int) : Prop := Kd.C (Kd.int .u8) w A l.length l ∧ l.length ≤ c
def Sk (w : World) (A : Option Addr) (c : Nat) (l : List S58) : Prop := Kd.C k58 w A l.length l ∧ l.length ≤ c
theorem By.later {w w1 : World} {A : Option Addr} {c : Nat} {l : List Int} (h : By w A c l) (hb : Below w.heap.size w w1) : By w1 A c l := ⟨Kd.C_below h.1 hb, h.2⟩
theorem Sk.later {w w1 : World} {A : Option Addr} {c : Nat} {l : List S58} (h : Sk w A c l) (hb : Below w.heap.size w w1) : Sk w1 A c l := ⟨Kd.C_below h.1 hb, h.2⟩
theorem By.of {w : World} {b : Nat} {ok : Nat → Prop} {A : Option Addr} {n c : Nat} {l : List Int} (h : Kd.R (Kd.int .u8) 5 w b ok (.slice A n c) l) : By w A c l := ⟨(Kd.R_reads' h).2.2, (Kd.R_reads' h).1 ▸ (Kd.R_reads' h).2.1⟩
theorem Sk.of {w : World} {b : Nat} {ok : Nat → Prop} {A : Option Addr} {n c : Nat} {l : List S58} (h : Kd.R k58 58 w b ok (.slice A n c) l) : Sk w A c l := ⟨(Kd.R_reads' h).2.2, (Kd.R_reads' h).1 ▸ (Kd.R_reads' h).2.1⟩
theorem By.none (w : World) : By w none 0 [] := ⟨Kd.C_nil _ _, Nat.le_refl _⟩
theorem Sk.none (w : World) : Sk w none 0 [] := ⟨Kd.C_nil _ _, Nat.le_refl _⟩
theorem k_open {b own : List Int} {err : Int} (ho : opnd b = (own, err)) (hb : Byt b) (hn : b.length ≤ 1000000) {A : Option Addr} {c : Nat} {w : World} (h : By w A c b) :
    Calls Try.prog 16 #[.slice A b.length c] w fun e w' => ∃ (A2 : Option Addr) (c2 : Nat), e = .returned (.tuple #[.slice A2 own.length c2, .int .i64 err]) ∧ Aside0 (By w' A2 c2 own) ∧ Aside0 (Below w.heap.size w w') := by
  refine (check_Open.calls 9 _ A c b own err w (Kd.V_mk h.2 (Kd.C_F (Kd.heap_int .u8) h.1)) (by rw [open_eq 9 b (by omega) hb hn, ho])).mono ?_
  rintro e w' ⟨v, rfl, hr, hbl⟩
  obtain ⟨A2, c2, rfl⟩ := Kd.R_slice hr
  exact ⟨A2, c2, rfl, ⟨By.of hr⟩, ⟨hbl⟩⟩
theorem k_seal {b : List Int} (hb : Byt b) (hn : b.length ≤ 1000000) {A : Option Addr} {c : Nat} {w : World} (h : By w A c b) :
    Calls Try.prog 19 #[.slice A b.length c] w fun e w' => ∃ (A2 : Option Addr) (c2 : Nat), e = .returned (.slice A2 (seald b).length c2) ∧ Aside0 (By w' A2 c2 (seald b)) ∧ Aside0 (Below w.heap.size w w') := by
  refine (check_Seal.calls 9 _ A c b (seald b) w (Kd.V_mk h.2 (Kd.C_F (Kd.heap_int .u8) h.1)) (seal_eq 9 b (by omega) hb hn)).mono ?_
  rintro e w' ⟨v, rfl, hr, hbl⟩
  obtain ⟨A2, c2, rfl⟩ := Kd.R_slice hr
  exact ⟨A2, c2, rfl, ⟨By.of hr⟩, ⟨hbl⟩⟩
theorem k_rseal {b : List Int} (hb : Byt b) (hn : b.length ≤ 1000000) {A : Option Addr} {c : Nat} {w : World} (h : By w A c b) :
    Calls Try.prog 20 #[.slice A b.length c] w fun e w' => ∃ (A2 : Option Addr) (c2 : Nat), e = .returned (.slice A2 (seald b).length c2) ∧ Aside0 (By w' A2 c2 (seald b)) ∧ Aside0 (Below w.heap.size w w') := by
  refine (fourinhandref03_Seal.calls 1000001 A c b (seald b) w h.1 h.2 (rseal_eq 1000001 b (by omega) hb hn)).mono ?_
  rintro e w' ⟨v, rfl, hr, hbl⟩
  obtain ⟨A2, c2, rfl⟩ := Kd.R_slice hr
  exact ⟨A2, c2, rfl, ⟨By.of hr⟩, ⟨hbl⟩⟩
theorem k_ropen {b own : List Int} {err : Int} (ho : opnd b = (own, err)) (hb : Byt b) (hn : b.length ≤ 1000000) {A : Option Addr} {c : Nat} {w : World} (h : By w A c b) :
    Calls Try.prog 17 #[.slice A b.length c] w fun e w' => ∃ (A2 : Option Addr) (c2 : Nat), e = .returned (.tuple #[.slice A2 own.length c2, .int .i64 err]) ∧ Aside0 (By w' A2 c2 own) ∧ Aside0 (Below w.heap.size w w') := by
  refine (fourinhandref03_Open.calls 1000005 A c b own err w h.1 h.2 (by rw [ropen_eq 1000005 b (by omega) hb hn, ho])).mono ?_
  rintro e w' ⟨v, rfl, hr, hbl⟩
  obtain ⟨A2, c2, rfl⟩ := Kd.R_slice hr
  exact ⟨A2, c2, rfl, ⟨By.of hr⟩, ⟨hbl⟩⟩
theorem k_same {l m : List Int} (hn : l.length ≤ 1000000) {A A1 : Option Addr} {c c1 : Nat} {w : World} (hp : By w A c l) (hp1 : By w A1 c1 m) :
    Calls Try.prog 18 #[.slice A l.length c, .slice A1 m.length c1] w fun e w' => e = .returned (.bool (decide (l = m))) ∧ Aside0 (Below w.heap.size w w') :=
  (fourinhandref03_Same.calls 1000001 A c l A1 c1 m _ w hp.1 hp.2 hp1.1 hp1.2 (same_eq 1000001 l m (by omega) (by omega))).mono fun e w' ⟨h1, h2⟩ => ⟨h1, ⟨h2.below⟩⟩
theorem k_may (s : Sg) {A13 A14 : Option Addr} {c13 c14 : Nat} {w : World} (h13 : Sk w A13 c13 s.l13) (h14 : By w A14 c14 s.l14) :
    Calls Try.prog 28 #[.agg #[.int .i64 s.a0, .int .i64 s.a1, .bool s.a2, .bool s.a3, .int .u32 s.a4, .int .u32 s.a5, .int .u32 s.a6, .int .u32 s.a7, .int .i64 s.a8, .int .i64 s.a9, .int .u32 s.a10, .int .u32 s.a11, .int .u32 s.a12, .slice A13 s.l13.length c13, .slice A14 s.l14.length c14]] w fun e w' => e = .returned (.bool (mayB s)) ∧ Aside0 (Below w.heap.size w w') :=
  (wire_May.calls s.a0 s.a1 s.a2 s.a3 s.a4 s.a5 s.a6 s.a7 s.a8 s.a9 s.a10 s.a11 s.a12 A13 c13 s.l13 A14 c14 s.l14 (mayB s) w h13.1 h13.2 h14.1 h14.2 (may_eq s)).mono fun e w' ⟨h1, h2⟩ => ⟨h1, ⟨h2⟩⟩
theorem k_rmay (s : Sg) {A13 A14 : Option Addr} {c13 c14 : Nat} {w : World} (h13 : Sk w A13 c13 s.l13) (h14 : By w A14 c14 s.l14) :
    Calls Try.prog 29 #[.agg #[.int .i64 s.a0, .int .i64 s.a1, .bool s.a2, .bool s.a3, .int .u32 s.a4, .int .u32 s.a5, .int .u32 s.a6, .int .u32 s.a7, .int .i64 s.a8, .int .i64 s.a9, .int .u32 s.a10, .int .u32 s.a11, .int .u32 s.a12, .slice A13 s.l13.length c13, .slice A14 s.l14.length c14]] w fun e w' => e = .returned (.bool (mayB s)) ∧ Aside0 (Below w.heap.size w w') :=
  (fourinhandref07_May.calls s.a0 s.a1 s.a2 s.a3 s.a4 s.a5 s.a6 s.a7 s.a8 s.a9 s.a10 s.a11 s.a12 A13 c13 s.l13 A14 c14 s.l14 (mayB s) w h13.1 h13.2 h14.1 h14.2 (rmay_eq s)).mono fun e w' ⟨h1, h2⟩ => ⟨h1, ⟨h2⟩⟩
end Go.Proofs.Ytbogmogimoleaaa.Given
