/- For the walk of LaneTells: the document's functions, with what they leave as rows that can be read. -/
import Derived.Test.YtnfgcjeenjomgaaGKeepF
import Derived.Test.YtnfgcjeenjomgaaSx8
import Derived.Test.YtnfgcjeenjomgaaSx9
import Derived.Test.YtnfgcjeenjomgaaSx10
import Derived.Test.YtnfgcjeenjomgaaSx11
namespace Go.Proofs.Ytnfgcjeenjomgaa.Given
open Go.RowKit Go.Proofs.YtnfgcjeenjomgaaW.PrintWords Go.Proofs.YtnfgcjeenjomgaaW.PrintLast Go.Proofs.YtnfgcjeenjomgaaW.PrintMore Go.Proofs.Ytnfgcjeenjomgaa.S
set_option linter.unusedVariables false
set_option linter.unusedSimpArgs false
theorem r_own {l p : List S29} {k : Nat} (h : fourinhandref22_Own.f k l = some p) {A : Option Addr} {c : Nat} {w : World} (hp : Pk w A c l) :
    Calls Try.prog 17 #[.slice A l.length c] w fun e w' => ∃ (A2 : Option Addr) (c2 : Nat), e = .returned (.slice A2 p.length c2) ∧ Aside0 (Pk w' A2 c2 p) ∧ Aside0 (Below w.heap.size w w') := by
  refine (fourinhandref22_Own.calls k A c l p w hp.1 hp.2 h).mono ?_
  rintro e w' ⟨v, rfl, ho, hb⟩
  obtain ⟨A2, c2, rfl⟩ := Kd.S_slice ho
  exact ⟨A2, c2, rfl, ⟨(Kd.S_reads' ho).2.2, (Kd.S_reads' ho).2.1⟩, ⟨hb⟩⟩
theorem r_push {l p : List S29} {x : List Int} {b : Bool} {k : Nat} (h : fourinhandref22_Push.f k l x = some (p, b)) {A A1 : Option Addr} {c c1 : Nat} {w : World} (hp : Pk w A c l) (hp1 : By w A1 c1 x) :
    Calls Try.prog 18 #[.slice A l.length c, .slice A1 x.length c1] w fun e w' => ∃ (A2 : Option Addr) (c2 : Nat), e = .returned (.tuple #[.slice A2 p.length c2, .bool b]) ∧ Aside0 (Pk w' A2 c2 p) ∧ Aside0 (Below w.heap.size w w') := by
  refine (fourinhandref22_Push.calls k A c l A1 c1 x p b w hp.1 hp.2 hp1.1 hp1.2 h).mono ?_
  rintro e w' ⟨v, rfl, ho, hb⟩
  obtain ⟨A2, c2, rfl⟩ := Kd.S_slice ho
  exact ⟨A2, c2, rfl, ⟨(Kd.S_reads' ho).2.2, (Kd.S_reads' ho).2.1⟩, ⟨hb⟩⟩
theorem r_may {l : List S29} {b : Bool} {k : Nat} (h : fourinhandref22_May.f k l = some b) {A : Option Addr} {c : Nat} {w : World} (hp : Pk w A c l) :
    Calls Try.prog 25 #[.slice A l.length c] w fun e w' => e = .returned (.bool b) ∧ Aside0 (Below w.heap.size w w') :=
  (fourinhandref22_May.calls k A c l b w hp.1 hp.2 h).mono fun e w' ⟨h1, h2⟩ => ⟨h1, ⟨h2.below⟩⟩
theorem r_take {l p : List S29} {x : List Int} {m b : Bool} {i : Int} {k : Nat} (h : fourinhandref22_Take.f k l i = some (p, x, m, b)) {A : Option Addr} {c : Nat} {w : World} (hp : Pk w A c l) :
    Calls Try.prog 19 #[.slice A l.length c, .int .i64 i] w fun e w' => ∃ (A1 A2 : Option Addr) (c1 c2 : Nat), e = .returned (.tuple #[.slice A1 p.length c1, .agg #[.slice A2 x.length c2, .bool m], .bool b]) ∧ Aside0 (Pk w' A1 c1 p) ∧ Aside0 (By w' A2 c2 x) ∧ Aside0 (Below w.heap.size w w') := by
  refine (fourinhandref22_Take.calls k A c l i p x m b w hp.1 hp.2 h).mono ?_
  rintro e w' ⟨v, v2, rfl, ho, ho2, hb⟩
  obtain ⟨A1, c1, rfl⟩ := Kd.N_slice ho
  obtain ⟨A2, c2, rfl, h3, h4⟩ := ho2
  exact ⟨A1, A2, c1, c2, rfl, ⟨(Kd.N_reads' ho).2.2, (Kd.N_reads' ho).2.1⟩, ⟨Kd.F_now h4, h3⟩, ⟨hb⟩⟩
theorem r_twice {l p : List S29} {i : Int} {b : Bool} {k : Nat} (h : fourinhandref22_Twice.f k l i = some (p, b)) {A : Option Addr} {c : Nat} {w : World} (hp : Pk w A c l) :
    Calls Try.prog 20 #[.slice A l.length c, .int .i64 i] w fun e w' => ∃ (A2 : Option Addr) (c2 : Nat), e = .returned (.tuple #[.slice A2 p.length c2, .bool b]) ∧ Aside0 (Pk w' A2 c2 p) ∧ Aside0 (Below w.heap.size w w') := by
  refine (fourinhandref22_Twice.calls k A c l i p b w hp.1 hp.2 h).mono ?_
  rintro e w' ⟨v, rfl, ho, hb⟩
  obtain ⟨A2, c2, rfl⟩ := Kd.N_slice ho
  exact ⟨A2, c2, rfl, ⟨(Kd.N_reads' ho).2.2, (Kd.N_reads' ho).2.1⟩, ⟨hb⟩⟩
theorem r_mark {l p : List S29} {i : Int} {b : Bool} {k : Nat} (h : fourinhandref22_Mark.f k l i = some (p, b)) {A : Option Addr} {c : Nat} {w : World} (hp : Pk w A c l) :
    Calls Try.prog 22 #[.slice A l.length c, .int .i64 i] w fun e w' => ∃ (A2 : Option Addr) (c2 : Nat), e = .returned (.tuple #[.slice A2 p.length c2, .bool b]) ∧ Aside0 (Pk w' A2 c2 p) ∧ Aside0 (Below w.heap.size w w') := by
  refine (fourinhandref22_Mark.calls k A c l i p b w hp.1 hp.2 h).mono ?_
  rintro e w' ⟨v, rfl, ho, hb⟩
  obtain ⟨A2, c2, rfl⟩ := Kd.S_slice ho
  exact ⟨A2, c2, rfl, ⟨(Kd.S_reads' ho).2.2, (Kd.S_reads' ho).2.1⟩, ⟨hb⟩⟩
theorem r_spoil {l p : List S29} {i a y : Int} {b : Bool} {k : Nat} (h : fourinhandref22_Spoil.f k l i a y = some (p, b)) {A : Option Addr} {c : Nat} {w : World} (hp : Pk w A c l) :
    Calls Try.prog 24 #[.slice A l.length c, .int .i64 i, .int .i64 a, .int .u8 y] w fun e w' => ∃ (A2 : Option Addr) (c2 : Nat), e = .returned (.tuple #[.slice A2 p.length c2, .bool b]) ∧ Aside0 (Pk w' A2 c2 p) ∧ Aside0 (Below w.heap.size w w') := by
  refine (fourinhandref22_Spoil.calls k A c l i a y p b w hp.1 hp.2 h).mono ?_
  rintro e w' ⟨v, rfl, ho, hb⟩
  obtain ⟨A2, c2, rfl⟩ := Kd.S_slice ho
  exact ⟨A2, c2, rfl, ⟨(Kd.S_reads' ho).2.2, (Kd.S_reads' ho).2.1⟩, ⟨hb⟩⟩
end Go.Proofs.Ytnfgcjeenjomgaa.Given
