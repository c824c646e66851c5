/- For the walk of LaneKeeps: the calls' contracts, with what they leave as rows that can be read. -/
import Derived.Test.YtnfgcjeenjomgaaPlainA
import Derived.Great.BuildSlice
namespace Go.Proofs.Ytnfgcjeenjomgaa.Given
open Go.RowKit Go.Proofs.YtnfgcjeenjomgaaW.PrintWords Go.Proofs.YtnfgcjeenjomgaaW.PrintLast Go.Proofs.YtnfgcjeenjomgaaW.PrintMore Go.Proofs.Ytnfgcjeenjomgaa.S
set_option linter.unusedVariables false
set_option linter.unusedSimpArgs false
/-- A row of packets that can be read. -/
def Pk (w : World) (A : Option Addr) (c : Nat) (l : List S29) : Prop := Kd.C k29 w A l.length l ∧ l.length ≤ c
/-- A row of bytes that can be read. -/
def By (w : World) (A : Option Addr) (c : Nat) (l : List Int) : Prop := Kd.C (Kd.int .u8) w A l.length l ∧ l.length ≤ c
theorem Pk.later {w w1 : World} {A : Option Addr} {c : Nat} {l : List S29} (h : Pk w A c l) (hb : Below w.heap.size w w1) : Pk w1 A c l := ⟨Kd.C_below h.1 hb, h.2⟩
theorem By.later {w w1 : World} {A : Option Addr} {c : Nat} {l : List Int} (h : By w A c l) (hb : Below w.heap.size w w1) : By w1 A c l := ⟨Kd.C_below h.1 hb, h.2⟩
theorem k_few {l : List S29} {b : Bool} {k : Nat} (h : fourinhandlaw22_few.f k l = some b) {A : Option Addr} {c : Nat} {w : World} (hp : Pk w A c l) :
    Calls Try.prog 10 #[.slice A l.length c] w fun e w' => e = .returned (.bool b) ∧ Aside0 (Below w.heap.size w w') :=
  (fourinhandlaw22_few.calls k A c l b w hp.1 hp.2 h).mono fun e w' ⟨h1, h2⟩ => ⟨h1, ⟨h2.below⟩⟩
theorem k_may {l : List S29} {b : Bool} (h : mayB l = b) {A : Option Addr} {c : Nat} {w : World} (hp : Pk w A c l) :
    Calls Try.prog 11 #[.slice A l.length c] w fun e w' => e = .returned (.bool b) ∧ Aside0 (Below w.heap.size w w') :=
  (lane_May.calls A c l b w hp.1 hp.2 (by rw [← h]; rfl)).mono fun e w' ⟨h1, h2⟩ => ⟨h1, ⟨h2⟩⟩
theorem k_awake (w : World) : Calls Try.prog 9 #[] w fun e w' => e = .returned (.bool true) ∧ Aside0 (Below w.heap.size w w') :=
  (fourinhandlaw22_awake.calls true w rfl).mono fun e w' ⟨h1, h2⟩ => ⟨h1, ⟨h2⟩⟩
theorem k_same {l m : List S29} {b : Bool} {k : Nat} (h : fourinhandref22_Same.f k l m = some b) {A A1 : Option Addr} {c c1 : Nat} {w : World} (hp : Pk w A c l) (hp1 : Pk w A1 c1 m) :
    Calls Try.prog 14 #[.slice A l.length c, .slice A1 m.length c1] w fun e w' => e = .returned (.bool b) ∧ Aside0 (Below w.heap.size w w') :=
  (fourinhandref22_Same.calls k A c l A1 c1 m b w hp.1 hp.2 hp1.1 hp1.2 h).mono fun e w' ⟨h1, h2⟩ => ⟨h1, ⟨h2.below⟩⟩
theorem k_bytes {l m : List Int} {b : Bool} {k : Nat} (h : fourinhandref03_Same.f k l m = some b) {A A1 : Option Addr} {c c1 : Nat} {w : World} (hp : By w A c l) (hp1 : By w A1 c1 m) :
    Calls Try.prog 15 #[.slice A l.length c, .slice A1 m.length c1] w fun e w' => e = .returned (.bool b) ∧ Aside0 (Below w.heap.size w w') :=
  (fourinhandref03_Same.calls k A c l A1 c1 m b w hp.1 hp.2 hp1.1 hp1.2 h).mono fun e w' ⟨h1, h2⟩ => ⟨h1, ⟨h2.below⟩⟩
theorem k_push {l p : List S29} {x : List Int} {b : Bool} (hs : small l) (h : pushB l x false = (p, b)) {A A1 : Option Addr} {c c1 : Nat} {w : World} (hp : Pk w A c l) (hp1 : By w A1 c1 x) :
    Calls Try.prog 12 #[.slice A l.length c, .slice A1 x.length c1] w fun e w' => ∃ (A2 : Option Addr) (c2 : Nat), e = .returned (.tuple #[.slice A2 p.length c2, .bool b]) ∧ Aside0 (Pk w' A2 c2 p) ∧ Aside0 (Below w.heap.size w w') := by
  refine (lane_Push.calls A c l A1 c1 x p b w hp.1 hp.2 hp1.1 hp1.2 (by unfold lane_Push.f; rw [if_pos hs, h])).mono ?_
  rintro e w' ⟨v, rfl, ho, hb⟩
  obtain ⟨A2, c2, rfl⟩ := Kd.S_slice ho
  exact ⟨A2, c2, rfl, ⟨(Kd.S_reads' ho).2.2, (Kd.S_reads' ho).2.1⟩, ⟨hb⟩⟩
theorem k_twice {l p : List S29} {i : Int} {b : Bool} (hs : small l) (h : twiceB l i = (p, b)) {A : Option Addr} {c : Nat} {w : World} (hp : Pk w A c l) :
    Calls Try.prog 16 #[.slice A l.length c, .int .i64 i] w fun e w' => ∃ (A2 : Option Addr) (c2 : Nat), e = .returned (.tuple #[.slice A2 p.length c2, .bool b]) ∧ Aside0 (Pk w' A2 c2 p) ∧ Aside0 (Below w.heap.size w w') := by
  refine (lane_Twice.calls A c l i p b w hp.1 hp.2 (by unfold lane_Twice.f; rw [if_pos hs, h])).mono ?_
  rintro e w' ⟨v, rfl, ho, hb⟩
  obtain ⟨A2, c2, rfl⟩ := Kd.S_slice ho
  exact ⟨A2, c2, rfl, ⟨(Kd.S_reads' ho).2.2, (Kd.S_reads' ho).2.1⟩, ⟨hb⟩⟩
theorem k_mark {l p : List S29} {i : Int} {b : Bool} (hs : small l) (h : markB l i = (p, b)) {A : Option Addr} {c : Nat} {w : World} (hp : Pk w A c l) :
    Calls Try.prog 21 #[.slice A l.length c, .int .i64 i] w fun e w' => ∃ (A2 : Option Addr) (c2 : Nat), e = .returned (.tuple #[.slice A2 p.length c2, .bool b]) ∧ Aside0 (Pk w' A2 c2 p) ∧ Aside0 (Below w.heap.size w w') := by
  refine (lane_Mark.calls A c l i p b w hp.1 hp.2 (by unfold lane_Mark.f; rw [if_pos hs, h])).mono ?_
  rintro e w' ⟨v, rfl, ho, hb⟩
  obtain ⟨A2, c2, rfl⟩ := Kd.S_slice ho
  exact ⟨A2, c2, rfl, ⟨(Kd.S_reads' ho).2.2, (Kd.S_reads' ho).2.1⟩, ⟨hb⟩⟩
theorem k_spoil {l p : List S29} {i a y : Int} {b : Bool} (hs : small l) (h : spoilB l i a y = (p, b)) {A : Option Addr} {c : Nat} {w : World} (hp : Pk w A c l) :
    Calls Try.prog 23 #[.slice A l.length c, .int .i64 i, .int .i64 a, .int .u8 y] w fun e w' => ∃ (A2 : Option Addr) (c2 : Nat), e = .returned (.tuple #[.slice A2 p.length c2, .bool b]) ∧ Aside0 (Pk w' A2 c2 p) ∧ Aside0 (Below w.heap.size w w') := by
  refine (lane_Spoil.calls A c l i a y p b w hp.1 hp.2 (by unfold lane_Spoil.f; rw [if_pos hs, h])).mono ?_
  rintro e w' ⟨v, rfl, ho, hb⟩
  obtain ⟨A2, c2, rfl⟩ := Kd.S_slice ho
  exact ⟨A2, c2, rfl, ⟨(Kd.S_reads' ho).2.2, (Kd.S_reads' ho).2.1⟩, ⟨hb⟩⟩
theorem k_take {l p : List S29} {x : List Int} {m b : Bool} {i : Int} (hs : small l) (h : takeB l i = (p, x, m, b)) {A : Option Addr} {c : Nat} {w : World} (hp : Pk w A c l) :
    Calls Try.prog 13 #[.slice A l.length c, .int .i64 i] w fun e w' => ∃ (A1 A2 : Option Addr) (c1 c2 : Nat), e = .returned (.tuple #[.slice A1 p.length c1, .agg #[.slice A2 x.length c2, .bool m], .bool b]) ∧ Aside0 (Pk w' A1 c1 p) ∧ Aside0 (By w' A2 c2 x) ∧ Aside0 (Below w.heap.size w w') := by
  refine (lane_Take.calls A c l i p x m b w hp.1 hp.2 (by unfold lane_Take.f; rw [if_pos hs, h])).mono ?_
  rintro e w' ⟨v, v2, rfl, ho, ho2, hb⟩
  obtain ⟨A1, c1, rfl⟩ := Kd.S_slice ho
  obtain ⟨A2, c2, rfl⟩ := Kd.R_slice ho2
  exact ⟨A1, A2, c1, c2, rfl, ⟨(Kd.S_reads' ho).2.2, (Kd.S_reads' ho).2.1⟩, ⟨(Kd.R_reads' ho2).2.2, (Kd.R_reads' ho2).2.1⟩, ⟨hb⟩⟩
/-- A literal of one packet. -/
theorem one_run (W : World) (A : Option Addr) (n c : Nat) (m : Bool) :
    (Instr.buildSlice 22 1 #[(0, .agg #[.slice A n c, .bool m])]).run Try.prog W = .ok (.slice (some ⟨W.heap.size, 0, none⟩) 1 1) (W.alloc (.cells #[.slice A n c, .bool m] 29)) := by
  cases hie : Try.prog.info? 29 with
  | none => have := info29; rw [hie] at this; cases this
  | some ie =>
    have h := info29
    rw [hie, Option.map_some, Option.some.injEq, Prod.mk.injEq, Prod.mk.injEq] at h
    obtain ⟨hz, h2, _⟩ := h
    refine run_buildSlice W 22 29 1 _ _ ie _ Try.underlying22 hie hz (by rw [h2]; decide) (by rw [h2]; decide) ?_
    rw [h2]
    clear hie hz h2
    first | kernel_rfl | (simp [Instr.fill]; done) | (simp [Instr.fill, Array.range, Value.cells]; rfl)
theorem one_pk (W : World) (A : Option Addr) (x : S29) (c : Nat) (h : By W A c x.f0) : Pk (W.alloc (.cells #[.slice A x.f0.length c, .bool x.f1] 29)) (some ⟨W.heap.size, 0, none⟩) 1 [x] := by
  refine ⟨⟨rfl, by simp, fun _ => ⟨_, rfl, fun j p hp => ?_⟩⟩, Nat.le_refl _⟩
  obtain ⟨hj, hjp⟩ := List.getElem?_eq_some_iff.mp hp
  have hj0 : j = 0 := by simpa using hj
  subst hj0
  obtain rfl : x = p := by simpa using hjp
  refine ⟨_, rfl, k29_mk _ x h.2 (h.later (below_alloc (Below.refl _ _) _)).1, fun i u hu => ?_⟩
  have hbk : (W.alloc (.cells #[.slice A x.f0.length c, .bool x.f1] 29)).heap[W.heap.size]? = some (.cells #[.slice A x.f0.length c, .bool x.f1] 29 (0, 0)) := by
    show (W.heap.push _)[W.heap.size]? = _
    exact Array.getElem?_push_size
  obtain ⟨hi, rfl⟩ := List.getElem?_eq_some_iff.mp hu
  rw [add_plain]
  unfold World.cell?
  simp only [hbk]
  rcases i with _ | _ | i
  · rfl
  · rfl
  · simp at hi
    omega
end Go.Proofs.Ytnfgcjeenjomgaa.Given
