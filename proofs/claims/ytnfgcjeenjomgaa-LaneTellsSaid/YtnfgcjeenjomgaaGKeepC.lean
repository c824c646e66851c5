/- The walk of LaneKeeps: a way that may be. -/
import Derived.Test.YtnfgcjeenjomgaaGKeepB
namespace Go.Proofs.Ytnfgcjeenjomgaa.Given
open Go.RowKit Go.Proofs.YtnfgcjeenjomgaaW.PrintWords Go.Proofs.YtnfgcjeenjomgaaW.PrintLast Go.Proofs.YtnfgcjeenjomgaaW.PrintMore Go.Proofs.Ytnfgcjeenjomgaa.S
set_option linter.unusedVariables false
set_option linter.unusedSimpArgs false
theorem Pk.at {w Wc w1 : World} {A : Option Addr} {c : Nat} {l : List S29} (h : Pk w A c l) (ha : Below w.heap.size w Wc) (hb : Below Wc.heap.size Wc w1) : Pk w1 A c l := h.later (below_step ha hb)
theorem By.at {w Wc w1 : World} {A : Option Addr} {c : Nat} {l : List Int} (h : By w A c l) (ha : Below w.heap.size w Wc) (hb : Below Wc.heap.size Wc w1) : By w1 A c l := h.later (below_step ha hb)
/-- A packet in a block of its own: its two cells. -/
def Cel (w : World) (g : Nat) (A : Option Addr) (n c : Nat) (m : Bool) : Prop := w.cell? ⟨g, 0, none⟩ = some (.slice A n c) ∧ w.cell? ⟨g, 1, none⟩ = some (.bool m) ∧ g < w.heap.size
theorem Cel.later {w w1 : World} {g : Nat} {A : Option Addr} {n c : Nat} {m : Bool} (h : Cel w g A n c m) (hb : Below w.heap.size w w1) : Cel w1 g A n c m :=
  ⟨(hb.cell (p := ⟨g, 0, none⟩) h.2.2).trans h.1, (hb.cell (p := ⟨g, 1, none⟩) h.2.2).trans h.2.1, Nat.lt_of_lt_of_le h.2.2 hb.size⟩
theorem Cel.make (w : World) (A : Option Addr) (n c : Nat) (m : Bool) : Cel (w.alloc (.cells #[.slice A n c, .bool m] 29)) w.heap.size A n c m := by
  have hbk : (w.alloc (.cells #[.slice A n c, .bool m] 29)).heap[w.heap.size]? = some (.cells #[.slice A n c, .bool m] 29 (0, 0)) := by
    show (w.heap.push _)[w.heap.size]? = _
    exact Array.getElem?_push_size
  exact ⟨(block_cell (j := 0) hbk (by simp)).1, (block_cell (j := 1) hbk (by simp)).1, by obtain ⟨h, _⟩ := Array.getElem?_eq_some_iff.1 hbk; exact h⟩
set_option maxHeartbeats 4000000 in
set_option maxRecDepth 100000 in
theorem keeps_ff (k : Nat) (A0 : Option Addr) (c0 : Nat) (l : List S29) (A1 : Option Addr) (c1 : Nat) (b : List Int) (i : Int) (w : World) (h0 : Pk w A0 c0 l) (h1 : By w A1 c1 b) (hs : small l) (hfew : fourinhandlaw22_few.f k l = some true) (hB : decide ((2100 : Int) < (b.length : Int)) = false) (hM : mayB l = true)
    (hsame : fourinhandref22_Same.f k l l = some true) (hP : pushB l b false = (l, false)) (hT : twiceB l i = (l, false)) :
    Calls Try.prog 3 #[.slice A0 l.length c0, .slice A1 b.length c1, .int .i64 i] w fun e w' => e = .returned (.bool true) ∧ Below w.heap.size w w' := by
  have hB' : decide ((b.length : Int) > (2100 : Int)) = false := hB
  have HP := Aside0.mk h0
  have HB := Aside0.mk h1
  clear h0 h1
  go_enter Try.func3, Try.ntmps3
  go_wp2_with (first
    | (go_at_call 9; (with_reducible refine (k_awake _).mono ?_); rintro e w1 ⟨rfl, hb⟩; have HP := Aside0.mk (HP.out.later hb.out); have HB := Aside0.mk (HB.out.later hb.out); have HW := hb; clear hb)
    | (go_at_call 10; (with_reducible refine (k_few hfew HP.out).mono ?_); rintro e w2 ⟨rfl, hb⟩; have HP := Aside0.mk (HP.out.later hb.out); have HB := Aside0.mk (HB.out.later hb.out); have HW := Aside0.mk (below_step HW.out hb.out); clear hb)
    | (go_at_call 11; (with_reducible refine (k_may hM HP.out).mono ?_); rintro e w3 ⟨rfl, hb⟩; have HP := Aside0.mk (HP.out.later hb.out); have HB := Aside0.mk (HB.out.later hb.out); have HW := Aside0.mk (below_step HW.out hb.out); clear hb)
    | (go_at_call 12; (with_reducible refine (k_push hs hP HP.out HB.out).mono ?_); rintro e w4 ⟨Ap, cp, rfl, hq, hb⟩; have HP := Aside0.mk (HP.out.later hb.out); have HW := Aside0.mk (below_step HW.out hb.out); clear hb)
    | (go_at_call 16; (with_reducible refine (k_twice hs hT HP.out).mono ?_); rintro e w5 ⟨At, ct, rfl, hq, hb⟩; have HP := Aside0.mk (HP.out.later hb.out); have HQ := hq; have HW := Aside0.mk (below_step HW.out hb.out); clear hb hq)
    | (go_at_call 14; (with_reducible refine (k_same hsame HQ.out HP.out).mono ?_); rintro e w6 ⟨rfl, hb⟩; have HW := Aside0.mk (below_step HW.out hb.out); clear hb))
  go_ret
  exact ⟨rfl, HW.out⟩
end Go.Proofs.Ytnfgcjeenjomgaa.Given
