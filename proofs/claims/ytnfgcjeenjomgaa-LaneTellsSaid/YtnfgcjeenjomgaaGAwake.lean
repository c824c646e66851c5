/- The walk of the awake test of the lane laws: it answers true. -/
import Derived.Test.YtnfgcjeenjomgaaGTakeB
import Derived.Lib.SlBytesConst
namespace Go.Proofs.Ytnfgcjeenjomgaa.Given
open Go.RowKit Go.Proofs.YtnfgcjeenjomgaaW.PrintWords Go.Proofs.YtnfgcjeenjomgaaW.PrintLast Go.Proofs.YtnfgcjeenjomgaaW.PrintMore Go.Proofs.Ytnfgcjeenjomgaa.S
set_option linter.unusedVariables false
set_option linter.unusedSimpArgs false
def fourinhandlaw22_awake.f : Option Bool := some true
/-- The bytes of a literal that was converted: a marked row, read. -/
theorem lit_reads (w : World) (xs : List Int) (m : Nat × Nat) (hn : xs.length ≤ 9223372036854775807) : (Kd.int .u8).C (w.alloc (.cells (xs.map (Value.int .u8)).toArray 5 m)) (some ⟨w.heap.size, 0, none⟩) xs.length xs := by
  refine Kd.C_of_reads (d := (0 : Int)) ⟨rfl, hn, fun h => ⟨_, rfl, fun j hj => ?_⟩⟩
  rw [add_plain]
  unfold World.cell?
  have : (w.alloc (.cells (xs.map (Value.int .u8)).toArray 5 m)).heap[w.heap.size]? = some (.cells (xs.map (Value.int .u8)).toArray 5 m) := by
    show (w.heap.push _)[w.heap.size]? = _
    exact Array.getElem?_push_size
  simp only [this]
  simp [List.getD_eq_getElem?_getD, hj]
def ab : S29 := ⟨[97, 98], false⟩
theorem push_ab (A : Option Addr) (c : Nat) (w : World) (hc : 2 ≤ c) (h : (Kd.int .u8).C w A 2 [97, 98]) :
    Calls Try.prog 12 #[.slice none 0 0, .slice A 2 c] w fun e w' => ∃ (A1 : Option Addr) (c1 : Nat), e = .returned (.tuple #[.slice A1 1 c1, .bool true]) ∧ Aside0 (Kd.S k29 29 w' w.heap.size (fun _ => True) (.slice A1 1 c1) [ab]) ∧ Below w.heap.size w w' := by
  refine (lane_Push.calls none 0 [] A c [97, 98] [ab] true w (Kd.C_nil _ _) (Nat.le_refl _) h hc rfl).mono ?_
  rintro e w1 ⟨v1, rfl, ho1, hb1⟩
  obtain ⟨A1, c1, rfl⟩ := Kd.S_slice ho1
  exact ⟨A1, c1, rfl, ⟨ho1⟩, hb1⟩
theorem twice_ab (A : Option Addr) (c b : Nat) (w : World) (h : Aside0 (Kd.S k29 29 w b (fun _ => True) (.slice A 1 c) [ab])) :
    Calls Try.prog 16 #[.slice A 1 c, .int .i64 0] w fun e w' => ∃ (A1 : Option Addr) (c1 : Nat), e = .returned (.tuple #[.slice A1 2 c1, .bool true]) ∧ Aside0 (Kd.S k29 29 w' w.heap.size (fun _ => True) (.slice A1 2 c1) [ab, ab]) ∧ Below w.heap.size w w' := by
  refine (lane_Twice.calls A c [ab] 0 [ab, ab] true w (Kd.S_reads' h.out).2.2 (Kd.S_reads' h.out).2.1 rfl).mono ?_
  rintro e w1 ⟨v1, rfl, ho1, hb1⟩
  obtain ⟨A1, c1, rfl⟩ := Kd.S_slice ho1
  exact ⟨A1, c1, rfl, ⟨ho1⟩, hb1⟩
theorem take_ab (A : Option Addr) (c b : Nat) (w : World) (h : Aside0 (Kd.S k29 29 w b (fun _ => True) (.slice A 2 c) [ab, ab])) :
    Calls Try.prog 13 #[.slice A 2 c, .int .i64 0] w fun e w' => ∃ (A1 A2 : Option Addr) (c1 c2 : Nat), e = .returned (.tuple #[.slice A1 1 c1, .agg #[.slice A2 2 c2, .bool false], .bool true]) ∧ Aside0 (Kd.S k29 29 w' w.heap.size (fun _ => True) (.slice A1 1 c1) [ab]) ∧ Aside0 (Kd.R (Kd.int .u8) 5 w' w.heap.size (fun _ => True) (.slice A2 2 c2) [97, 98]) ∧ Below w.heap.size w w' := by
  refine (lane_Take.calls A c [ab, ab] 0 [ab] [97, 98] false true w (Kd.S_reads' h.out).2.2 (Kd.S_reads' h.out).2.1 rfl).mono ?_
  rintro e w1 ⟨v1, v2, rfl, ho1, ho2, hb1⟩
  obtain ⟨A1, c1, rfl⟩ := Kd.S_slice ho1
  obtain ⟨A2, c2, rfl⟩ := Kd.R_slice ho2
  exact ⟨A1, A2, c1, c2, rfl, ⟨Kd.S_mono ho1 (fun _ _ => trivial)⟩, ⟨ho2⟩, hb1⟩
theorem may_ab (A : Option Addr) (c b : Nat) (w : World) (h : Aside0 (Kd.S k29 29 w b (fun _ => True) (.slice A 1 c) [ab])) :
    Calls Try.prog 11 #[.slice A 1 c] w fun e w' => e = .returned (.bool true) ∧ Below w.heap.size w w' :=
  lane_May.calls A c [ab] true w (Kd.S_reads' h.out).2.2 (Kd.S_reads' h.out).2.1 rfl
set_option maxHeartbeats 4000000 in
set_option maxRecDepth 100000 in
theorem fourinhandlaw22_awake.calls (r : Bool) (w : World) (h : fourinhandlaw22_awake.f = some r) :
    Calls Try.prog 9 #[] w fun e w' => e = .returned (.bool r) ∧ Below w.heap.size w w' := by
  obtain rfl := Option.some.inj h
  clear h
  have kc := fun (w : World) (C : Array Value) (n c : Nat) => Lib.run_convert_bytes_const (P := Try.prog) w 23 5 C n c Try.underlying23 Try.underlying5
  have hl := lit_reads w [97, 98] (2, 3) (by simp)
  have hs : ((strOfNums [97, 98]).toList == [97, 98]) = true := by decide +kernel
  have hs2 : ((strOfNums [97, 98]).toList = [97, 98]) = True := eq_true (by decide +kernel)
  go_enter Try.func9, Try.ntmps9
  go_wp2_with (first | (go_at_call 12; (with_reducible refine (push_ab _ _ _ (by omega) hl).mono ?_); rintro e w1 ⟨A1, c1, rfl, ho1, hb1⟩) | (go_at_call 16; (with_reducible refine (twice_ab _ _ _ _ ho1).mono ?_); rintro e w2 ⟨A2, c2, rfl, ho2, hb2⟩) | (go_at_call 13; (with_reducible refine (take_ab _ _ _ _ ho2).mono ?_); rintro e w3 ⟨A3, A4, c3, c4, rfl, ho3, ho4, hb3⟩; have hcv := own_string (P := Try.prog) Try.underlying23 Try.underlying5 Try.underlying9 (Kd.own_of_R (Kd.R_alloc ho4.out (.cells #[.slice A4 2 c4, .bool false] 29)))) | (go_at_call 11; (with_reducible refine (may_ab _ _ _ _ ⟨Kd.S_alloc ho3.out _⟩).mono ?_); rintro e w4 ⟨rfl, hb4⟩))
  go_ret
  exact ⟨rfl, below_step (below_alloc (below_step (below_step (below_step (below_alloc (Below.refl _ _) _) hb1) hb2) hb3) _) hb4⟩
end Go.Proofs.Ytnfgcjeenjomgaa.Given
