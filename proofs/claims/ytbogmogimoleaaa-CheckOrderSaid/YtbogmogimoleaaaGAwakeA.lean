/- The walk of the awake test of the check laws: it answers true. -/
import Derived.Test.YtbogmogimoleaaaSx1
import Derived.Lib.SlBytesConst
namespace Go.Proofs.Ytbogmogimoleaaa.Given
open Go.RowKit Go.Proofs.YtbogmogimoleaaaW.PrintWords Go.Proofs.YtbogmogimoleaaaW.PrintLast Go.Proofs.YtbogmogimoleaaaW.PrintMore
open Go.Proofs.Ytbogmogimoleaaa.S
set_option linter.unusedVariables false
set_option linter.unusedSimpArgs false
def fourinhandlaw03_awake.f : Option Bool := some true
/-- The bytes of a literal that was converted: a marked row, read. -/
theorem lit_reads (w : World) (xs : List Int) (m : Nat × Nat) (hn : xs.length ≤ 9223372036854775807) : (Kd.int .u8).C (w.alloc (.cells (xs.map (Value.int .u8)).toArray 5 m)) (some ⟨w.heap.size, 0, none⟩) xs.length xs := by
  refine Kd.C_of_reads (d := (0 : Int)) ⟨rfl, hn, fun h => ⟨_, rfl, fun j hj => ?_⟩⟩
  rw [add_plain]
  unfold World.cell?
  have : (w.alloc (.cells (xs.map (Value.int .u8)).toArray 5 m)).heap[w.heap.size]? = some (.cells (xs.map (Value.int .u8)).toArray 5 m) := by
    show (w.heap.push _)[w.heap.size]? = _
    exact Array.getElem?_push_size
  simp only [this]
  simp [List.getD_eq_getElem?_getD, hj]
theorem lit_reads2 (w : World) (xs : List Int) (m : Nat × Nat) (hn : xs.length ≤ 9223372036854775807) :
    (Kd.slice 5 (Kd.int .u8)).C ((w.alloc (.cells (xs.map (Value.int .u8)).toArray 5 m)).alloc (.cells #[.slice (some ⟨w.heap.size, 0, none⟩) xs.length xs.length] 23)) (some ⟨w.heap.size + 1, 0, none⟩) 1 [xs] := by
  refine ⟨rfl, by omega, fun _ => ⟨_, rfl, ?_⟩⟩
  intro j p hp
  have hj : j = 0 := by
    have := (List.getElem?_eq_some_iff.mp hp).1
    simpa using this
  subst hj
  obtain rfl : xs = p := by simpa using hp
  refine ⟨[.slice (some ⟨w.heap.size, 0, none⟩) xs.length xs.length], rfl, ⟨_, _, rfl, Nat.le_refl _, Kd.C_below (lit_reads w xs m hn) ((Below.refl _ _).alloc (Nat.le_refl _) _)⟩, fun i u hu => ?_⟩
  have hi : i = 0 := by
    have := (List.getElem?_eq_some_iff.mp hu).1
    simpa using this
  subst hi
  rw [add_plain]
  unfold World.cell?
  have h1 : ((w.alloc (.cells (xs.map (Value.int .u8)).toArray 5 m)).alloc (.cells #[.slice (some ⟨w.heap.size, 0, none⟩) xs.length xs.length] 23)).heap[w.heap.size + 1]? = some (.cells #[.slice (some ⟨w.heap.size, 0, none⟩) xs.length xs.length] 23) := by
    show ((w.heap.push _).push _)[w.heap.size + 1]? = _
    have : (w.heap.push (Obj.cells (xs.map (Value.int .u8)).toArray 5 m)).size = w.heap.size + 1 := by simp
    rw [← this]
    exact Array.getElem?_push_size
  simp only [h1]
  simpa using hu
theorem sealed : check_Seal.f 9 [97, 98, 99] = some [2, 77, 1, 39, 97, 98, 99] := by decide +kernel
theorem opened : check_Open.f 9 [2, 77, 1, 39, 97, 98, 99] = some ([97, 98, 99], 0) := by decide +kernel
theorem sum_none : check_Sum.f [] = some 1 := by decide +kernel
theorem sum_abc : check_Sum.f [[97, 98, 99]] = some 38600999 := by decide +kernel
theorem seal_abc (A : Option Addr) (c : Nat) (w : World) (hc : 3 ≤ c) (h : (Kd.int .u8).C w A 3 [97, 98, 99]) :
    Calls Try.prog 19 #[.slice A 3 c] w fun e w' => ∃ (A1 : Option Addr) (c1 : Nat), e = .returned (.slice A1 7 c1) ∧ Aside0 (Kd.R (Kd.int .u8) 5 w' w.heap.size (fun _ => True) (.slice A1 7 c1) [2, 77, 1, 39, 97, 98, 99]) ∧ Below w.heap.size w w' := by
  refine (check_Seal.calls 9 _ A c [97, 98, 99] _ w (Kd.V_mk hc (Kd.C_F (Kd.heap_int .u8) h)) sealed).mono ?_
  rintro e w1 ⟨v1, rfl, ho1, hb1⟩
  obtain ⟨A1, c1, rfl⟩ := Kd.R_slice ho1
  exact ⟨A1, c1, rfl, ⟨Kd.R_mono ho1 (fun _ _ => trivial)⟩, hb1⟩
theorem open_abc (A : Option Addr) (c b : Nat) (w : World) (h : Aside0 (Kd.R (Kd.int .u8) 5 w b (fun _ => True) (.slice A 7 c) [2, 77, 1, 39, 97, 98, 99])) :
    Calls Try.prog 16 #[.slice A 7 c] w fun e w' => ∃ v : Value, e = .returned (.tuple #[v, .int .i64 0]) ∧ Aside0 (Kd.R (Kd.int .u8) 5 w' w.heap.size (fun _ => True) v [97, 98, 99]) ∧ Below w.heap.size w w' := by
  refine (check_Open.calls 9 (fun _ => True) A c [2, 77, 1, 39, 97, 98, 99] _ _ w (Kd.R_V h.out) opened).mono ?_
  rintro e w1 ⟨v1, rfl, ho1, hb1⟩
  exact ⟨v1, rfl, ⟨Kd.R_mono ho1 (fun _ _ => trivial)⟩, hb1⟩
theorem sum_0 (w : World) : Calls Try.prog 21 #[.slice none 0 0] w fun e w' => e = .returned (.int .u32 1) ∧ Below w.heap.size w w' :=
  check_Sum.calls none 0 [] 1 w (Kd.C_nil _ _) (Nat.le_refl _) sum_none
theorem sum_1 (A : Option Addr) (c : Nat) (w : World) (hc : 1 ≤ c) (h : (Kd.slice 5 (Kd.int .u8)).C w A 1 [[97, 98, 99]]) : Calls Try.prog 21 #[.slice A 1 c] w fun e w' => e = .returned (.int .u32 38600999) ∧ Below w.heap.size w w' :=
  check_Sum.calls A c [[97, 98, 99]] 38600999 w h hc sum_abc
set_option maxHeartbeats 400000 in
set_option maxRecDepth 100000 in
theorem fourinhandlaw03_awake.calls (r : Bool) (w : World) (h : fourinhandlaw03_awake.f = some r) :
    Calls Try.prog 14 #[] w fun e w' => e = .returned (.bool r) ∧ Below w.heap.size w w' := by
  obtain rfl := Option.some.inj h
  clear h
  have kc := fun (w : World) (C : Array Value) (n c : Nat) => Lib.run_convert_bytes_const (P := Try.prog) w 23 5 C n c Try.underlying23 Try.underlying5
  have hl := lit_reads w [97, 98, 99] (3, 4) (by simp)
  go_enter Try.func14, Try.ntmps14
  have hl2 : ∀ w : World, (Kd.slice 5 (Kd.int .u8)).C ((w.alloc (.cells #[.int .u8 97, .int .u8 98, .int .u8 99] 5 (3, 4))).alloc (.cells #[.slice (some ⟨w.heap.size, 0, none⟩) 3 3] 23)) (some ⟨w.heap.size + 1, 0, none⟩) 1 [[97, 98, 99]] := fun w : World => lit_reads2 w [97, 98, 99] (3, 4) (by simp)
  go_wp2_with (first | (go_at_call 19; (with_reducible refine (seal_abc _ _ _ (by omega) hl).mono ?_); rintro e w1 ⟨A1, c1, rfl, ho1, hb1⟩) | (go_at_call 16; (with_reducible refine (open_abc _ _ _ _ ho1).mono ?_); rintro e w2 ⟨v2, rfl, ho2, hb2⟩) | (go_at_call 21; (with_reducible refine (sum_0 _).mono ?_); rintro e w3 ⟨rfl, hb3⟩) | (go_at_call 21; (with_reducible refine (sum_1 _ _ _ (by omega) (hl2 _)).mono ?_); rintro e w4 ⟨rfl, hb4⟩; have hcv := own_string (P := Try.prog) Try.underlying23 Try.underlying5 Try.underlying9 (Kd.own_of_R (Kd.R_below (Kd.R_below (Kd.R_below ho2.out hb3) (below_alloc (below_alloc (Below.refl _ _) _) _)) hb4))))
  have hs : ((strOfNums [97, 98, 99]).toList == [97, 98, 99]) = true := by decide +kernel
  rw [hs]
  go_ret
  exact ⟨rfl, below_step (below_alloc (below_alloc (below_step (below_step (below_step (below_alloc (Below.refl _ _) _) hb1) hb2) hb3) _) _) hb4⟩
end Go.Proofs.Ytbogmogimoleaaa.Given
