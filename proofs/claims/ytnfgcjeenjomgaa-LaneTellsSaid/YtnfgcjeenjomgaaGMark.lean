/- The walks of with (where nothing is done), mark, and lane.Mark. -/
import Derived.Test.YtnfgcjeenjomgaaGOf
import Derived.Test.YtnfgcjeenjomgaaGMay
namespace Go.Proofs.Ytnfgcjeenjomgaa.Given
open Go.RowKit Go.Proofs.YtnfgcjeenjomgaaW.PrintWords Go.Proofs.YtnfgcjeenjomgaaW.PrintLast Go.Proofs.YtnfgcjeenjomgaaW.PrintMore Go.Proofs.Ytnfgcjeenjomgaa.S
set_option linter.unusedVariables false
set_option linter.unusedSimpArgs false
theorem bytes_R {w : World} {base b : Nat} {ok : Nat → Prop} {l : List Int} (h : w.heap[b]? = some (.cells (byteCells l).toArray 5 (0, 0))) (hb : base ≤ b) (hok : ok b) (hl : l.length ≤ 9223372036854775807) : Kd.R (Kd.int .u8) 5 w base ok (.slice (some ⟨b, 0, none⟩) l.length l.length) l := by
  refine Kd.R_of_own (h1 := fun _ => rfl) ⟨by simp [encs], .inr ⟨b, l.length, _, rfl, hb, h, Nat.le_refl _, by unfold maxLen; omega, by simp [byteCells], ?_⟩⟩ (fun k hk => ?_)
  · rw [List.take_of_length_le (by simp [byteCells])]
    rfl
  · have : b = k := by simpa [Value.ownBlock] using hk
    rw [← this]
    exact hok
/-- Packets that lie as 'of' lays them are a row of the call's own. -/
theorem way_S {w' : World} {base g : Nat} {ok : Nat → Prop} {l : List S29} (hrow : w'.heap[g]? = some (.cells (flat (wayRows g l)).toArray 29 (0, 0))) (hby : ∀ j (h : j < l.length), w'.heap[g + 1 + j]? = some (.cells (byteCells l[j].f0).toArray 5 (0, 0))) (hb : base ≤ g) (hok : ∀ k, g ≤ k → k ≤ g + l.length → ok k) (hs : small l) :
    Kd.S k29 29 w' base ok (.slice (some ⟨g, 0, none⟩) l.length l.length) l := by
  refine S_mk (rows := wayRows g l) (fun k => k - (g + 1)) (wayRows_length _ _) ⟨by rw [flat_length, wayRows_length], .inr ⟨g, l.length, _, rfl, hb, hrow, Nat.le_refl _, by have := hs.1; unfold maxLen; omega, by simp [flat_length, wayRows_length], ?_⟩⟩ (hok g (Nat.le_refl _) (by omega)) ?_
  · rw [List.take_of_length_le (by simp [flat_length, wayRows_length])]
  · intro j h1 h2
    rw [wayRows_get g l j h1 h2]
    refine ⟨bytes_R (hby j h2) (by omega) ⟨⟨hok _ (by omega) (by omega), by omega⟩, by omega⟩ ?_, rfl⟩
    have := hs.2 _ (List.getElem_mem h2)
    omega
theorem way_C {w0 w W : World} {l : List S29} (h : Way w0 w l) (hb : Below w.heap.size w W) (hs : small l) : Kd.C k29 W (some ⟨w0.heap.size, 0, none⟩) l.length l ∧ W.cell? ⟨w0.heap.size + 1 + l.length, 0, none⟩ = some (.slice (some ⟨w0.heap.size, 0, none⟩) l.length l.length) := by
  have hz := h.size
  have hS : Kd.S k29 29 W w0.heap.size (fun _ => True) (.slice (some ⟨w0.heap.size, 0, none⟩) l.length l.length) l :=
    way_S ((hb.block _ (by omega)).trans h.row) (fun j hj => (hb.block _ (by omega)).trans (h.bytes j hj)) (Nat.le_refl _) (fun _ _ _ => trivial) hs
  exact ⟨(Kd.S_reads' hS).2.2, (block_cell ((hb.block _ (by omega)).trans h.way) (by simp)).1⟩
set_option maxHeartbeats 4000000 in
set_option maxRecDepth 100000 in
theorem with_no (w0 w : World) (l : List S29) (i : Int) (fv : Value) (hW : Way w0 w l) (hs : small l) (hno : ¬ (mayB l = true ∧ 0 ≤ i ∧ i < (l.length : Int))) :
    Calls Try.prog 31 #[.pointer (some ⟨w0.heap.size + 1 + l.length, 0, none⟩), .int .i64 i, fv] w fun e w' => e = .returned (.tuple #[.slice (some ⟨w0.heap.size, 0, none⟩) l.length l.length, .bool false]) ∧ Below w.heap.size w w' := by
  obtain ⟨hC, hcell⟩ := way_C hW (Below.refl _ _) hs
  have hM := lane_May.calls _ l.length l (mayB l) w hC (Nat.le_refl _) rfl
  have hlt := World.block_lt_of_cell? w _ hcell
  clear hW hs hC
  cases hm : mayB l with
  | false =>
    rw [hm] at hM
    clear hno hm
    go_enter Try.func31, Try.ntmps31
    go_wp2_with (go_at_call 11; (with_reducible refine hM.mono ?_); rintro e w1 ⟨rfl, hb⟩; have hc1 := (hb.cell (p := ⟨w0.heap.size + 1 + l.length, 0, none⟩) hlt).trans hcell; have HB := Aside0.mk hb; clear hb)
    go_ret2
    exact ⟨rfl, HB.out⟩
  | true =>
    rw [hm] at hM hno
    clear hm
    by_cases c1 : i < 0
    · have cd : decide (i < 0) = true := decide_eq_true c1
      clear hno c1
      go_enter Try.func31, Try.ntmps31
      go_wp2_with (go_at_call 11; (with_reducible refine hM.mono ?_); rintro e w1 ⟨rfl, hb⟩; have hc1 := (hb.cell (p := ⟨w0.heap.size + 1 + l.length, 0, none⟩) hlt).trans hcell; have HB := Aside0.mk hb; clear hb)
      go_ret2
      exact ⟨rfl, HB.out⟩
    · have cd : decide (i < 0) = false := decide_eq_false c1
      have cd2 : decide (i ≥ (l.length : Int)) = true := decide_eq_true (by
        by_cases c2 : i < (l.length : Int)
        · exact absurd ⟨rfl, by omega, c2⟩ hno
        · omega)
      have cd3 : decide ((l.length : Int) ≤ i) = true := cd2
      clear hno c1
      go_enter Try.func31, Try.ntmps31
      go_wp2_with (go_at_call 11; (with_reducible refine hM.mono ?_); rintro e w1 ⟨rfl, hb⟩; have hc1 := (hb.cell (p := ⟨w0.heap.size + 1 + l.length, 0, none⟩) hlt).trans hcell; have HB := Aside0.mk hb; clear hb)
      go_ret2
      exact ⟨rfl, HB.out⟩
set_option maxHeartbeats 4000000 in
set_option maxRecDepth 100000 in
theorem mark_calls (rp : Value) (g i : Nat) (w : World) (v : Value) (hc : w.cell? ⟨g, i * 2 + 1, none⟩ = some v) (hf : w.frozen? ⟨g, i * 2 + 1, none⟩ = false) :
    Calls Try.prog 34 #[rp, .pointer (some ⟨g, i * 2, none⟩)] w fun e w' => e = .returned (.bool true) ∧ w' = w.setCell ⟨g, i * 2 + 1, none⟩ (.bool true) := by
  go_enter Try.func34, Try.ntmps34
  go_wp2
  go_ret
  exact ⟨rfl, rfl⟩
set_option maxHeartbeats 4000000 in
set_option maxRecDepth 100000 in
theorem with_mark (w0 w : World) (l : List S29) (i : Nat) (hW : Way w0 w l) (hs : small l) (hm : mayB l = true) (hi : i < l.length) :
    Calls Try.prog 31 #[.pointer (some ⟨w0.heap.size + 1 + l.length, 0, none⟩), .int .i64 (i : Int), .func (.func 34) #[.pointer (some ⟨w0.heap.size + 1 + l.length, 0, none⟩)] #[]] w fun e w' =>
      e = .returned (.tuple #[.slice (some ⟨w0.heap.size, 0, none⟩) l.length l.length, .bool true]) ∧ ∃ W, Below w.heap.size w W ∧ w' = W.setCell ⟨w0.heap.size, i * 2 + 1, none⟩ (.bool true) := by
  obtain ⟨hC, hcell⟩ := way_C hW (Below.refl _ _) hs
  have hM := lane_May.calls _ l.length l (mayB l) w hC (Nat.le_refl _) rfl
  rw [hm] at hM
  have hlt := World.block_lt_of_cell? w _ hcell
  have hD := fun W (hb : Below w.heap.size w W) => mark_calls (.pointer (some ⟨w0.heap.size + 1 + l.length, 0, none⟩)) w0.heap.size i W _ ((hb.cell (by show w0.heap.size < _; have := hW.size; omega)).trans (block_cell (j := i * 2 + 1) hW.row (by simp [flat_length, wayRows_length]; omega)).1) ((hb.frozen (by show w0.heap.size < _; have := hW.size; omega)).trans (block_cell (j := i * 2 + 1) hW.row (by simp [flat_length, wayRows_length]; omega)).2)
  have hne : w0.heap.size ≠ w0.heap.size + 1 + l.length := by omega
  have hl := hs.1
  have cd1 : decide ((i : Int) < 0) = false := decide_eq_false (by omega)
  have cd3 : decide ((l.length : Int) ≤ (i : Int)) = false := decide_eq_false (by omega)
  have cd2 : decide ((i : Int) ≥ (l.length : Int)) = false := cd3
  clear hW hs hC hm
  go_enter Try.func31, Try.ntmps31
  go_wp2_with (first | (go_at_call 11; (with_reducible refine hM.mono ?_); rintro e w1 ⟨rfl, hb⟩; have hc1 := (hb.cell (p := ⟨w0.heap.size + 1 + l.length, 0, none⟩) hlt).trans hcell; have hD1 := hD _ hb; have HB := Aside0.mk hb; clear hb) | (go_at_call 34; (with_reducible refine hD1.mono ?_); rintro e w2 ⟨rfl, rfl⟩))
  go_ret2
  exact ⟨rfl, _, HB.out, rfl⟩
theorem wayRows_mark (g : Nat) (l : List S29) (i : Nat) (hi : i < l.length) : (flat (wayRows g l)).set (i * 2 + 1) (.bool true) = flat (wayRows g (l.set i ⟨l[i].f0, true⟩)) := by
  rw [flat_set2 _ i true (by rw [wayRows_length]; exact hi), wayRows_get g l i (by rw [wayRows_length]; exact hi) hi]
  congr 1
  apply List.ext_getElem
  · simp [wayRows]
  · intro j h1 h2
    have hj : j < l.length := by simpa [wayRows] using h1
    rw [List.getElem_set, wayRows_get g _ j h2 (by simpa using hj)]
    by_cases e : i = j
    · subst e
      simp
    · rw [if_neg e, wayRows_get g l j (by rw [wayRows_length]; exact hj) hj]
      simp [e]
def markB (l : List S29) (i : Int) : List S29 × Bool := if mayB l = true ∧ 0 ≤ i ∧ i < (l.length : Int) then (l.set i.toNat ⟨(rd_T29 l i).f0, true⟩, true) else (l, false)
instance smallDec (l : List S29) : Decidable (small l) := by unfold small; exact inferInstance
def lane_Mark.f (l0 : List S29) (a1 : Int) : Option (List S29 × Bool) := if small l0 then some (markB l0 a1) else none
theorem rdT (l : List S29) (i : Nat) (h : i < l.length) : rd_T29 l (i : Int) = l[i] := by unfold rd_T29; simp [List.getD_eq_getElem?_getD, h]
theorem small_set {l : List S29} (h : small l) (i : Nat) (x : S29) (hx : x.f0.length ≤ 1000000) : small (l.set i x) := by
  refine ⟨by rw [List.length_set]; exact h.1, fun y hy => ?_⟩
  rcases List.mem_or_eq_of_mem_set hy with h1 | h1
  · exact h.2 y h1
  · rw [h1]; exact hx
set_option maxHeartbeats 4000000 in
set_option maxRecDepth 100000 in
theorem lane_Mark.calls (A0 : Option Addr) (c0 : Nat) (l0 : List S29) (a1 : Int) (r1 : List S29) (r2 : Bool) (w : World) (hr0 : Kd.C k29 w A0 l0.length l0) (hc0 : l0.length ≤ c0) (h : lane_Mark.f l0 a1 = some (r1, r2)) :
    Calls Try.prog 21 #[.slice A0 l0.length c0, .int .i64 a1] w fun e w' => ∃ v0_ : Value, e = .returned (.tuple #[v0_, .bool r2]) ∧ Kd.S k29 29 w' w.heap.size (fun _ => True) v0_ r1 ∧ Below w.heap.size w w' := by
  unfold lane_Mark.f at h
  split at h
  · rename_i hs
    have h2 := Option.some.inj h
    clear h
    have hO := of_calls A0 c0 l0 w hr0 hs
    have HS := Aside0.mk hs
    unfold markB at h2
    split at h2
    · rename_i hc
      simp only [Prod.mk.injEq] at h2
      obtain ⟨rfl, rfl⟩ := h2
      obtain ⟨hm, h0, h1⟩ := hc
      obtain ⟨i, rfl⟩ : ∃ i : Nat, a1 = i := ⟨a1.toNat, by omega⟩
      have hi : i < l0.length := by omega
      have hD := fun W (hW : Way w W l0) => with_mark w W l0 i hW hs hm hi
      have HM := Aside0.mk hm
      have HI := Aside0.mk hi
      clear hm h0 h1 hi hs hr0
      go_enter Try.func21, Try.ntmps21
      go_wp2_with (first | (go_at_call 28; (with_reducible refine hO.mono ?_); rintro e w1 ⟨rfl, hW⟩; have hD1 := hD _ hW; have HW := Aside0.mk hW; clear hW) | (go_at_call 31; (with_reducible refine hD1.mono ?_); rintro e w2 ⟨rfl, W, hbW, rfl⟩))
      go_ret2
      have hW := HW.out
      have hz := hW.size
      have hi := HI.out
      have hrow := (hbW.block w.heap.size (by omega)).trans hW.row
      have hbt := But.setCell W w.heap.size (i * 2 + 1) (.bool true)
      have hset := set_block (j := i * 2 + 1) hrow (.bool true) rfl (by simp [flat_length, wayRows_length]; omega)
      rw [List.setIfInBounds_toArray, wayRows_mark w.heap.size l0 i hi] at hset
      rw [rdT l0 i hi, Int.toNat_natCast]
      have hb2 := HS.out.2 l0[i] (List.getElem_mem _)
      have hl : (l0.set i ⟨l0[i].f0, true⟩).length = l0.length := List.length_set
      refine ⟨_, rfl, ?_, (hW.below.trans (hbW.mono hW.below.size)).trans (hbt.below (Nat.le_refl _))⟩
      have := way_S (w' := W.setCell ⟨w.heap.size, i * 2 + 1, none⟩ (.bool true)) (base := w.heap.size) (ok := fun _ => True) hset (fun j hj => by
        rw [hl] at hj
        rw [hbt.block _ (by omega), hbW.block _ (by omega), hW.bytes j hj]
        congr 3
        rw [List.getElem_set]
        split
        · rename_i e
          subst e
          rfl
        · rfl) (Nat.le_refl _) (fun _ _ _ => trivial) (small_set HS.out i _ hb2)
      rw [hl] at this
      exact this
    · rename_i hc
      simp only [Prod.mk.injEq] at h2
      obtain ⟨rfl, rfl⟩ := h2
      have hD := fun W (hW : Way w W l0) fv => with_no w W l0 a1 fv hW hs hc
      clear hs hr0 hc
      go_enter Try.func21, Try.ntmps21
      go_wp2_with (first | (go_at_call 28; (with_reducible refine hO.mono ?_); rintro e w1 ⟨rfl, hW⟩; have hD1 := hD _ hW; have HW := Aside0.mk hW; clear hW) | (go_at_call 31; (with_reducible refine (hD1 _).mono ?_); rintro e w2 ⟨rfl, hb⟩; have HB := Aside0.mk hb; clear hb))
      go_ret2
      have hW := HW.out
      have hz := hW.size
      have hbW := HB.out
      exact ⟨_, rfl, way_S ((hbW.block _ (by omega)).trans hW.row) (fun j hj => (hbW.block _ (by omega)).trans (hW.bytes j hj)) (Nat.le_refl _) (fun _ _ _ => trivial) HS.out, hW.below.trans (hbW.mono hW.below.size)⟩
  · cases h
end Go.Proofs.Ytnfgcjeenjomgaa.Given
