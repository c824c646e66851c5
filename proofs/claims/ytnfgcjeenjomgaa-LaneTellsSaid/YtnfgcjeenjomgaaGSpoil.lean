/- The walks of the closure of lane.Spoil, and of lane.Spoil. -/
import Derived.Test.YtnfgcjeenjomgaaGMark
import Derived.Deep.QuietTactic
import Derived.BigQuiet
import Derived.StillTailTactics
import Derived.BigRegion
namespace Go.Proofs.Ytnfgcjeenjomgaa.Given
open Go.RowKit Go.Proofs.YtnfgcjeenjomgaaW.PrintWords Go.Proofs.YtnfgcjeenjomgaaW.PrintLast Go.Proofs.YtnfgcjeenjomgaaW.PrintMore Go.Proofs.Ytnfgcjeenjomgaa.S
set_option linter.unusedVariables false
set_option linter.unusedSimpArgs false
set_option maxHeartbeats 4000000 in
set_option maxRecDepth 100000 in
theorem spoil_no (g i b6 b7 b n : Nat) (at_ : Int) (W : World) (hA : W.cell? ⟨b6, 0, none⟩ = some (.int .i64 at_)) (hB : W.cell? ⟨g, i * 2, none⟩ = some (.slice (some ⟨b, 0, none⟩) n n)) (hn : n ≤ 1000000) (hno : ¬ (0 ≤ at_ ∧ at_ < (n : Int))) :
    Calls Try.prog 35 #[.pointer (some ⟨g, i * 2, none⟩), .pointer (some ⟨b6, 0, none⟩), .pointer (some ⟨b7, 0, none⟩)] W fun e w' => e = .returned (.bool false) ∧ ∃ nd, w' = W.drewN nd := by
  by_cases c : at_ < 0
  · have cd : decide (at_ < 0) = true := decide_eq_true c
    clear hno c
    go_enter Try.func35, Try.ntmps35
    go_wp2
    go_quiet (fail)
    go_wp2
    go_ret
    exact ⟨rfl, _, rfl⟩
  · have cd : decide (at_ < 0) = false := decide_eq_false c
    have cd2 : decide ((n : Int) ≤ at_) = true := decide_eq_true (by omega)
    clear hno c
    go_enter Try.func35, Try.ntmps35
    go_wp2
    go_quiet (fail)
    go_wp2
    go_ret
    exact ⟨rfl, _, rfl⟩
set_option maxHeartbeats 4000000 in
set_option maxRecDepth 100000 in
theorem spoil_yes (g i b6 b7 b n at_ : Nat) (x by_ : Int) (W : World) (hA : W.cell? ⟨b6, 0, none⟩ = some (.int .i64 (at_ : Int))) (hY : W.cell? ⟨b7, 0, none⟩ = some (.int .u8 by_)) (hB : W.cell? ⟨g, i * 2, none⟩ = some (.slice (some ⟨b, 0, none⟩) n n)) (hn : n ≤ 1000000) (hlt : at_ < n)
    (hX : W.cell? ⟨b, at_, none⟩ = some (.int .u8 x)) (hF : W.frozen? ⟨b, at_, none⟩ = false) :
    Calls Try.prog 35 #[.pointer (some ⟨g, i * 2, none⟩), .pointer (some ⟨b6, 0, none⟩), .pointer (some ⟨b7, 0, none⟩)] W fun e w' => e = .returned (.bool true) ∧ ∃ nd, w' = (W.drewN nd).setCell ⟨b, at_, none⟩ (.int .u8 (Go.bits .xor .u8 x by_)) := by
  have cd : decide ((at_ : Int) < 0) = false := decide_eq_false (by omega)
  have cd2 : decide ((n : Int) ≤ (at_ : Int)) = false := decide_eq_false (by omega)
  have hq0 : (0 : Int) ≤ (at_ : Int) := by omega
  have hq1 : (at_ : Int) < (n : Int) := by omega
  go_enter Try.func35, Try.ntmps35
  go_wp2
  go_quiet (fail)
  go_wp2
  go_region
  all_goals
    go_wp2
    go_ret
    refine ⟨rfl, nq + 1, ?_⟩
    rfl
/-- What the two boxes hold. -/
structure Boxes (w : World) (b6 b7 B : Nat) (at_ by_ : Int) : Prop where
  a : w.cell? ⟨b6, 0, none⟩ = some (.int .i64 at_)
  b : w.cell? ⟨b7, 0, none⟩ = some (.int .u8 by_)
  la : b6 < B
  lb : b7 < B
theorem Boxes.later {w w' : World} {b6 b7 B : Nat} {at_ by_ : Int} (h : Boxes w b6 b7 B at_ by_) (hb : Below B w w') : Boxes w' b6 b7 B at_ by_ :=
  ⟨(hb.cell h.la).trans h.a, (hb.cell h.lb).trans h.b, h.la, h.lb⟩
theorem way_row {w0 w W : World} {l : List S29} (h : Way w0 w l) (hb : Below w.heap.size w W) (i : Nat) (hi : i < l.length) : W.cell? ⟨w0.heap.size, i * 2, none⟩ = some (.slice (some ⟨w0.heap.size + 1 + i, 0, none⟩) l[i].f0.length l[i].f0.length) := by
  have hz := h.size
  have hb2 := (hb.block w0.heap.size (by omega)).trans h.row
  have := (block_cell (j := i * 2) hb2 (by simp [flat_length, wayRows_length]; omega)).1
  rw [this]
  have hf := flat_even (wayRows w0.heap.size l) i (by rw [wayRows_length]; exact hi)
  rw [wayRows_get _ _ i (by rw [wayRows_length]; exact hi) hi] at hf
  simpa using (List.getElem?_eq_some_iff.1 hf).2
theorem way_byte {w0 w W : World} {l : List S29} (h : Way w0 w l) (hb : Below w.heap.size w W) (i : Nat) (hi : i < l.length) (j : Nat) (hj : j < l[i].f0.length) : W.cell? ⟨w0.heap.size + 1 + i, j, none⟩ = some (.int .u8 (rd l[i].f0 (j : Int))) ∧ W.frozen? ⟨w0.heap.size + 1 + i, j, none⟩ = false := by
  have hz := h.size
  have hb2 := (hb.block (w0.heap.size + 1 + i) (by omega)).trans (h.bytes i hi)
  obtain ⟨a, b⟩ := block_cell (j := j) hb2 (by simp [byteCells]; omega)
  refine ⟨?_, b⟩
  rw [a]
  simp [byteCells, rd, List.getD_eq_getElem?_getD, hj]
set_option maxHeartbeats 4000000 in
set_option maxRecDepth 100000 in
theorem with_spoil_no (w0 w : World) (l : List S29) (i b6 b7 : Nat) (at_ by_ : Int) (hW : Way w0 w l) (hs : small l) (hm : mayB l = true) (hi : i < l.length) (hbx : Boxes w b6 b7 w.heap.size at_ by_) (hno : ¬ (0 ≤ at_ ∧ at_ < (l[i].f0.length : Int))) :
    Calls Try.prog 31 #[.pointer (some ⟨w0.heap.size + 1 + l.length, 0, none⟩), .int .i64 (i : Int), .func (.func 35) #[] #[.pointer (some ⟨b6, 0, none⟩), .pointer (some ⟨b7, 0, none⟩)]] w fun e w' =>
      e = .returned (.tuple #[.slice (some ⟨w0.heap.size, 0, none⟩) l.length l.length, .bool false]) ∧ Below w.heap.size w w' := by
  obtain ⟨hC, hcell⟩ := way_C hW (Below.refl _ _) hs
  have hM := lane_May.calls _ l.length l (mayB l) w hC (Nat.le_refl _) rfl
  rw [hm] at hM
  have hlt := World.block_lt_of_cell? w _ hcell
  have hD := fun W (hb : Below w.heap.size w W) => spoil_no w0.heap.size i b6 b7 (w0.heap.size + 1 + i) l[i].f0.length at_ W (hbx.later hb).a (way_row hW hb i hi) (hs.2 _ (List.getElem_mem hi)) hno
  have hl := hs.1
  have cd1 : decide ((i : Int) < 0) = false := decide_eq_false (by omega)
  have cd3 : decide ((l.length : Int) ≤ (i : Int)) = false := decide_eq_false (by omega)
  have cd2 : decide ((i : Int) ≥ (l.length : Int)) = false := cd3
  clear hW hs hC hm hbx hno
  go_enter Try.func31, Try.ntmps31
  go_wp2_with (first | (go_at_call 11; (with_reducible refine hM.mono ?_); rintro e w1 ⟨rfl, hb⟩; have hc1 := (hb.cell (p := ⟨w0.heap.size + 1 + l.length, 0, none⟩) hlt).trans hcell; have hD1 := hD _ hb; have HB := Aside0.mk hb; clear hb) | (go_at_call 35; (with_reducible refine hD1.mono ?_); rintro e w2 ⟨rfl, nd, rfl⟩))
  go_ret2
  exact ⟨rfl, pw_below_drewN HB.out _⟩
set_option maxHeartbeats 4000000 in
set_option maxRecDepth 100000 in
theorem with_spoil (w0 w : World) (l : List S29) (i b6 b7 at_ : Nat) (by_ : Int) (hW : Way w0 w l) (hs : small l) (hm : mayB l = true) (hi : i < l.length) (hbx : Boxes w b6 b7 w.heap.size at_ by_) (hlt2 : at_ < l[i].f0.length) :
    Calls Try.prog 31 #[.pointer (some ⟨w0.heap.size + 1 + l.length, 0, none⟩), .int .i64 (i : Int), .func (.func 35) #[] #[.pointer (some ⟨b6, 0, none⟩), .pointer (some ⟨b7, 0, none⟩)]] w fun e w' =>
      e = .returned (.tuple #[.slice (some ⟨w0.heap.size, 0, none⟩) l.length l.length, .bool true]) ∧ ∃ W, Below w.heap.size w W ∧ w' = W.setCell ⟨w0.heap.size + 1 + i, at_, none⟩ (.int .u8 (Go.bits .xor .u8 (rd l[i].f0 (at_ : Int)) by_)) := by
  obtain ⟨hC, hcell⟩ := way_C hW (Below.refl _ _) hs
  have hM := lane_May.calls _ l.length l (mayB l) w hC (Nat.le_refl _) rfl
  rw [hm] at hM
  have hlt := World.block_lt_of_cell? w _ hcell
  have hD := fun W (hb : Below w.heap.size w W) => spoil_yes w0.heap.size i b6 b7 (w0.heap.size + 1 + i) l[i].f0.length at_ (rd l[i].f0 (at_ : Int)) by_ W (hbx.later hb).a (hbx.later hb).b (way_row hW hb i hi) (hs.2 _ (List.getElem_mem hi)) hlt2 (way_byte hW hb i hi at_ hlt2).1 (way_byte hW hb i hi at_ hlt2).2
  have hl := hs.1
  have hne : w0.heap.size + 1 + l.length ≠ w0.heap.size + 1 + i := by omega
  have cd1 : decide ((i : Int) < 0) = false := decide_eq_false (by omega)
  have cd3 : decide ((l.length : Int) ≤ (i : Int)) = false := decide_eq_false (by omega)
  have cd2 : decide ((i : Int) ≥ (l.length : Int)) = false := cd3
  generalize l[i].f0 = f0 at *
  generalize Go.bits .xor .u8 (rd f0 (at_ : Int)) by_ = nb at *
  clear hW hs hC hm hbx hlt2
  go_enter Try.func31, Try.ntmps31
  go_wp2_with (first | (go_at_call 11; (with_reducible refine hM.mono ?_); rintro e w1 ⟨rfl, hb⟩; have hc1 := (hb.cell (p := ⟨w0.heap.size + 1 + l.length, 0, none⟩) hlt).trans hcell; have hD1 := hD _ hb; have HB := Aside0.mk hb; clear hb) | (go_at_call 35; (with_reducible refine hD1.mono ?_); rintro e w2 ⟨rfl, nd, rfl⟩))
  go_ret2
  exact ⟨rfl, _, pw_below_drewN HB.out _, rfl⟩
def spoilB (l : List S29) (i at_ by_ : Int) : List S29 × Bool :=
  if (mayB l = true ∧ 0 ≤ i ∧ i < (l.length : Int)) ∧ 0 ≤ at_ ∧ at_ < ((rd_T29 l i).f0.length : Int) then (l.set i.toNat ⟨(rd_T29 l i).f0.set at_.toNat (Go.bits .xor .u8 (rd (rd_T29 l i).f0 at_) by_), (rd_T29 l i).f1⟩, true) else (l, false)
def lane_Spoil.f (l0 : List S29) (a1 a2 a3 : Int) : Option (List S29 × Bool) := if small l0 then some (spoilB l0 a1 a2 a3) else none
theorem wayRows_len (g : Nat) (l : List S29) (i : Nat) (hi : i < l.length) (x : S29) (h1 : x.f0.length = l[i].f0.length) (h2 : x.f1 = l[i].f1) : wayRows g (l.set i x) = wayRows g l := by
  apply List.ext_getElem
  · simp [wayRows]
  · intro j a b
    have hj : j < l.length := by simpa [wayRows] using b
    rw [wayRows_get g _ j a (by simpa using hj), wayRows_get g l j b hj]
    by_cases e : i = j
    · subst e
      simp [h1, h2]
    · simp [e]
set_option maxHeartbeats 4000000 in
set_option maxRecDepth 100000 in
theorem lane_Spoil.calls (A0 : Option Addr) (c0 : Nat) (l0 : List S29) (a1 a2 a3 : Int) (r1 : List S29) (r2 : Bool) (w : World) (hr0 : Kd.C k29 w A0 l0.length l0) (hc0 : l0.length ≤ c0) (h : lane_Spoil.f l0 a1 a2 a3 = some (r1, r2)) :
    Calls Try.prog 23 #[.slice A0 l0.length c0, .int .i64 a1, .int .i64 a2, .int .u8 a3] w fun e w' => ∃ v0_ : Value, e = .returned (.tuple #[v0_, .bool r2]) ∧ Kd.S k29 29 w' w.heap.size (fun _ => True) v0_ r1 ∧ Below w.heap.size w w' := by
  unfold lane_Spoil.f at h
  split at h
  · rename_i hs
    have h2 := Option.some.inj h
    clear h
    have hO := of_calls A0 c0 l0 ((w.alloc (.cells #[.int .i64 a2] 3)).alloc (.cells #[.int .u8 a3] 5)) (Kd.C_alloc (Kd.C_alloc hr0 _) _) hs
    have HS := Aside0.mk hs
    have hsz0 : ((w.alloc (.cells #[.int .i64 a2] 3)).alloc (.cells #[.int .u8 a3] 5)).heap.size = w.heap.size + 2 := by
      show ((w.heap.push _).push _).size = _
      rw [Array.size_push, Array.size_push]
    have hbl0 : Below w.heap.size w ((w.alloc (.cells #[.int .i64 a2] 3)).alloc (.cells #[.int .u8 a3] 5)) := below_alloc (below_alloc (Below.refl _ _) _) _
    have hB0 : Boxes ((w.alloc (.cells #[.int .i64 a2] 3)).alloc (.cells #[.int .u8 a3] 5)) w.heap.size (w.heap.size + 1) (w.heap.size + 2) a2 a3 := by
      refine ⟨?_, ?_, by omega, by omega⟩
      · refine (block_cell (cur := #[.int .i64 a2]) (t := 3) (j := 0) ?_ (by simp)).1
        rw [Below.heap_alloc _ _ _ (by show _ < (w.heap.push _).size; rw [Array.size_push]; omega)]
        show (w.heap.push _)[w.heap.size]? = _
        exact Array.getElem?_push_size
      · refine (block_cell (cur := #[.int .u8 a3]) (t := 5) (j := 0) ?_ (by simp)).1
        have hsz1 : (w.alloc (.cells #[.int .i64 a2] 3)).heap.size = w.heap.size + 1 := by show (w.heap.push _).size = _; rw [Array.size_push]
        rw [← hsz1]
        show ((w.alloc (.cells #[.int .i64 a2] 3)).heap.push _)[_]? = _
        exact Array.getElem?_push_size
    obtain ⟨g, hg⟩ : ∃ g, g = ((w.alloc (.cells #[.int .i64 a2] 3)).alloc (.cells #[.int .u8 a3] 5)).heap.size := ⟨_, rfl⟩
    rw [← hg] at hO
    unfold spoilB at h2
    by_cases hc : mayB l0 = true ∧ 0 ≤ a1 ∧ a1 < (l0.length : Int)
    · obtain ⟨hm, h0, h1⟩ := hc
      obtain ⟨i, rfl⟩ : ∃ i : Nat, a1 = i := ⟨a1.toNat, by omega⟩
      have hi : i < l0.length := by omega
      rw [rdT l0 i hi, Int.toNat_natCast] at h2
      split at h2
      · rename_i hc2
        simp only [Prod.mk.injEq] at h2
        obtain ⟨rfl, rfl⟩ := h2
        obtain ⟨_, h3, h4⟩ := hc2
        obtain ⟨at_, rfl⟩ : ∃ n : Nat, a2 = n := ⟨a2.toNat, by omega⟩
        have hat : at_ < l0[i].f0.length := by omega
        rw [Int.toNat_natCast]
        have hD := fun W (hW : Way ((w.alloc (.cells #[.int .i64 (at_ : Int)] 3)).alloc (.cells #[.int .u8 a3] 5)) W l0) => with_spoil _ W l0 i w.heap.size (w.heap.size + 1) at_ a3 hW hs hm hi (by
          have hw := hW.below
          rw [hsz0] at hw
          have := hB0.later hw
          have hz := hW.size
          rw [hsz0] at hz
          exact ⟨this.a, this.b, by omega, by omega⟩) hat
        simp only [← hg] at hD
        have HGG := Aside0.mk hg
        clear hg
        have HSZ := Aside0.mk hsz0
        have HBL := Aside0.mk hbl0
        have HI := Aside0.mk hi
        have HAT := Aside0.mk hat
        clear hm h0 h1 hs hr0 hB0 hsz0 hbl0 h3 h4
        go_enter Try.func23, Try.ntmps23
        go_wp2_with (first | (go_at_call 28; (with_reducible refine hO.mono ?_); rintro e w1 ⟨rfl, hW⟩; have hD1 := hD _ hW; have HW := Aside0.mk hW; clear hW) | (go_at_call 31; (with_reducible refine hD1.mono ?_); rintro e w2 ⟨rfl, W, hbW, rfl⟩))
        go_ret2
        have hW := HW.out
        have hz := hW.size
        have hz0 := HSZ.out
        have hi := HI.out
        have hat := HAT.out
        have hg := HGG.out
        generalize ((w.alloc (.cells #[.int .i64 (at_ : Int)] 3)).alloc (.cells #[.int .u8 a3] 5)) = wz at *
        subst hg
        have hbt := But.setCell W (wz.heap.size + 1 + i) at_ (.int .u8 (Go.bits .xor .u8 (rd l0[i].f0 (at_ : Int)) a3))
        have hrow := (hbW.block wz.heap.size (by omega)).trans hW.row
        have hby := (hbW.block (wz.heap.size + 1 + i) (by omega)).trans (hW.bytes i hi)
        have hset := set_block (j := at_) hby (.int .u8 (Go.bits .xor .u8 (rd l0[i].f0 (at_ : Int)) a3)) rfl (by simp [byteCells]; omega)
        have hb2 := HS.out.2 l0[i] (List.getElem_mem _)
        have hbelow : Below w.heap.size w (W.setCell ⟨wz.heap.size + 1 + i, at_, none⟩ (.int .u8 (Go.bits .xor .u8 (rd l0[i].f0 (at_ : Int)) a3))) :=
          (HBL.out.trans ((hW.below.mono (by omega)).trans (hbW.mono (by have := hW.below.size; omega)))).trans (hbt.below (by omega))
        have hl : (l0.set i ⟨l0[i].f0.set at_ (Go.bits .xor .u8 (rd l0[i].f0 (at_ : Int)) a3), l0[i].f1⟩).length = l0.length := List.length_set
        refine ⟨_, rfl, ?_, hbelow⟩
        have := way_S (w' := W.setCell ⟨wz.heap.size + 1 + i, at_, none⟩ (.int .u8 (Go.bits .xor .u8 (rd l0[i].f0 (at_ : Int)) a3))) (base := w.heap.size) (g := wz.heap.size) (ok := fun _ => True) (l := l0.set i ⟨l0[i].f0.set at_ (Go.bits .xor .u8 (rd l0[i].f0 (at_ : Int)) a3), l0[i].f1⟩)
          (by rw [hbt.block _ (by omega), hrow, wayRows_len wz.heap.size l0 i hi ⟨l0[i].f0.set at_ (Go.bits .xor .u8 (rd l0[i].f0 (at_ : Int)) a3), l0[i].f1⟩ (by simp) rfl]) (fun j hj => by
            rw [hl] at hj
            by_cases e : i = j
            · subst e
              rw [hset]
              simp [byteCells, List.map_set]
            · rw [hbt.block _ (by omega), hbW.block _ (by omega), hW.bytes j hj]
              simp [e]) (by omega) (fun _ _ _ => trivial) (small_set HS.out i _ (by rw [List.length_set]; exact hb2))
        rw [hl] at this
        exact this
      · rename_i hc2
        simp only [Prod.mk.injEq] at h2
        obtain ⟨rfl, rfl⟩ := h2
        have hno : ¬ (0 ≤ a2 ∧ a2 < (l0[i].f0.length : Int)) := fun hh => hc2 ⟨⟨hm, h0, h1⟩, hh⟩
        have hD := fun W (hW : Way ((w.alloc (.cells #[.int .i64 a2] 3)).alloc (.cells #[.int .u8 a3] 5)) W l0) => with_spoil_no _ W l0 i w.heap.size (w.heap.size + 1) a2 a3 hW hs hm hi (by
          have hw := hW.below
          rw [hsz0] at hw
          have := hB0.later hw
          have hz := hW.size
          rw [hsz0] at hz
          exact ⟨this.a, this.b, by omega, by omega⟩) hno
        simp only [← hg] at hD
        have HGG := Aside0.mk hg
        clear hg
        have HSZ := Aside0.mk hsz0
        have HBL := Aside0.mk hbl0
        clear hm h0 h1 hs hr0 hB0 hsz0 hbl0 hc2
        go_enter Try.func23, Try.ntmps23
        go_wp2_with (first | (go_at_call 28; (with_reducible refine hO.mono ?_); rintro e w1 ⟨rfl, hW⟩; have hD1 := hD _ hW; have HW := Aside0.mk hW; clear hW) | (go_at_call 31; (with_reducible refine hD1.mono ?_); rintro e w2 ⟨rfl, hb⟩; have HB := Aside0.mk hb; clear hb))
        go_ret2
        have hW := HW.out
        have hz := hW.size
        have hz0 := HSZ.out
        have hbW := HB.out
        have hg := HGG.out
        rw [hg]
        exact ⟨_, rfl, way_S ((hbW.block _ (by omega)).trans hW.row) (fun j hj => (hbW.block _ (by omega)).trans (hW.bytes j hj)) (by omega) (fun _ _ _ => trivial) HS.out, HBL.out.trans ((hW.below.mono (by omega)).trans (hbW.mono (by have := hW.below.size; omega)))⟩
    · rw [if_neg (fun hh => hc hh.1)] at h2
      simp only [Prod.mk.injEq] at h2
      obtain ⟨rfl, rfl⟩ := h2
      have hD := fun W (hW : Way ((w.alloc (.cells #[.int .i64 a2] 3)).alloc (.cells #[.int .u8 a3] 5)) W l0) fv => with_no _ W l0 a1 fv hW hs hc
      simp only [← hg] at hD
      have HGG := Aside0.mk hg
      clear hg
      have HSZ := Aside0.mk hsz0
      have HBL := Aside0.mk hbl0
      clear hs hr0 hB0 hsz0 hbl0 hc
      go_enter Try.func23, Try.ntmps23
      go_wp2_with (first | (go_at_call 28; (with_reducible refine hO.mono ?_); rintro e w1 ⟨rfl, hW⟩; have hD1 := hD _ hW; have HW := Aside0.mk hW; clear hW) | (go_at_call 31; (with_reducible refine (hD1 _).mono ?_); rintro e w2 ⟨rfl, hb⟩; have HB := Aside0.mk hb; clear hb))
      go_ret2
      have hW := HW.out
      have hz := hW.size
      have hz0 := HSZ.out
      have hbW := HB.out
      have hg := HGG.out
      rw [hg]
      exact ⟨_, rfl, way_S ((hbW.block _ (by omega)).trans hW.row) (fun j hj => (hbW.block _ (by omega)).trans (hW.bytes j hj)) (by omega) (fun _ _ _ => trivial) HS.out, HBL.out.trans ((hW.below.mono (by omega)).trans (hbW.mono (by have := hW.below.size; omega)))⟩
  · cases h
end Go.Proofs.Ytnfgcjeenjomgaa.Given
