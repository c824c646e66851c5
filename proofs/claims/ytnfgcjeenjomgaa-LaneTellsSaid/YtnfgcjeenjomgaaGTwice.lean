/- The walks of twice and lane.Twice. -/
import Derived.Test.YtnfgcjeenjomgaaGPush
import Derived.Test.YtnfgcjeenjomgaaGSpoil
namespace Go.Proofs.Ytnfgcjeenjomgaa.Given
open Go.RowKit Go.Proofs.YtnfgcjeenjomgaaW.PrintWords Go.Proofs.YtnfgcjeenjomgaaW.PrintLast Go.Proofs.YtnfgcjeenjomgaaW.PrintMore Go.Proofs.Ytnfgcjeenjomgaa.S
set_option linter.unusedVariables false
set_option linter.unusedSimpArgs false
theorem way_flag {w0 w W : World} {l : List S29} (h : Way w0 w l) (hb : Below w.heap.size w W) (i : Nat) (hi : i < l.length) : W.cell? ⟨w0.heap.size, i * 2 + 1, none⟩ = some (.bool l[i].f1) := by
  have hz := h.size
  have hb2 := (hb.block w0.heap.size (by omega)).trans h.row
  have := (block_cell (j := i * 2 + 1) hb2 (by simp [flat_length, wayRows_length]; omega)).1
  rw [this]
  have hf := flat_odd (wayRows w0.heap.size l) i (by rw [wayRows_length]; exact hi)
  rw [wayRows_get _ _ i (by rw [wayRows_length]; exact hi) hi] at hf
  simpa using (List.getElem?_eq_some_iff.1 hf).2
set_option maxHeartbeats 4000000 in
set_option maxRecDepth 100000 in
theorem twice_calls (hw g i : Nat) (A : Option Addr) (nb c : Nat) (m : Bool) (W : World) (Q : Ending → World → Prop) (h0 : W.cell? ⟨g, i * 2, none⟩ = some (.slice A nb c)) (h1 : W.cell? ⟨g, i * 2 + 1, none⟩ = some (.bool m)) (b : Bool)
    (hP : Calls Try.prog 29 #[.pointer (some ⟨hw, 0, none⟩), .agg #[.slice A nb c, .bool m]] W fun e w' => e = .returned (.bool b) ∧ Q e w') :
    Calls Try.prog 32 #[.pointer (some ⟨hw, 0, none⟩), .pointer (some ⟨g, i * 2, none⟩)] W fun e w' => e = .returned (.bool b) ∧ Q e w' := by
  go_enter Try.func32, Try.ntmps32
  go_wp2_with (go_at_call 29; (with_reducible refine hP.mono ?_); rintro e w2 ⟨rfl, hq⟩)
  go_ret
  exact ⟨rfl, hq⟩
def twiceB (l : List S29) (i : Int) : List S29 × Bool := if (mayB l = true ∧ 0 ≤ i ∧ i < (l.length : Int)) ∧ l.length < 64 then (l ++ [rd_T29 l i], true) else (l, false)
def lane_Twice.f (l0 : List S29) (a1 : Int) : Option (List S29 × Bool) := if small l0 then some (twiceB l0 a1) else none
set_option maxHeartbeats 4000000 in
set_option maxRecDepth 100000 in
theorem with_twice_no (w0 w : World) (l : List S29) (i : Nat) (hW : Way w0 w l) (hs : small l) (hm : mayB l = true) (hi : i < l.length) (hno : ¬ l.length < 64) :
    Calls Try.prog 31 #[.pointer (some ⟨w0.heap.size + 1 + l.length, 0, none⟩), .int .i64 (i : Int), .func (.func 32) #[.pointer (some ⟨w0.heap.size + 1 + l.length, 0, none⟩)] #[]] w fun e w' =>
      e = .returned (.tuple #[.slice (some ⟨w0.heap.size, 0, none⟩) l.length l.length, .bool false]) ∧ Below w.heap.size w w' := by
  obtain ⟨hC, hcell⟩ := way_C hW (Below.refl _ _) hs
  have hM := lane_May.calls _ l.length l (mayB l) w hC (Nat.le_refl _) rfl
  have h64 := may_len hm
  rw [hm] at hM
  have hlt := World.block_lt_of_cell? w _ hcell
  have hD := fun W (hb : Below w.heap.size w W) => twice_calls (w0.heap.size + 1 + l.length) w0.heap.size i (some ⟨w0.heap.size + 1 + i, 0, none⟩) l[i].f0.length l[i].f0.length l[i].f1 W _ (way_row hW hb i hi) (way_flag hW hb i hi) false
    ((push_no (w0.heap.size + 1 + l.length) w0.heap.size l.length l[i].f1 (some ⟨w0.heap.size + 1 + i, 0, none⟩) l[i].f0.length l[i].f0.length W (by rw [hb.block _ (by have := hW.size; omega)]; exact hW.way) h64 (by omega)).mono (fun e w' hh => (⟨hh.1, hh.2⟩ : e = .returned (.bool false) ∧ Below W.heap.size W w')))
  have cd1 : decide ((i : Int) < 0) = false := decide_eq_false (by omega)
  have cd3 : decide ((l.length : Int) ≤ (i : Int)) = false := decide_eq_false (by omega)
  have cd2 : decide ((i : Int) ≥ (l.length : Int)) = false := cd3
  clear hW hs hC hm hno
  go_enter Try.func31, Try.ntmps31
  go_wp2_with (first | (go_at_call 11; (with_reducible refine hM.mono ?_); rintro e w1 ⟨rfl, hb⟩; have hc1 := (hb.cell (p := ⟨w0.heap.size + 1 + l.length, 0, none⟩) hlt).trans hcell; have hlt1 := World.block_lt_of_cell? w1 _ hc1; have hD1 := hD _ hb; have HB := Aside0.mk hb; clear hb) | (go_at_call 32; (with_reducible refine hD1.mono ?_); rintro e w2 ⟨rfl, hb⟩; have hc2 := (hb.cell (p := ⟨w0.heap.size + 1 + l.length, 0, none⟩) hlt1).trans hc1; have HB2 := Aside0.mk (HB.out.trans (hb.mono HB.out.size)); clear hb))
  go_ret2
  exact ⟨rfl, HB2.out⟩
set_option maxHeartbeats 4000000 in
set_option maxRecDepth 100000 in
theorem with_twice (w0 w : World) (l : List S29) (i : Nat) (hW : Way w0 w l) (hs : small l) (hm : mayB l = true) (hi : i < l.length) (h64 : l.length < 64) :
    Calls Try.prog 31 #[.pointer (some ⟨w0.heap.size + 1 + l.length, 0, none⟩), .int .i64 (i : Int), .func (.func 32) #[.pointer (some ⟨w0.heap.size + 1 + l.length, 0, none⟩)] #[]] w fun e w' =>
      ∃ g' cap', e = .returned (.tuple #[.slice (some ⟨g', 0, none⟩) (l.length + 1) cap', .bool true]) ∧ Kd.S k29 29 w' w0.heap.size (fun _ => True) (.slice (some ⟨g', 0, none⟩) (l.length + 1) cap') (l ++ [l[i]]) ∧ Below w0.heap.size w0 w' := by
  obtain ⟨hC, hcell⟩ := way_C hW (Below.refl _ _) hs
  have hM := lane_May.calls _ l.length l (mayB l) w hC (Nat.le_refl _) rfl
  have hb0 : l[i].f0.length ≤ 2000 := by
    unfold mayB at hm
    simp only [Bool.and_eq_true, Bool.not_eq_true', List.any_eq_false] at hm
    have := hm.2 l[i] (List.getElem_mem hi)
    unfold longB at this
    simpa using this
  rw [hm] at hM
  have hlt := World.block_lt_of_cell? w _ hcell
  have hD := fun W (hb : Below w.heap.size w W) => twice_calls (w0.heap.size + 1 + l.length) w0.heap.size i (some ⟨w0.heap.size + 1 + i, 0, none⟩) l[i].f0.length l[i].f0.length l[i].f1 W _ (way_row hW hb i hi) (way_flag hW hb i hi) true
    ((push_yes (w0.heap.size + 1 + l.length) w0.heap.size l.length l[i].f1 (wayRows w0.heap.size l) (some ⟨w0.heap.size + 1 + i, 0, none⟩) l[i].f0.length l[i].f0 W (by rw [hb.block _ (by have := hW.size; omega)]; exact hW.way) (wayRows_length _ _) (by rw [hb.block _ (by have := hW.size; omega)]; exact hW.row) h64 (by omega)
      (Kd.R_reads' (bytes_R (w := W) (base := 0) (ok := fun _ => True) ((hb.block (w0.heap.size + 1 + i) (by have := hW.size; omega)).trans (hW.bytes i hi)) (Nat.zero_le _) trivial (by omega))).2.2 (Nat.le_refl _) hb0).mono
      (fun e w' hh => (⟨hh.1, by
        obtain ⟨_, vb, g', cap', hvr, hown, hcell, hbl⟩ := hh
        refine ⟨g', cap', hcell, ?_, (hW.below.trans (hb.mono hW.below.size)).trans (hbl.mono (by omega))⟩
        have := pushed_S hW hs hb hbl hvr hown
        rw [show (l ++ [(⟨l[i].f0, l[i].f1⟩ : S29)]).length = l.length + 1 by simp] at this
        exact this⟩ : e = .returned (.bool true) ∧ ∃ g' cap', w'.cell? ⟨w0.heap.size + 1 + l.length, 0, none⟩ = some (.slice (some ⟨g', 0, none⟩) (l.length + 1) cap') ∧ Kd.S k29 29 w' w0.heap.size (fun _ => True) (.slice (some ⟨g', 0, none⟩) (l.length + 1) cap') (l ++ [l[i]]) ∧ Below w0.heap.size w0 w')))
  have cd1 : decide ((i : Int) < 0) = false := decide_eq_false (by omega)
  have cd3 : decide ((l.length : Int) ≤ (i : Int)) = false := decide_eq_false (by omega)
  have cd2 : decide ((i : Int) ≥ (l.length : Int)) = false := cd3
  clear hW hs hC hm
  go_enter Try.func31, Try.ntmps31
  go_wp2_with (first | (go_at_call 11; (with_reducible refine hM.mono ?_); rintro e w1 ⟨rfl, hb⟩; have hc1 := (hb.cell (p := ⟨w0.heap.size + 1 + l.length, 0, none⟩) hlt).trans hcell; have hD1 := hD _ hb; have HB := Aside0.mk hb; clear hb) | (go_at_call 32; (with_reducible refine hD1.mono ?_); rintro e w2 ⟨rfl, g', cap', hc2, hS, hB⟩; have HSS := Aside0.mk hS; have HBB := Aside0.mk hB; clear hS hB))
  go_ret2
  exact ⟨_, _, rfl, HSS.out, HBB.out⟩
set_option maxHeartbeats 4000000 in
set_option maxRecDepth 100000 in
theorem lane_Twice.calls (A0 : Option Addr) (c0 : Nat) (l0 : List S29) (a1 : Int) (r1 : List S29) (r2 : Bool) (w : World) (hr0 : Kd.C k29 w A0 l0.length l0) (hc0 : l0.length ≤ c0) (h : lane_Twice.f l0 a1 = some (r1, r2)) :
    Calls Try.prog 16 #[.slice A0 l0.length c0, .int .i64 a1] w fun e w' => ∃ v0_ : Value, e = .returned (.tuple #[v0_, .bool r2]) ∧ Kd.S k29 29 w' w.heap.size (fun _ => True) v0_ r1 ∧ Below w.heap.size w w' := by
  unfold lane_Twice.f at h
  split at h
  · rename_i hs
    have h2 := Option.some.inj h
    clear h
    have hO := of_calls A0 c0 l0 w hr0 hs
    have HS := Aside0.mk hs
    unfold twiceB at h2
    by_cases hc : mayB l0 = true ∧ 0 ≤ a1 ∧ a1 < (l0.length : Int)
    · obtain ⟨hm, h0, h1⟩ := hc
      obtain ⟨i, rfl⟩ : ∃ i : Nat, a1 = i := ⟨a1.toNat, by omega⟩
      have hi : i < l0.length := by omega
      by_cases h64 : l0.length < 64
      · rw [if_pos ⟨⟨hm, h0, h1⟩, h64⟩, rdT l0 i hi] at h2
        simp only [Prod.mk.injEq] at h2
        obtain ⟨rfl, rfl⟩ := h2
        have hD := fun W (hW : Way w W l0) => with_twice w W l0 i hW hs hm hi h64
        clear hm h0 h1 hs hr0
        go_enter Try.func16, Try.ntmps16
        go_wp2_with (first | (go_at_call 28; (with_reducible refine hO.mono ?_); rintro e w1 ⟨rfl, hW⟩; have hD1 := hD _ hW; clear hW) | (go_at_call 31; (with_reducible refine hD1.mono ?_); rintro e w2 ⟨g', cap', rfl, hS, hB⟩; have HSS := Aside0.mk hS; have HBB := Aside0.mk hB; clear hS hB))
        go_ret2
        exact ⟨_, rfl, HSS.out, HBB.out⟩
      · rw [if_neg (fun hh => h64 hh.2)] at h2
        simp only [Prod.mk.injEq] at h2
        obtain ⟨rfl, rfl⟩ := h2
        have hD := fun W (hW : Way w W l0) => with_twice_no w W l0 i hW hs hm hi h64
        clear hm h0 h1 hs hr0
        go_enter Try.func16, Try.ntmps16
        go_wp2_with (first | (go_at_call 28; (with_reducible refine hO.mono ?_); rintro e w1 ⟨rfl, hW⟩; have hD1 := hD _ hW; have HW := Aside0.mk hW; clear hW) | (go_at_call 31; (with_reducible refine hD1.mono ?_); rintro e w2 ⟨rfl, hb⟩; have HB := Aside0.mk hb; clear hb))
        go_ret2
        have hW := HW.out
        have hz := hW.size
        have hbW := HB.out
        exact ⟨_, rfl, way_S ((hbW.block _ (by omega)).trans hW.row) (fun j hj => (hbW.block _ (by omega)).trans (hW.bytes j hj)) (Nat.le_refl _) (fun _ _ _ => trivial) HS.out, hW.below.trans (hbW.mono hW.below.size)⟩
    · rw [if_neg (fun hh => hc hh.1)] at h2
      simp only [Prod.mk.injEq] at h2
      obtain ⟨rfl, rfl⟩ := h2
      have hD := fun W (hW : Way w W l0) fv => with_no w W l0 a1 fv hW hs hc
      clear hs hr0 hc
      go_enter Try.func16, Try.ntmps16
      go_wp2_with (first | (go_at_call 28; (with_reducible refine hO.mono ?_); rintro e w1 ⟨rfl, hW⟩; have hD1 := hD _ hW; have HW := Aside0.mk hW; clear hW) | (go_at_call 31; (with_reducible refine (hD1 _).mono ?_); rintro e w2 ⟨rfl, hb⟩; have HB := Aside0.mk hb; clear hb))
      go_ret2
      have hW := HW.out
      have hz := hW.size
      have hbW := HB.out
      exact ⟨_, rfl, way_S ((hbW.block _ (by omega)).trans hW.row) (fun j hj => (hbW.block _ (by omega)).trans (hW.bytes j hj)) (Nat.le_refl _) (fun _ _ _ => trivial) HS.out, hW.below.trans (hbW.mono hW.below.size)⟩
  · cases h
end Go.Proofs.Ytnfgcjeenjomgaa.Given
