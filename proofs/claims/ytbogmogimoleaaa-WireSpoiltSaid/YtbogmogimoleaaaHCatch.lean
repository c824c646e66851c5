/- The deferred closure of got: where the frame panics, and where it returns. -/
import Derived.Test.YtbogmogimoleaaaHRead
import Derived.Defers
import Derived.Recover
import Derived.Laws.Pointers
namespace Go.Proofs.Ytbogmogimoleaaa.Given
open Go.RowKit Go.Proofs.YtbogmogimoleaaaW.PrintWords Go.Proofs.YtbogmogimoleaaaW.PrintLast Go.Proofs.YtbogmogimoleaaaW.PrintMore Go.Proofs.Ytbogmogimoleaaa.W
set_option linter.unusedVariables false
set_option linter.unusedSimpArgs false
theorem catch_idle (hs ho : Nat) (w : World) :
    CallsD Try.prog 42 #[.pointer (some ⟨hs, 0, none⟩), .pointer (some ⟨ho, 0, none⟩)] .returning w fun e u' w' => e = .returned (.tuple #[]) ∧ u' = .returning ∧ w' = w := by
  refine callsD_of_wpS Try.func42 rfl fun c₀ cs hu => ?_
  apply wpS_seq
  apply wpS_region
  simp [wpOpsS, go_sem, recoverD, hu, Try.ntmps42, Exit.thenS]
  apply wpS_seq
  apply wpS_region
  simp [wpOpsS, go_sem, recoverD, hu, Try.ntmps42, Exit.thenS]
  refine wpS_cond (t := false) (by simp [Act.eval, Array.replicate]) ?_
  simp only [Bool.false_eq_true, if_false]
  refine wpS_of_wp (wp_skip ?_)
  cases c₀
  simp_all [bodyPostS, results, Try.results42]
set_option maxHeartbeats 4000000 in
set_option maxRecDepth 100000 in
theorem catch_short (hs ho : Nat) (w : World) (hne : hs ≠ ho) (c0 : ∃ v, w.cell? ⟨hs, 0, none⟩ = some v) (f0 : w.frozen? ⟨hs, 0, none⟩ = false) (c1 : ∃ v, w.cell? ⟨hs, 1, none⟩ = some v) (f1 : w.frozen? ⟨hs, 1, none⟩ = false) (c2 : ∃ v, w.cell? ⟨hs, 2, none⟩ = some v) (f2 : w.frozen? ⟨hs, 2, none⟩ = false) (c3 : ∃ v, w.cell? ⟨hs, 3, none⟩ = some v) (f3 : w.frozen? ⟨hs, 3, none⟩ = false) (c4 : ∃ v, w.cell? ⟨hs, 4, none⟩ = some v) (f4 : w.frozen? ⟨hs, 4, none⟩ = false) (c5 : ∃ v, w.cell? ⟨hs, 5, none⟩ = some v) (f5 : w.frozen? ⟨hs, 5, none⟩ = false) (c6 : ∃ v, w.cell? ⟨hs, 6, none⟩ = some v) (f6 : w.frozen? ⟨hs, 6, none⟩ = false) (c7 : ∃ v, w.cell? ⟨hs, 7, none⟩ = some v) (f7 : w.frozen? ⟨hs, 7, none⟩ = false) (c8 : ∃ v, w.cell? ⟨hs, 8, none⟩ = some v) (f8 : w.frozen? ⟨hs, 8, none⟩ = false) (c9 : ∃ v, w.cell? ⟨hs, 9, none⟩ = some v) (f9 : w.frozen? ⟨hs, 9, none⟩ = false) (c10 : ∃ v, w.cell? ⟨hs, 10, none⟩ = some v) (f10 : w.frozen? ⟨hs, 10, none⟩ = false) (c11 : ∃ v, w.cell? ⟨hs, 11, none⟩ = some v) (f11 : w.frozen? ⟨hs, 11, none⟩ = false) (c12 : ∃ v, w.cell? ⟨hs, 12, none⟩ = some v) (f12 : w.frozen? ⟨hs, 12, none⟩ = false) (c13 : ∃ v, w.cell? ⟨hs, 13, none⟩ = some v) (f13 : w.frozen? ⟨hs, 13, none⟩ = false) (c14 : ∃ v, w.cell? ⟨hs, 14, none⟩ = some v) (f14 : w.frozen? ⟨hs, 14, none⟩ = false) (co : ∃ v, w.cell? ⟨ho, 0, none⟩ = some v) (fo : w.frozen? ⟨ho, 0, none⟩ = false) :
    CallsD Try.prog 42 #[.pointer (some ⟨hs, 0, none⟩), .pointer (some ⟨ho, 0, none⟩)] (.panicking short) w fun e u' w' => e = .returned (.tuple #[]) ∧ u' = .panicking [{ v := .iface 66 (.agg #[]), recovered := true }] ∧ w' = ((((((((((((((((w.setCell ⟨hs, 0, none⟩ (.int .i64 0)).setCell ⟨hs, 1, none⟩ (.int .i64 0)).setCell ⟨hs, 2, none⟩ (.bool false)).setCell ⟨hs, 3, none⟩ (.bool false)).setCell ⟨hs, 4, none⟩ (.int .u32 0)).setCell ⟨hs, 5, none⟩ (.int .u32 0)).setCell ⟨hs, 6, none⟩ (.int .u32 0)).setCell ⟨hs, 7, none⟩ (.int .u32 0)).setCell ⟨hs, 8, none⟩ (.int .i64 0)).setCell ⟨hs, 9, none⟩ (.int .i64 0)).setCell ⟨hs, 10, none⟩ (.int .u32 0)).setCell ⟨hs, 11, none⟩ (.int .u32 0)).setCell ⟨hs, 12, none⟩ (.int .u32 0)).setCell ⟨hs, 13, none⟩ (.slice none 0 0)).setCell ⟨hs, 14, none⟩ (.slice none 0 0)).setCell ⟨ho, 0, none⟩ (.bool false)) := by
  obtain ⟨v0, c0⟩ := c0; obtain ⟨v1, c1⟩ := c1; obtain ⟨v2, c2⟩ := c2; obtain ⟨v3, c3⟩ := c3; obtain ⟨v4, c4⟩ := c4; obtain ⟨v5, c5⟩ := c5; obtain ⟨v6, c6⟩ := c6; obtain ⟨v7, c7⟩ := c7; obtain ⟨v8, c8⟩ := c8; obtain ⟨v9, c9⟩ := c9; obtain ⟨v10, c10⟩ := c10; obtain ⟨v11, c11⟩ := c11; obtain ⟨v12, c12⟩ := c12; obtain ⟨v13, c13⟩ := c13; obtain ⟨v14, c14⟩ := c14
  obtain ⟨vo, co⟩ := co
  have hne' : ¬ ho = hs := fun h => hne h.symm
  have hta : ∀ w : World, (Instr.typeAssert (.iface 66 (.agg #[])) 20 66 false).run Try.prog w = .ok (.agg #[]) w := fun w => by
    rfl
  refine callsD_of_wpS Try.func42 rfl fun c₀ cs hu => ?_
  apply wpS_seq
  apply wpS_region
  simp [wpOpsS, go_sem, recoverD, hu, short, Try.ntmps42, Exit.thenS]
  apply wpS_seq
  apply wpS_region
  simp [wpOpsS, go_sem, recoverD, hu, Try.ntmps42, Exit.thenS]
  refine wpS_cond (t := true) (by simp [Act.eval, Array.replicate]) ?_
  simp only [if_true]
  apply wpS_seq
  apply wpS_region
  simp [wpOpsS, go_sem, recoverD, hu, hta, Try.ntmps42, Exit.thenS]
  apply wpS_region
  simp [wpOpsS, go_sem, c0, f0, c1, f1, c2, f2, c3, f3, c4, f4, c5, f5, c6, f6, c7, f7, c8, f8, c9, f9, c10, f10, c11, f11, c12, f12, c13, f13, c14, f14, co, fo, bodyPostS, results, Try.results42]
theorem fill15 {W : World} {h : Nat} {a0 a1 a2 a3 a4 a5 a6 a7 a8 a9 a10 a11 a12 a13 a14 b0 b1 b2 b3 b4 b5 b6 b7 b8 b9 b10 b11 b12 b13 b14 : Value} (r : Rec W h #[a0, a1, a2, a3, a4, a5, a6, a7, a8, a9, a10, a11, a12, a13, a14]) : Rec (((((((((((((((W.setCell ⟨h, 0, none⟩ b0).setCell ⟨h, 1, none⟩ b1).setCell ⟨h, 2, none⟩ b2).setCell ⟨h, 3, none⟩ b3).setCell ⟨h, 4, none⟩ b4).setCell ⟨h, 5, none⟩ b5).setCell ⟨h, 6, none⟩ b6).setCell ⟨h, 7, none⟩ b7).setCell ⟨h, 8, none⟩ b8).setCell ⟨h, 9, none⟩ b9).setCell ⟨h, 10, none⟩ b10).setCell ⟨h, 11, none⟩ b11).setCell ⟨h, 12, none⟩ b12).setCell ⟨h, 13, none⟩ b13).setCell ⟨h, 14, none⟩ b14) h #[b0, b1, b2, b3, b4, b5, b6, b7, b8, b9, b10, b11, b12, b13, b14] := by
  have r1 : Rec (W.setCell ⟨h, 0, none⟩ b0) h #[b0, a1, a2, a3, a4, a5, a6, a7, a8, a9, a10, a11, a12, a13, a14] := blk_put (cs := #[a0, a1, a2, a3, a4, a5, a6, a7, a8, a9, a10, a11, a12, a13, a14]) r 0 b0 (by simp only [List.setIfInBounds_toArray, List.set_cons_zero, List.set_cons_succ])
  generalize hW1 : W.setCell ⟨h, 0, none⟩ b0 = W1 at *
  have r2 : Rec (W1.setCell ⟨h, 1, none⟩ b1) h #[b0, b1, a2, a3, a4, a5, a6, a7, a8, a9, a10, a11, a12, a13, a14] := blk_put (cs := #[b0, a1, a2, a3, a4, a5, a6, a7, a8, a9, a10, a11, a12, a13, a14]) r1 1 b1 (by simp only [List.setIfInBounds_toArray, List.set_cons_zero, List.set_cons_succ])
  generalize hW2 : W1.setCell ⟨h, 1, none⟩ b1 = W2 at *
  have r3 : Rec (W2.setCell ⟨h, 2, none⟩ b2) h #[b0, b1, b2, a3, a4, a5, a6, a7, a8, a9, a10, a11, a12, a13, a14] := blk_put (cs := #[b0, b1, a2, a3, a4, a5, a6, a7, a8, a9, a10, a11, a12, a13, a14]) r2 2 b2 (by simp only [List.setIfInBounds_toArray, List.set_cons_zero, List.set_cons_succ])
  generalize hW3 : W2.setCell ⟨h, 2, none⟩ b2 = W3 at *
  have r4 : Rec (W3.setCell ⟨h, 3, none⟩ b3) h #[b0, b1, b2, b3, a4, a5, a6, a7, a8, a9, a10, a11, a12, a13, a14] := blk_put (cs := #[b0, b1, b2, a3, a4, a5, a6, a7, a8, a9, a10, a11, a12, a13, a14]) r3 3 b3 (by simp only [List.setIfInBounds_toArray, List.set_cons_zero, List.set_cons_succ])
  generalize hW4 : W3.setCell ⟨h, 3, none⟩ b3 = W4 at *
  have r5 : Rec (W4.setCell ⟨h, 4, none⟩ b4) h #[b0, b1, b2, b3, b4, a5, a6, a7, a8, a9, a10, a11, a12, a13, a14] := blk_put (cs := #[b0, b1, b2, b3, a4, a5, a6, a7, a8, a9, a10, a11, a12, a13, a14]) r4 4 b4 (by simp only [List.setIfInBounds_toArray, List.set_cons_zero, List.set_cons_succ])
  generalize hW5 : W4.setCell ⟨h, 4, none⟩ b4 = W5 at *
  have r6 : Rec (W5.setCell ⟨h, 5, none⟩ b5) h #[b0, b1, b2, b3, b4, b5, a6, a7, a8, a9, a10, a11, a12, a13, a14] := blk_put (cs := #[b0, b1, b2, b3, b4, a5, a6, a7, a8, a9, a10, a11, a12, a13, a14]) r5 5 b5 (by simp only [List.setIfInBounds_toArray, List.set_cons_zero, List.set_cons_succ])
  generalize hW6 : W5.setCell ⟨h, 5, none⟩ b5 = W6 at *
  have r7 : Rec (W6.setCell ⟨h, 6, none⟩ b6) h #[b0, b1, b2, b3, b4, b5, b6, a7, a8, a9, a10, a11, a12, a13, a14] := blk_put (cs := #[b0, b1, b2, b3, b4, b5, a6, a7, a8, a9, a10, a11, a12, a13, a14]) r6 6 b6 (by simp only [List.setIfInBounds_toArray, List.set_cons_zero, List.set_cons_succ])
  generalize hW7 : W6.setCell ⟨h, 6, none⟩ b6 = W7 at *
  have r8 : Rec (W7.setCell ⟨h, 7, none⟩ b7) h #[b0, b1, b2, b3, b4, b5, b6, b7, a8, a9, a10, a11, a12, a13, a14] := blk_put (cs := #[b0, b1, b2, b3, b4, b5, b6, a7, a8, a9, a10, a11, a12, a13, a14]) r7 7 b7 (by simp only [List.setIfInBounds_toArray, List.set_cons_zero, List.set_cons_succ])
  generalize hW8 : W7.setCell ⟨h, 7, none⟩ b7 = W8 at *
  have r9 : Rec (W8.setCell ⟨h, 8, none⟩ b8) h #[b0, b1, b2, b3, b4, b5, b6, b7, b8, a9, a10, a11, a12, a13, a14] := blk_put (cs := #[b0, b1, b2, b3, b4, b5, b6, b7, a8, a9, a10, a11, a12, a13, a14]) r8 8 b8 (by simp only [List.setIfInBounds_toArray, List.set_cons_zero, List.set_cons_succ])
  generalize hW9 : W8.setCell ⟨h, 8, none⟩ b8 = W9 at *
  have r10 : Rec (W9.setCell ⟨h, 9, none⟩ b9) h #[b0, b1, b2, b3, b4, b5, b6, b7, b8, b9, a10, a11, a12, a13, a14] := blk_put (cs := #[b0, b1, b2, b3, b4, b5, b6, b7, b8, a9, a10, a11, a12, a13, a14]) r9 9 b9 (by simp only [List.setIfInBounds_toArray, List.set_cons_zero, List.set_cons_succ])
  generalize hW10 : W9.setCell ⟨h, 9, none⟩ b9 = W10 at *
  have r11 : Rec (W10.setCell ⟨h, 10, none⟩ b10) h #[b0, b1, b2, b3, b4, b5, b6, b7, b8, b9, b10, a11, a12, a13, a14] := blk_put (cs := #[b0, b1, b2, b3, b4, b5, b6, b7, b8, b9, a10, a11, a12, a13, a14]) r10 10 b10 (by simp only [List.setIfInBounds_toArray, List.set_cons_zero, List.set_cons_succ])
  generalize hW11 : W10.setCell ⟨h, 10, none⟩ b10 = W11 at *
  have r12 : Rec (W11.setCell ⟨h, 11, none⟩ b11) h #[b0, b1, b2, b3, b4, b5, b6, b7, b8, b9, b10, b11, a12, a13, a14] := blk_put (cs := #[b0, b1, b2, b3, b4, b5, b6, b7, b8, b9, b10, a11, a12, a13, a14]) r11 11 b11 (by simp only [List.setIfInBounds_toArray, List.set_cons_zero, List.set_cons_succ])
  generalize hW12 : W11.setCell ⟨h, 11, none⟩ b11 = W12 at *
  have r13 : Rec (W12.setCell ⟨h, 12, none⟩ b12) h #[b0, b1, b2, b3, b4, b5, b6, b7, b8, b9, b10, b11, b12, a13, a14] := blk_put (cs := #[b0, b1, b2, b3, b4, b5, b6, b7, b8, b9, b10, b11, a12, a13, a14]) r12 12 b12 (by simp only [List.setIfInBounds_toArray, List.set_cons_zero, List.set_cons_succ])
  generalize hW13 : W12.setCell ⟨h, 12, none⟩ b12 = W13 at *
  have r14 : Rec (W13.setCell ⟨h, 13, none⟩ b13) h #[b0, b1, b2, b3, b4, b5, b6, b7, b8, b9, b10, b11, b12, b13, a14] := blk_put (cs := #[b0, b1, b2, b3, b4, b5, b6, b7, b8, b9, b10, b11, b12, a13, a14]) r13 13 b13 (by simp only [List.setIfInBounds_toArray, List.set_cons_zero, List.set_cons_succ])
  generalize hW14 : W13.setCell ⟨h, 13, none⟩ b13 = W14 at *
  have r15 : Rec (W14.setCell ⟨h, 14, none⟩ b14) h #[b0, b1, b2, b3, b4, b5, b6, b7, b8, b9, b10, b11, b12, b13, b14] := blk_put (cs := #[b0, b1, b2, b3, b4, b5, b6, b7, b8, b9, b10, b11, b12, b13, a14]) r14 14 b14 (by simp only [List.setIfInBounds_toArray, List.set_cons_zero, List.set_cons_succ])
  generalize hW15 : W14.setCell ⟨h, 14, none⟩ b14 = W15 at *
  exact r15
theorem fill15_but {W : World} {h : Nat} {b0 b1 b2 b3 b4 b5 b6 b7 b8 b9 b10 b11 b12 b13 b14 : Value} : But W (((((((((((((((W.setCell ⟨h, 0, none⟩ b0).setCell ⟨h, 1, none⟩ b1).setCell ⟨h, 2, none⟩ b2).setCell ⟨h, 3, none⟩ b3).setCell ⟨h, 4, none⟩ b4).setCell ⟨h, 5, none⟩ b5).setCell ⟨h, 6, none⟩ b6).setCell ⟨h, 7, none⟩ b7).setCell ⟨h, 8, none⟩ b8).setCell ⟨h, 9, none⟩ b9).setCell ⟨h, 10, none⟩ b10).setCell ⟨h, 11, none⟩ b11).setCell ⟨h, 12, none⟩ b12).setCell ⟨h, 13, none⟩ b13).setCell ⟨h, 14, none⟩ b14) h :=
  ((((((((((((((But.setCell W h 0 b0).trans (But.setCell _ h 1 b1)).trans (But.setCell _ h 2 b2)).trans (But.setCell _ h 3 b3)).trans (But.setCell _ h 4 b4)).trans (But.setCell _ h 5 b5)).trans (But.setCell _ h 6 b6)).trans (But.setCell _ h 7 b7)).trans (But.setCell _ h 8 b8)).trans (But.setCell _ h 9 b9)).trans (But.setCell _ h 10 b10)).trans (But.setCell _ h 11 b11)).trans (But.setCell _ h 12 b12)).trans (But.setCell _ h 13 b13)).trans (But.setCell _ h 14 b14)
def zeros : Array Value := #[.int .i64 0, .int .i64 0, .bool false, .bool false, .int .u32 0, .int .u32 0, .int .u32 0, .int .u32 0, .int .i64 0, .int .i64 0, .int .u32 0, .int .u32 0, .int .u32 0, .slice none 0 0, .slice none 0 0]
theorem Rec.cell {W : World} {h : Nat} {cs : Array Value} (r : Rec W h cs) (j : Nat) (hj : j < cs.size) : ∃ v, W.cell? ⟨h, j, none⟩ = some v := ⟨cs[j], by rw [blk_cell r]; simp [hj]⟩
theorem Rec.frozen {W : World} {h : Nat} {cs : Array Value} (r : Rec W h cs) (j : Nat) : W.frozen? ⟨h, j, none⟩ = false := blk_frozen r j
theorem catch_rec (hs ho : Nat) (w : World) (hlt : hs < ho) {vo a0 a1 a2 a3 a4 a5 a6 a7 a8 a9 a10 a11 a12 a13 a14 : Value} (r : Rec w hs #[a0, a1, a2, a3, a4, a5, a6, a7, a8, a9, a10, a11, a12, a13, a14]) (hok : w.heap[ho]? = some (.cells #[vo] 4 (0, 0))) :
    CallsD Try.prog 42 #[.pointer (some ⟨hs, 0, none⟩), .pointer (some ⟨ho, 0, none⟩)] (.panicking short) w fun e u' w' => e = .returned (.tuple #[]) ∧ u' = .panicking [{ v := .iface 66 (.agg #[]), recovered := true }] ∧ Aside0 (Rec w' hs zeros) ∧ Aside0 (w'.heap[ho]? = some (.cells #[.bool false] 4 (0, 0))) ∧ Aside0 (Below hs w w') := by
  refine (catch_short hs ho w (by omega) (r.cell 0 (by simp)) (r.frozen 0) (r.cell 1 (by simp)) (r.frozen 1) (r.cell 2 (by simp)) (r.frozen 2) (r.cell 3 (by simp)) (r.frozen 3) (r.cell 4 (by simp)) (r.frozen 4) (r.cell 5 (by simp)) (r.frozen 5) (r.cell 6 (by simp)) (r.frozen 6) (r.cell 7 (by simp)) (r.frozen 7) (r.cell 8 (by simp)) (r.frozen 8) (r.cell 9 (by simp)) (r.frozen 9) (r.cell 10 (by simp)) (r.frozen 10) (r.cell 11 (by simp)) (r.frozen 11) (r.cell 12 (by simp)) (r.frozen 12) (r.cell 13 (by simp)) (r.frozen 13) (r.cell 14 (by simp)) (r.frozen 14) ⟨_, (one_cell hok (by simp)).1⟩ (one_cell (j := 0) hok (by simp)).2).mono ?_
  rintro e u' w' ⟨rfl, rfl, rfl⟩
  have h1 := fill15 (b0 := .int .i64 0) (b1 := .int .i64 0) (b2 := .bool false) (b3 := .bool false) (b4 := .int .u32 0) (b5 := .int .u32 0) (b6 := .int .u32 0) (b7 := .int .u32 0) (b8 := .int .i64 0) (b9 := .int .i64 0) (b10 := .int .u32 0) (b11 := .int .u32 0) (b12 := .int .u32 0) (b13 := .slice none 0 0) (b14 := .slice none 0 0) r
  have h2 := fill15_but (W := w) (h := hs) (b0 := .int .i64 0) (b1 := .int .i64 0) (b2 := .bool false) (b3 := .bool false) (b4 := .int .u32 0) (b5 := .int .u32 0) (b6 := .int .u32 0) (b7 := .int .u32 0) (b8 := .int .i64 0) (b9 := .int .i64 0) (b10 := .int .u32 0) (b11 := .int .u32 0) (b12 := .int .u32 0) (b13 := .slice none 0 0) (b14 := .slice none 0 0)
  revert h1 h2
  generalize (World.setCell _ ⟨hs, 14, none⟩ (.slice none 0 0)) = WE
  intro h1 h2
  have h3 := But.setCell WE ho 0 (.bool false)
  exact ⟨rfl, rfl, ⟨(h3.block _ (by omega)).trans h1⟩, ⟨blk_put (cs := #[vo]) ((h2.block _ (by omega)).trans hok) 0 _ rfl⟩, ⟨(h2.below (Nat.le_refl _)).trans (h3.below (by omega))⟩⟩
end Go.Proofs.Ytbogmogimoleaaa.Given
