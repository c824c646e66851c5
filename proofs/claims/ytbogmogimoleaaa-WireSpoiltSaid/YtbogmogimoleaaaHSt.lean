/- The state of read's walk: the reader before its bytes, and the record that is filled. -/
import Derived.Test.YtbogmogimoleaaaHRd
import Derived.Test.YtbogmogimoleaaaGClone
namespace Go.Proofs.Ytbogmogimoleaaa.Given
open Go.RowKit Go.Proofs.YtbogmogimoleaaaW.PrintWords Go.Proofs.YtbogmogimoleaaaW.PrintLast Go.Proofs.YtbogmogimoleaaaW.PrintMore Go.Proofs.Ytbogmogimoleaaa.W
set_option linter.unusedVariables false
set_option linter.unusedSimpArgs false
theorem RD.alloc {w0 W : World} {g : Nat} {rest : List Int} (h : RD w0 W g rest) (o : Obj) : RD w0 (W.alloc o) g rest := by
  obtain ⟨A, c, h1, h2, h3, h4, h5, h6⟩ := h
  exact ⟨A, c, by rw [Below.heap_alloc _ _ _ (by obtain ⟨q, _⟩ := Array.getElem?_eq_some_iff.1 h1; exact q)]; exact h1, h2, h3, h4.alloc h4.size o, h5, h6⟩
theorem RD.lt {w0 W : World} {g : Nat} {rest : List Int} (h : RD w0 W g rest) : g < W.heap.size := by
  obtain ⟨A, c, h1, _⟩ := h
  obtain ⟨q, _⟩ := Array.getElem?_eq_some_iff.1 h1
  exact q
/-- The record that is filled: block h. -/
def Rec (W : World) (h : Nat) (cs : Array Value) : Prop := W.heap[h]? = some (.cells cs 41 (0, 0))
theorem Rec.but {W W1 : World} {h g : Nat} {cs : Array Value} (r : Rec W h cs) (b : But W W1 g) (hn : h ≠ g) : Rec W1 h cs := (b.block h hn).trans r
theorem Rec.make (W : World) (cs : Array Value) : Rec (W.alloc (.cells cs 41)) W.heap.size cs := by
  show (W.heap.push _)[W.heap.size]? = _
  exact Array.getElem?_push_size
theorem RD.set {w0 W : World} {g h j : Nat} {rest : List Int} (r : RD w0 W g rest) (hn : h ≠ g) (hh : w0.heap.size ≤ h) (v : Value) : RD w0 (W.setCell ⟨h, j, none⟩ v) g rest := by
  obtain ⟨A, c, h1, h2, h3, h4, h5, h6⟩ := r
  exact ⟨A, c, (blk_far h1 (Ne.symm hn) v), h2, h3, h4.setCell hh v, h5, h6⟩
/-- The reader (block g) stands before bs from k on; the record (block h) holds cs. -/
structure St (w0 W : World) (g h : Nat) (bs : List Int) (k : Nat) (cs : Array Value) : Prop where
  rd : RD w0 W g (bs.drop k)
  rc : Rec W h cs
  base : w0.heap.size ≤ h
  ne : h ≠ g
  le : k ≤ bs.length
  size : cs.size = 15
theorem St.set {w0 W : World} {g h : Nat} {bs : List Int} {k : Nat} {cs : Array Value} (s : St w0 W g h bs k cs) (j : Nat) (v : Value) : St w0 (W.setCell ⟨h, j, none⟩ v) g h bs k (cs.setIfInBounds j v) :=
  ⟨s.rd.set s.ne s.base v, blk_put s.rc j v rfl, s.base, s.ne, s.le, by simp [s.size]⟩
theorem St.alloc {w0 W : World} {g h : Nat} {bs : List Int} {k : Nat} {cs : Array Value} (s : St w0 W g h bs k cs) (o : Obj) : St w0 (W.alloc o) g h bs k cs := by
  refine ⟨s.rd.alloc o, ?_, s.base, s.ne, s.le, s.size⟩
  have h1 := s.rc
  unfold Rec at h1 ⊢
  rw [Below.heap_alloc _ _ _ (by obtain ⟨q, _⟩ := Array.getElem?_eq_some_iff.1 h1; exact q)]
  exact h1
theorem St.below {w0 W W' : World} {g h : Nat} {bs : List Int} {k : Nat} {cs : Array Value} (s : St w0 W g h bs k cs) (hb : Below W.heap.size W W') : St w0 W' g h bs k cs := by
  obtain ⟨A, c, h1, h2, h3, h4, h5, h6⟩ := s.rd
  have hl := (Array.getElem?_eq_some_iff.1 s.rc).1
  exact ⟨⟨A, c, (hb.block _ s.rd.lt).trans h1, h2, h3, h4.trans (hb.mono h4.size), h5, h6⟩, (hb.block _ hl).trans s.rc, s.base, s.ne, s.le, s.size⟩
theorem St.belowB {w0 W W' : World} {g h : Nat} {bs : List Int} {k B : Nat} {cs : Array Value} (s : St w0 W g h bs k cs) (hb : Below B W W') (hB : h < B) (hg : g < B) (h0 : w0.heap.size ≤ B) : St w0 W' g h bs k cs := by
  obtain ⟨A, c, h1, h2, h3, h4, h5, h6⟩ := s.rd
  exact ⟨⟨A, c, (hb.block _ hg).trans h1, h2, h3, h4.trans (hb.mono h0), h5, h6⟩, (hb.block _ hB).trans s.rc, s.base, s.ne, s.le, s.size⟩
theorem St.start {w0 W : World} {g : Nat} {bs : List Int} (h : RD w0 W g bs) : St w0 (W.alloc (.cells #[.int .i64 0, .int .i64 0, .bool false, .bool false, .int .u32 0, .int .u32 0, .int .u32 0, .int .u32 0, .int .i64 0, .int .i64 0, .int .u32 0, .int .u32 0, .int .u32 0, .slice none 0 0, .slice none 0 0] 41)) g W.heap.size bs 0 #[.int .i64 0, .int .i64 0, .bool false, .bool false, .int .u32 0, .int .u32 0, .int .u32 0, .int .u32 0, .int .i64 0, .int .i64 0, .int .u32 0, .int .u32 0, .int .u32 0, .slice none 0 0, .slice none 0 0] :=
  ⟨by rw [List.drop_zero]; exact h.alloc _, Rec.make _ _, by obtain ⟨A, c, h1, h2, h3, h4, h5, h6⟩ := h; exact h4.size, by have := h.lt; omega, by omega, rfl⟩
theorem St.cell {w0 W : World} {g h : Nat} {bs : List Int} {k : Nat} {cs : Array Value} (s : St w0 W g h bs k cs) (j : Nat) (hj : j < 15) : (∃ v, W.cell? ⟨h, j, none⟩ = some v) ∧ W.frozen? ⟨h, j, none⟩ = false := by
  have hj' : j < cs.size := by rw [s.size]; exact hj
  refine ⟨⟨cs[j], ?_⟩, blk_frozen s.rc j⟩
  rw [blk_cell s.rc]; simp [hj']
theorem St.below0 {w0 W : World} {g h : Nat} {bs : List Int} {k : Nat} {cs : Array Value} (s : St w0 W g h bs k cs) : Below w0.heap.size w0 W := by
  obtain ⟨A, c, k1, k2, k3, k4, k5, k6⟩ := s.rd
  exact k4
/-- The number of some bytes from k on. -/
def num (bs : List Int) (k size : Nat) : Int := numB ((bs.drop k).take size)
theorem numB_bd' (l : List Int) (h : okB l = true) (j : Nat) (hj : j ≤ 4) : 0 ≤ numB (l.take j) ∧ numB (l.take j) < 256 ^ j := numB_bd l h j hj
theorem num_calls {w0 W : World} {g h : Nat} {bs : List Int} {k : Nat} {cs : Array Value} (s : St w0 W g h bs k cs) (size : Nat) (z B : Int) (hz : (size : Int) = z) (h1 : 1 ≤ size) (h4 : size ≤ 4) (hB : (256 : Int) ^ size = B) :
    Calls Try.prog 44 #[.pointer (some ⟨g, 0, none⟩), .int .i64 z] W fun e w' =>
      (bs.length < k + size ∧ e = .panicked short ∧ Aside0 (Below w0.heap.size w0 w')) ∨ ∃ q : Int, Aside0 (q = num bs k size) ∧ 0 ≤ q ∧ q < B ∧ Aside0 (k + size ≤ bs.length) ∧ e = .returned (.int .i64 q) ∧ Aside0 (St w0 w' g h bs (k + size) cs) ∧ Aside0 (But W w' g) := by
  have hle := s.le
  refine (number_calls s.rd size z hz h1 h4).mono ?_
  rintro e w' (⟨hs, rfl, rfl⟩ | ⟨hs, rfl, hr, hbut⟩)
  · exact .inl ⟨by rw [List.length_drop] at hs; omega, rfl, ⟨s.below0⟩⟩
  · obtain ⟨A, c, k1, k2, k3, k4, k5, k6⟩ := s.rd
    obtain ⟨b1, b2⟩ := numB_bd' _ k6 size h4
    rw [hB] at b2
    rw [List.drop_drop] at hr
    rw [List.length_drop] at hs
    exact .inr ⟨_, ⟨rfl⟩, b1, b2, ⟨by omega⟩, rfl, ⟨⟨hr, s.rc.but hbut s.ne, s.base, s.ne, by omega, s.size⟩⟩, ⟨hbut⟩⟩
theorem fill16 {W : World} {h : Nat} {a0 a1 a2 a3 a4 a5 a6 a7 a8 a9 a10 a11 a12 a13 a14 b0 b1 b2 b3 b4 b5 b6 b7 b8 b9 b10 b11 b12 b13 b14 : Value} (r : Rec W h #[a0, a1, a2, a3, a4, a5, a6, a7, a8, a9, a10, a11, a12, a13, a14]) : Rec ((((((((((((((((W.setCell ⟨h, 14, none⟩ b14).setCell ⟨h, 0, none⟩ b0).setCell ⟨h, 1, none⟩ b1).setCell ⟨h, 2, none⟩ b2).setCell ⟨h, 3, none⟩ b3).setCell ⟨h, 4, none⟩ b4).setCell ⟨h, 5, none⟩ b5).setCell ⟨h, 6, none⟩ b6).setCell ⟨h, 7, none⟩ b7).setCell ⟨h, 8, none⟩ b8).setCell ⟨h, 9, none⟩ b9).setCell ⟨h, 10, none⟩ b10).setCell ⟨h, 11, none⟩ b11).setCell ⟨h, 12, none⟩ b12).setCell ⟨h, 13, none⟩ b13).setCell ⟨h, 14, none⟩ b14) h #[b0, b1, b2, b3, b4, b5, b6, b7, b8, b9, b10, b11, b12, b13, b14] := by
  have r1 : Rec (W.setCell ⟨h, 14, none⟩ b14) h #[a0, a1, a2, a3, a4, a5, a6, a7, a8, a9, a10, a11, a12, a13, b14] := blk_put (cs := #[a0, a1, a2, a3, a4, a5, a6, a7, a8, a9, a10, a11, a12, a13, a14]) r 14 b14 (by simp only [List.setIfInBounds_toArray, List.set_cons_zero, List.set_cons_succ])
  generalize hW1 : W.setCell ⟨h, 14, none⟩ b14 = W1 at *
  have r2 : Rec (W1.setCell ⟨h, 0, none⟩ b0) h #[b0, a1, a2, a3, a4, a5, a6, a7, a8, a9, a10, a11, a12, a13, b14] := blk_put (cs := #[a0, a1, a2, a3, a4, a5, a6, a7, a8, a9, a10, a11, a12, a13, b14]) r1 0 b0 (by simp only [List.setIfInBounds_toArray, List.set_cons_zero, List.set_cons_succ])
  generalize hW2 : W1.setCell ⟨h, 0, none⟩ b0 = W2 at *
  have r3 : Rec (W2.setCell ⟨h, 1, none⟩ b1) h #[b0, b1, a2, a3, a4, a5, a6, a7, a8, a9, a10, a11, a12, a13, b14] := blk_put (cs := #[b0, a1, a2, a3, a4, a5, a6, a7, a8, a9, a10, a11, a12, a13, b14]) r2 1 b1 (by simp only [List.setIfInBounds_toArray, List.set_cons_zero, List.set_cons_succ])
  generalize hW3 : W2.setCell ⟨h, 1, none⟩ b1 = W3 at *
  have r4 : Rec (W3.setCell ⟨h, 2, none⟩ b2) h #[b0, b1, b2, a3, a4, a5, a6, a7, a8, a9, a10, a11, a12, a13, b14] := blk_put (cs := #[b0, b1, a2, a3, a4, a5, a6, a7, a8, a9, a10, a11, a12, a13, b14]) r3 2 b2 (by simp only [List.setIfInBounds_toArray, List.set_cons_zero, List.set_cons_succ])
  generalize hW4 : W3.setCell ⟨h, 2, none⟩ b2 = W4 at *
  have r5 : Rec (W4.setCell ⟨h, 3, none⟩ b3) h #[b0, b1, b2, b3, a4, a5, a6, a7, a8, a9, a10, a11, a12, a13, b14] := blk_put (cs := #[b0, b1, b2, a3, a4, a5, a6, a7, a8, a9, a10, a11, a12, a13, b14]) r4 3 b3 (by simp only [List.setIfInBounds_toArray, List.set_cons_zero, List.set_cons_succ])
  generalize hW5 : W4.setCell ⟨h, 3, none⟩ b3 = W5 at *
  have r6 : Rec (W5.setCell ⟨h, 4, none⟩ b4) h #[b0, b1, b2, b3, b4, a5, a6, a7, a8, a9, a10, a11, a12, a13, b14] := blk_put (cs := #[b0, b1, b2, b3, a4, a5, a6, a7, a8, a9, a10, a11, a12, a13, b14]) r5 4 b4 (by simp only [List.setIfInBounds_toArray, List.set_cons_zero, List.set_cons_succ])
  generalize hW6 : W5.setCell ⟨h, 4, none⟩ b4 = W6 at *
  have r7 : Rec (W6.setCell ⟨h, 5, none⟩ b5) h #[b0, b1, b2, b3, b4, b5, a6, a7, a8, a9, a10, a11, a12, a13, b14] := blk_put (cs := #[b0, b1, b2, b3, b4, a5, a6, a7, a8, a9, a10, a11, a12, a13, b14]) r6 5 b5 (by simp only [List.setIfInBounds_toArray, List.set_cons_zero, List.set_cons_succ])
  generalize hW7 : W6.setCell ⟨h, 5, none⟩ b5 = W7 at *
  have r8 : Rec (W7.setCell ⟨h, 6, none⟩ b6) h #[b0, b1, b2, b3, b4, b5, b6, a7, a8, a9, a10, a11, a12, a13, b14] := blk_put (cs := #[b0, b1, b2, b3, b4, b5, a6, a7, a8, a9, a10, a11, a12, a13, b14]) r7 6 b6 (by simp only [List.setIfInBounds_toArray, List.set_cons_zero, List.set_cons_succ])
  generalize hW8 : W7.setCell ⟨h, 6, none⟩ b6 = W8 at *
  have r9 : Rec (W8.setCell ⟨h, 7, none⟩ b7) h #[b0, b1, b2, b3, b4, b5, b6, b7, a8, a9, a10, a11, a12, a13, b14] := blk_put (cs := #[b0, b1, b2, b3, b4, b5, b6, a7, a8, a9, a10, a11, a12, a13, b14]) r8 7 b7 (by simp only [List.setIfInBounds_toArray, List.set_cons_zero, List.set_cons_succ])
  generalize hW9 : W8.setCell ⟨h, 7, none⟩ b7 = W9 at *
  have r10 : Rec (W9.setCell ⟨h, 8, none⟩ b8) h #[b0, b1, b2, b3, b4, b5, b6, b7, b8, a9, a10, a11, a12, a13, b14] := blk_put (cs := #[b0, b1, b2, b3, b4, b5, b6, b7, a8, a9, a10, a11, a12, a13, b14]) r9 8 b8 (by simp only [List.setIfInBounds_toArray, List.set_cons_zero, List.set_cons_succ])
  generalize hW10 : W9.setCell ⟨h, 8, none⟩ b8 = W10 at *
  have r11 : Rec (W10.setCell ⟨h, 9, none⟩ b9) h #[b0, b1, b2, b3, b4, b5, b6, b7, b8, b9, a10, a11, a12, a13, b14] := blk_put (cs := #[b0, b1, b2, b3, b4, b5, b6, b7, b8, a9, a10, a11, a12, a13, b14]) r10 9 b9 (by simp only [List.setIfInBounds_toArray, List.set_cons_zero, List.set_cons_succ])
  generalize hW11 : W10.setCell ⟨h, 9, none⟩ b9 = W11 at *
  have r12 : Rec (W11.setCell ⟨h, 10, none⟩ b10) h #[b0, b1, b2, b3, b4, b5, b6, b7, b8, b9, b10, a11, a12, a13, b14] := blk_put (cs := #[b0, b1, b2, b3, b4, b5, b6, b7, b8, b9, a10, a11, a12, a13, b14]) r11 10 b10 (by simp only [List.setIfInBounds_toArray, List.set_cons_zero, List.set_cons_succ])
  generalize hW12 : W11.setCell ⟨h, 10, none⟩ b10 = W12 at *
  have r13 : Rec (W12.setCell ⟨h, 11, none⟩ b11) h #[b0, b1, b2, b3, b4, b5, b6, b7, b8, b9, b10, b11, a12, a13, b14] := blk_put (cs := #[b0, b1, b2, b3, b4, b5, b6, b7, b8, b9, b10, a11, a12, a13, b14]) r12 11 b11 (by simp only [List.setIfInBounds_toArray, List.set_cons_zero, List.set_cons_succ])
  generalize hW13 : W12.setCell ⟨h, 11, none⟩ b11 = W13 at *
  have r14 : Rec (W13.setCell ⟨h, 12, none⟩ b12) h #[b0, b1, b2, b3, b4, b5, b6, b7, b8, b9, b10, b11, b12, a13, b14] := blk_put (cs := #[b0, b1, b2, b3, b4, b5, b6, b7, b8, b9, b10, b11, a12, a13, b14]) r13 12 b12 (by simp only [List.setIfInBounds_toArray, List.set_cons_zero, List.set_cons_succ])
  generalize hW14 : W13.setCell ⟨h, 12, none⟩ b12 = W14 at *
  have r15 : Rec (W14.setCell ⟨h, 13, none⟩ b13) h #[b0, b1, b2, b3, b4, b5, b6, b7, b8, b9, b10, b11, b12, b13, b14] := blk_put (cs := #[b0, b1, b2, b3, b4, b5, b6, b7, b8, b9, b10, b11, b12, a13, b14]) r14 13 b13 (by simp only [List.setIfInBounds_toArray, List.set_cons_zero, List.set_cons_succ])
  generalize hW15 : W14.setCell ⟨h, 13, none⟩ b13 = W15 at *
  have r16 : Rec (W15.setCell ⟨h, 14, none⟩ b14) h #[b0, b1, b2, b3, b4, b5, b6, b7, b8, b9, b10, b11, b12, b13, b14] := blk_put (cs := #[b0, b1, b2, b3, b4, b5, b6, b7, b8, b9, b10, b11, b12, b13, b14]) r15 14 b14 (by simp only [List.setIfInBounds_toArray, List.set_cons_zero, List.set_cons_succ])
  generalize hW16 : W15.setCell ⟨h, 14, none⟩ b14 = W16 at *
  exact r16
theorem fill16_but {W : World} {h : Nat} {b0 b1 b2 b3 b4 b5 b6 b7 b8 b9 b10 b11 b12 b13 b14 : Value} : But W ((((((((((((((((W.setCell ⟨h, 14, none⟩ b14).setCell ⟨h, 0, none⟩ b0).setCell ⟨h, 1, none⟩ b1).setCell ⟨h, 2, none⟩ b2).setCell ⟨h, 3, none⟩ b3).setCell ⟨h, 4, none⟩ b4).setCell ⟨h, 5, none⟩ b5).setCell ⟨h, 6, none⟩ b6).setCell ⟨h, 7, none⟩ b7).setCell ⟨h, 8, none⟩ b8).setCell ⟨h, 9, none⟩ b9).setCell ⟨h, 10, none⟩ b10).setCell ⟨h, 11, none⟩ b11).setCell ⟨h, 12, none⟩ b12).setCell ⟨h, 13, none⟩ b13).setCell ⟨h, 14, none⟩ b14) h :=
  (((((((((((((((But.setCell W h 14 b14).trans (But.setCell _ h 0 b0)).trans (But.setCell _ h 1 b1)).trans (But.setCell _ h 2 b2)).trans (But.setCell _ h 3 b3)).trans (But.setCell _ h 4 b4)).trans (But.setCell _ h 5 b5)).trans (But.setCell _ h 6 b6)).trans (But.setCell _ h 7 b7)).trans (But.setCell _ h 8 b8)).trans (But.setCell _ h 9 b9)).trans (But.setCell _ h 10 b10)).trans (But.setCell _ h 11 b11)).trans (But.setCell _ h 12 b12)).trans (But.setCell _ h 13 b13)).trans (But.setCell _ h 14 b14)
end Go.Proofs.Ytbogmogimoleaaa.Given
