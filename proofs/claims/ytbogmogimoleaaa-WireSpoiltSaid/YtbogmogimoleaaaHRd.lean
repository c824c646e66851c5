/- reader.number over a reader that stands before some bytes. -/
import Derived.Test.YtbogmogimoleaaaHNumB
namespace Go.Proofs.Ytbogmogimoleaaa.Given
open Go.RowKit Go.Proofs.YtbogmogimoleaaaW.PrintWords Go.Proofs.YtbogmogimoleaaaW.PrintLast Go.Proofs.YtbogmogimoleaaaW.PrintMore Go.Proofs.Ytbogmogimoleaaa.W
set_option linter.unusedVariables false
set_option linter.unusedSimpArgs false
/-- As before, but for one block. -/
structure But (w w' : World) (g : Nat) : Prop where
  os : w'.os = w.os
  tape : w'.tape = w.tape
  output : w'.output = w.output
  size : w'.heap.size = w.heap.size
  block : ∀ k, k ≠ g → w'.heap[k]? = w.heap[k]?
theorem But.below {w w' : World} {g B : Nat} (h : But w w' g) (hB : B ≤ g) : Below B w w' := ⟨h.os, h.tape, h.output, by rw [h.size]; exact Nat.le_refl _, fun k hk => h.block k (by omega)⟩
theorem But.trans {a b c : World} {g : Nat} (h : But a b g) (k : But b c g) : But a c g := ⟨k.os.trans h.os, k.tape.trans h.tape, k.output.trans h.output, k.size.trans h.size, fun q hq => (k.block q hq).trans (h.block q hq)⟩
theorem But.cell {w w' : World} {g : Nat} (h : But w w' g) {p : Addr} (hp : p.block ≠ g) : w'.cell? p = w.cell? p := World.cell?_of_block (w := w) (h.block p.block hp)
theorem But.frozen {w w' : World} {g : Nat} (h : But w w' g) {p : Addr} (hp : p.block ≠ g) : w'.frozen? p = w.frozen? p := World.frozen?_of_block (w := w) (h.block p.block hp)
theorem But.setCell (w : World) (g j : Nat) (v : Value) : But w (w.setCell ⟨g, j, none⟩ v) g := by
  have hb : Below 0 w (w.setCell ⟨g, j, none⟩ v) := (Below.refl 0 w).setCell (Nat.zero_le _) v
  refine ⟨hb.os, hb.tape, hb.output, ?_, fun k hk => Below.heap_setCell w _ v k hk⟩
  simp [World.setCell]
theorem one_cell {w : World} {g j t : Nat} {cs : Array Value} (h : w.heap[g]? = some (.cells cs t (0, 0))) (hj : j < cs.size) : w.cell? ⟨g, j, none⟩ = some cs[j] ∧ w.frozen? ⟨g, j, none⟩ = false :=
  ⟨(blk_cell h j).trans (by simp [hj]), blk_frozen h j⟩
/-- A reader (its cell is block g's) that stands before bytes, which were there in an elder world. -/
def RD (w0 W : World) (g : Nat) (rest : List Int) : Prop := ∃ A c, W.heap[g]? = some (.cells #[.slice A rest.length c] 67 (0, 0)) ∧ Kd.C (Kd.int .u8) w0 A rest.length rest ∧ rest.length ≤ c ∧ Below w0.heap.size w0 W ∧ w0.heap.size ≤ g ∧ okB rest = true
def short : List PanicEntry := [{ v := .iface 66 (.agg #[]), recovered := false }]
theorem number_calls {w0 W : World} {g : Nat} {rest : List Int} (h : RD w0 W g rest) (size : Nat) (z : Int) (hz : (size : Int) = z) (h1 : 1 ≤ size) (h4 : size ≤ 4) :
    Calls Try.prog 44 #[.pointer (some ⟨g, 0, none⟩), .int .i64 z] W fun e w' =>
      (rest.length < size ∧ e = .panicked short ∧ w' = W) ∨ (size ≤ rest.length ∧ e = .returned (.int .i64 (numB (rest.take size))) ∧ RD w0 w' g (rest.drop size) ∧ But W w' g) := by
  subst hz
  obtain ⟨A, c, hb, hC, hc, hbel, hg, hok⟩ := h
  have e0 := (one_cell (j := 0) hb (by simp)).1
  have e1 := (one_cell (j := 0) hb (by simp)).2
  by_cases hs : rest.length < size
  · refine (number_short g rest.length c A size W e0 hs).mono ?_
    rintro e w' ⟨rfl, rfl⟩
    exact .inl ⟨hs, rfl, rfl⟩
  · refine (number_ok g c A rest size W (Kd.C_below hC hbel) hc hok h1 h4 (by omega) e0 e1).mono ?_
    rintro e w' ⟨rfl, rfl⟩
    refine .inr ⟨by omega, rfl, ⟨_, c - size, blk_put (cs := #[.slice A rest.length c]) hb 0 _ (by rw [List.length_drop]; rfl), ?_, ?_, hbel.setCell hg _, hg, ?_⟩, ?_⟩
    · have hd := Kd.C_drop (m := size) (c := c) hC (by omega) hc
      have hz : (Kd.int .u8).sz = 1 := rfl
      rw [hz, Nat.mul_one] at hd
      exact hd
    · rw [List.length_drop]; omega
    · rw [okB, List.all_eq_true] at hok ⊢
      exact fun x hx => hok x (List.mem_of_mem_drop hx)
    · exact But.setCell _ _ _ _
end Go.Proofs.Ytbogmogimoleaaa.Given
