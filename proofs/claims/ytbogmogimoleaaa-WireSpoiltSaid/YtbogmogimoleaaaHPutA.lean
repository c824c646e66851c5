/- The walk of put: numbers of one to four bytes behind bytes. -/
import Derived.Test.YtbogmogimoleaaaHKs
namespace Go.Proofs.Ytbogmogimoleaaa.Given
open Go.RowKit Go.Proofs.YtbogmogimoleaaaW.PrintWords Go.Proofs.YtbogmogimoleaaaW.PrintLast Go.Proofs.YtbogmogimoleaaaW.PrintMore Go.Proofs.Ytbogmogimoleaaa.W Go.Proofs.Ytbogmogimoleaaa.Plain7
set_option linter.unusedVariables false
set_option linter.unusedSimpArgs false
/-- A part as an interface value: how many bytes, and the number. -/
def ifv (p : Nat × Int) : Value := if p.1 = 1 then .iface 5 (.int .u8 p.2) else if p.1 = 2 then .iface 55 (.int .u16 p.2) else if p.1 = 3 then .iface 56 (.int .u32 p.2) else .iface 31 (.int .u32 p.2)
def okP (p : Nat × Int) : Prop := 1 ≤ p.1 ∧ p.1 ≤ 4 ∧ 0 ≤ p.2 ∧ p.2 < 4294967296
/-- A number's bytes, the greatest first. -/
def be (sz : Nat) (n : Int) : List Int := (List.range sz).map fun j => n / 2 ^ (8 * (sz - 1 - j)) % 256
theorem be_len (sz : Nat) (n : Int) : (be sz n).length = sz := by simp [be]
theorem be_step (sz : Nat) (n : Int) (j : Nat) (hj : j < sz) : (be sz n).take (j + 1) = (be sz n).take j ++ [n / 2 ^ (8 * (sz - 1 - j)) % 256] := by
  rw [List.take_add_one]
  congr 1
  simp [be, hj]
def bes (ps : List (Nat × Int)) : List Int := ps.flatMap fun p => be p.1 p.2
theorem bes_step (ps : List (Nat × Int)) (i : Nat) (hi : i < ps.length) : bes (ps.take (i + 1)) = bes (ps.take i) ++ be ps[i].1 ps[i].2 := by
  unfold bes
  rw [List.take_add_one, List.flatMap_append]
  simp [hi]
theorem bes_len (ps : List (Nat × Int)) (h : ∀ p ∈ ps, okP p) : (bes ps).length ≤ 4 * ps.length := by
  induction ps with
  | nil => simp [bes]
  | cons p ps ih =>
    have h1 := ih (fun q hq => h q (List.mem_cons_of_mem _ hq))
    have h2 := h p (List.mem_cons_self ..)
    unfold bes at h1 ⊢
    rw [List.flatMap_cons, List.length_append, be_len, List.length_cons]
    have := h2.2.1
    omega
/-- The row of the parts: block b. -/
def Parts (W : World) (b : Nat) (ps : List (Nat × Int)) : Prop := W.heap[b]? = some (.cells (ps.map ifv).toArray 20 (0, 0))
theorem Parts.cell {W : World} {b : Nat} {ps : List (Nat × Int)} (p : Parts W b ps) (j : Nat) (hj : j < ps.length) : W.cell? ⟨b, j, none⟩ = some (ifv ps[j]) := by
  rw [blk_cell p]
  simp [hj]
theorem Parts.grown {W W1 : World} {b base : Nat} {ps : List (Nat × Int)} {v : Value} {xs : List Int} {ok : Nat → Prop} (p : Parts W b ps) (h : Kd.R (Kd.int .u8) 5 W base ok v xs) (hg : W.grownBy W1 v.ownBlock) : Parts W1 b ps := by
  have hb := (Array.getElem?_eq_some_iff.1 p).1
  refine (hg.block b hb ?_).trans p
  intro hk
  obtain ⟨cells, hc⟩ := Kd.R_typed h b hk.symm
  rw [p] at hc
  simp at hc
end Go.Proofs.Ytbogmogimoleaaa.Given
