/- A parameter's reading, opened as the print's words read it: whole numbers, bools, slices of what opens, to any depth. -/
import Derived.Test.YtbogmogimoleaaaWWords
import Derived.Test.YtbogmogimoleaaaWMore
import Derived.ProofKit
import Derived.OpenShut
import Derived.Deep.Slices
namespace Go.Proofs.YtbogmogimoleaaaW.Opens
open Go.RowKit Go.ChangeShapes Go.WideShapes Go.Deep Go.Proofs.YtbogmogimoleaaaW.PrintWords Go.Proofs.YtbogmogimoleaaaW.PrintLast Go.Proofs.YtbogmogimoleaaaW.PrintMore
/-- What is read at type t reads as an x, of which wf holds. -/
def Opens {α : Type} (P : Program) (d : Kd α) (t : TypeId) (wf : α → Prop) : Prop :=
  ∀ {H : Type} (enc : TypeId × Value → H) (w : World) (base : Nat) (spare : Nat → Bool) (held : Bool) (fuel : Nat) (cs : List Value) (x : DataW H × List MemPlace),
    DataW.trod enc P w base spare held fuel t cs = some x → ∃ y : α, d.K w y cs ∧ wf y
theorem opens_int {P : Program} {t : TypeId} {k : IntKind} (ht : P.underlying t = some (.int k)) : Opens P (Kd.int k) t (fun y => (Lit.int k y).wf = true) := by
  intro H enc w base spare held fuel cs x h
  obtain ⟨n, rfl, _, hw⟩ := DataW.trod_int ht h
  exact ⟨n, rfl, hw⟩
theorem opens_bool {P : Program} {t : TypeId} (ht : P.underlying t = some .bool) : Opens P Kd.bool t (fun _ => True) := by
  intro H enc w base spare held fuel cs x h
  obtain ⟨n, rfl, _⟩ := DataW.trod_bool ht h
  exact ⟨n, rfl, trivial⟩
theorem opens_slice {α : Type} {P : Program} {t e : TypeId} {d : Kd α} {wf : α → Prop} (ht : P.underlying t = some (.slice e)) (hz : P.cellsOf e = d.sz) (ho : Opens P d e wf) : Opens P (Kd.slice e d) t (fun l => ∀ x ∈ l, wf x) := by
  intro H enc w base spare held fuel cs x h
  rcases open_slice ht h with ⟨rfl, _⟩ | ⟨a, len, cap, m, n, D, Pl, rfl, _, hl, hm, hmm, _, hx⟩
  · exact ⟨[], ⟨none, 0, rfl, Nat.le_refl _, Kd.C_nil _ _⟩, by simp⟩
  · have hlm : len ≤ m := by rw [hmm]; split <;> omega
    have hy : ∀ i, i < len → ∃ y : α, (∃ cs', w.cells? base (a.add (i * d.sz)) d.sz = some cs' ∧ d.K w y cs') ∧ wf y := by
      intro i hi
      obtain ⟨cs', h1, h2⟩ := hx i (by omega)
      obtain ⟨y, hk, hw⟩ := ho enc w base spare held n cs' _ h2
      rw [hz] at h1
      exact ⟨y, ⟨cs', h1, hk⟩, hw⟩
    classical
    let f : Fin len → α := fun i => Classical.choose (hy i.val i.isLt)
    have hf : ∀ i : Fin len, (∃ cs', w.cells? base (a.add (i.val * d.sz)) d.sz = some cs' ∧ d.K w (f i) cs') ∧ wf (f i) := fun i => Classical.choose_spec (hy i.val i.isLt)
    have hlen : (List.ofFn f).length = len := List.length_ofFn
    refine ⟨List.ofFn f, ⟨some a, cap, by rw [hlen], by rw [hlen]; exact hl, ?_⟩, ?_⟩
    · rw [hlen]
      refine ⟨hlen, by unfold maxLen at hm; omega, fun _ => ⟨a, rfl, fun j p hp => ?_⟩⟩
      obtain ⟨hj, hjp⟩ := List.getElem?_eq_some_iff.mp hp
      rw [hlen] at hj
      rw [List.getElem_ofFn] at hjp
      obtain ⟨⟨cs', h1, h2⟩, _⟩ := hf ⟨j, hj⟩
      obtain ⟨_, hl', hc'⟩ := World.cells?_some h1
      rw [hjp] at h2
      refine ⟨cs', hl', h2, fun i u hu => ?_⟩
      have hi : i < d.sz := by have := (List.getElem?_eq_some_iff.mp hu).1; omega
      have := hc' i hi
      rw [Go.Deep.add_add] at this
      rw [this]
      exact hu
    · intro x hx
      obtain ⟨i, rfl⟩ := List.mem_ofFn.mp hx
      exact (hf i).2
end Go.Proofs.YtbogmogimoleaaaW.Opens
