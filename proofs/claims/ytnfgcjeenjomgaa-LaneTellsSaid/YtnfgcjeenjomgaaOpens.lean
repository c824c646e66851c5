/- A parameter's reading, opened as the print's words read it, and how long its slices can be: whole numbers, bools, slices of what opens, to any depth. -/
import Derived.Test.YtnfgcjeenjomgaaWWords
import Derived.Test.YtnfgcjeenjomgaaWMore
import Derived.ProofKit
import Derived.OpenShut
import Derived.SizedLaws
import Derived.Deep.Slices
import Derived.Deep.Strs
import Derived.Deep.Fields
namespace Go.Proofs.YtnfgcjeenjomgaaW.Opens
open Go.RowKit Go.ChangeShapes Go.WideShapes Go.Deep Go.Proofs.YtnfgcjeenjomgaaW.PrintWords Go.Proofs.YtnfgcjeenjomgaaW.PrintLast Go.Proofs.YtnfgcjeenjomgaaW.PrintMore
/-- What is read at type t reads as an x, of which wf holds. -/
def Opens {α : Type} (P : Program) (d : Kd α) (t : TypeId) (wf : α → Prop) : Prop :=
  ∀ {H : Type} (enc : TypeId × Value → H) (w : World) (base : Nat) (spare : Nat → Bool) (held : Bool) (fuel : Nat) (cs : List Value) (x : DataW H × List MemPlace),
    DataW.trod enc P w base spare held fuel t cs = some x → (∀ n ∈ x.1.weights P t, n ≤ reachBytes) → ∃ y : α, d.K w y cs ∧ wf y
theorem weights_arg {H : Type} {P : Program} {ts : List TypeId} {ds : List (DataW H)} (h : (DataW.weightsEach P ts ds).all (· ≤ reachBytes) = true) {j : Nat} {t : TypeId} {d : DataW H} (ht : ts[j]? = some t) (hd : ds[j]? = some d) : ∀ n ∈ d.weights P t, n ≤ reachBytes := fun n hn => by
  have := List.all_eq_true.1 h n (DataW.weights_mem_each ht hd n hn)
  simpa using this
theorem opens_int {P : Program} {t : TypeId} {k : IntKind} (ht : P.underlying t = some (.int k)) : Opens P (Kd.int k) t (fun y => (Lit.int k y).wf = true) := by
  intro H enc w base spare held fuel cs x h _
  obtain ⟨n, rfl, _, hw⟩ := DataW.trod_int ht h
  exact ⟨n, rfl, hw⟩
theorem opens_bool {P : Program} {t : TypeId} (ht : P.underlying t = some .bool) : Opens P Kd.bool t (fun _ => True) := by
  intro H enc w base spare held fuel cs x h _
  obtain ⟨n, rfl, _⟩ := DataW.trod_bool ht h
  exact ⟨n, rfl, trivial⟩
theorem weights_all {H : Type} {P : Program} {e : TypeId} : ∀ {ds : List (DataW H)} {d : DataW H}, d ∈ ds → ∀ n ∈ d.weights P e, n ∈ DataW.weightsAll P e ds
  | d0 :: ds, d, hd, n, hn => by
    rw [DataW.weightsAll, List.mem_append]
    rcases List.mem_cons.1 hd with rfl | h
    · exact Or.inl hn
    · exact Or.inr (weights_all h n hn)
theorem opens_slice {α : Type} {P : Program} {t e : TypeId} {d : Kd α} {wf : α → Prop} (ht : P.underlying t = some (.slice e)) (hz : P.cellsOf e = d.sz) (ho : Opens P d e wf) : Opens P (Kd.slice e d) t (fun l => l.length * P.bytesOf e ≤ reachBytes ∧ ∀ x ∈ l, wf x) := by
  intro H enc w base spare held fuel cs x h hwt
  rcases open_slice ht h with ⟨rfl, _⟩ | ⟨a, len, cap, m, n, D, Pl, rfl, _, hl, hm, hmm, hx0, hx⟩
  · exact ⟨[], ⟨none, 0, rfl, Nat.le_refl _, Kd.C_nil _ _⟩, by simp⟩
  · have hlm : len ≤ m := by rw [hmm]; split <;> omega
    rw [hx0] at hwt
    simp only [DataW.weights, ht, List.mem_cons, List.mem_append] at hwt
    have hy : ∀ i, i < len → ∃ y : α, (∃ cs', w.cells? base (a.add (i * d.sz)) d.sz = some cs' ∧ d.K w y cs') ∧ wf y := by
      intro i hi
      obtain ⟨cs', h1, h2⟩ := hx i (by omega)
      obtain ⟨y, hk, hw⟩ := ho enc w base spare held n cs' _ h2 (fun q hq => hwt q (Or.inr (Or.inl (weights_all (List.mem_map.2 ⟨i, List.mem_range.2 hi, rfl⟩) q hq))))
      rw [hz] at h1
      exact ⟨y, ⟨cs', h1, hk⟩, hw⟩
    classical
    let f : Fin len → α := fun i => Classical.choose (hy i.val i.isLt)
    have hf : ∀ i : Fin len, (∃ cs', w.cells? base (a.add (i.val * d.sz)) d.sz = some cs' ∧ d.K w (f i) cs') ∧ wf (f i) := fun i => Classical.choose_spec (hy i.val i.isLt)
    have hlen : (List.ofFn f).length = len := List.length_ofFn
    refine ⟨List.ofFn f, ⟨some a, cap, by rw [hlen], by rw [hlen]; exact hl, ?_⟩, ?_, ?_⟩
    · rw [hlen]
      refine ⟨hlen, by unfold maxLen at hm; omega, fun _ => ⟨a, rfl, fun j p hp => ?_⟩⟩
      obtain ⟨hj, hjp⟩ := List.getElem?_eq_some_iff.mp hp
      rw [hlen] at hj
      rw [List.getElem_ofFn] at hjp
      obtain ⟨⟨cs', h1, h2⟩, _⟩ := hf ⟨j, hj⟩
      obtain ⟨_, hl', hc'⟩ := World.cells?_some h1
      rw [hjp] at h2
      refine ⟨cs', hl', h2, fun i u hu => ?_⟩
      have hi : i < d.sz := by have := (List.getElem?_eq_some_iff.mp hu).1; omega
      have := hc' i hi
      rw [Go.Deep.add_add] at this
      rw [this]
      exact hu
    · have := hwt _ (Or.inl rfl)
      rw [List.length_map, List.length_range] at this
      rw [hlen]
      exact Nat.le_trans (Nat.mul_le_mul_right _ (by omega)) this
    · intro x hx
      obtain ⟨i, rfl⟩ := List.mem_ofFn.mp hx
      exact (hf i).2
/-- A struct of two one-cell fields, as an element. -/
theorem opens_pair {α β γ : Type} {P : Program} {t : TypeId} {f0 f1 : Field} {d0 : Kd α} {d1 : Kd β} {w0 : α → Prop} {w1 : β → Prop} (g : γ → α × β) (g' : α × β → γ) (hg : ∀ x, g (g' x) = x) (ht : P.underlying t = some (.struct #[f0, f1])) (ho : oneCellFields P #[f0, f1] = true) (hc : P.cellsOf t = 2)
    (h0 : Opens P d0 f0.type w0) (h1 : Opens P d1 f1.type w1) : Opens P (Kd.iso (Kd.pair d0 d1) g) t (fun x => w0 (g x).1 ∧ w1 (g x).2) := by
  intro H enc w base spare held fuel cs x h hwt
  obtain ⟨y0, y1, n, hxe, hl, a0, a1⟩ := trod_struct2 ht h
  obtain ⟨o0, k0⟩ := hone_of ho 0 f0 rfl
  obtain ⟨o1, k1⟩ := hone_of ho 1 f1 rfl
  rw [o0, k0] at a0
  rw [o1, k1] at a1
  rw [hc] at hl
  rw [hxe] at hwt
  simp only [DataW.weights, ht, DataW.weightsEach, List.map_cons, List.map_nil, List.mem_append, List.append_nil] at hwt
  match cs, hl with
  | [c0, c1], _ =>
    obtain ⟨x0, e0, wf0⟩ := h0 enc w base spare held n [c0] _ a0 (fun q hq => hwt q (Or.inl hq))
    obtain ⟨x1, e1, wf1⟩ := h1 enc w base spare held n [c1] _ a1 (fun q hq => hwt q (Or.inr hq))
    refine ⟨g' (x0, x1), ?_, ?_⟩
    · show (Kd.pair d0 d1).K w (g (g' (x0, x1))) [c0, c1]
      rw [hg]
      exact ⟨[c0], [c1], rfl, e0, e1⟩
    · show w0 (g (g' (x0, x1))).1 ∧ w1 (g (g' (x0, x1))).2
      rw [hg]
      exact ⟨wf0, wf1⟩
end Go.Proofs.YtnfgcjeenjomgaaW.Opens
