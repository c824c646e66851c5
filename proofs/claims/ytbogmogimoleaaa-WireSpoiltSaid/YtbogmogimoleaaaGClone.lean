/- The walk of bytes.Clone: a copy of the bytes, in memory of the call's own. -/
import Derived.Test.YtbogmogimoleaaaGSum
import Derived.WalkSpells
namespace Go.Proofs.Ytbogmogimoleaaa.Given
open Go.RowKit Go.Proofs.YtbogmogimoleaaaW.PrintWords Go.Proofs.YtbogmogimoleaaaW.PrintLast Go.Proofs.YtbogmogimoleaaaW.PrintMore
set_option linter.unusedVariables false
set_option linter.unusedSimpArgs false
theorem infoB : (Try.prog.info? 5).map (fun i => (i.zero, i.size, i.bytes)) = some (some (.int .u8 0), 1, 1) := by kernel_rfl
theorem R_empty (w : World) : Kd.R (Kd.int .u8) 5 (w.alloc (.cells #[] 5)) w.heap.size (fun _ => True) (.slice (some ⟨w.heap.size, 0, none⟩) 0 0) [] :=
  Kd.R_of_own (h1 := fun _ => rfl) (xs := []) ⟨rfl, .inr ⟨w.heap.size, 0, #[], rfl, Nat.le_refl _, (by show (w.heap.push _)[w.heap.size]? = _; exact Array.getElem?_push_size), by simp, by simp [maxLen], rfl, rfl⟩⟩ (fun _ _ => trivial)
def bytes_Clone.f (l0 : List Int) : Option (List Int) := if l0.length < 140737488355328 then some l0 else none
set_option maxHeartbeats 8000000 in
set_option maxRecDepth 100000 in
theorem bytes_Clone.calls (A0 : Option Addr) (c0 : Nat) (l0 : List Int) (r : List Int) (w : World) (hr0 : Kd.C (Kd.int .u8) w A0 l0.length l0) (hc0 : l0.length ≤ c0) (h : bytes_Clone.f l0 = some r) :
    Calls Try.prog 35 #[.slice A0 l0.length c0] w fun e w' => ∃ v0_ : Value, e = .returned (v0_) ∧ Kd.R (Kd.int .u8) 5 w' w.heap.size (fun _ => True) v0_ r ∧ Below w.heap.size w w' := by
  unfold bytes_Clone.f at h
  split at h
  · rename_i hlt
    obtain rfl := Option.some.inj h
    clear h
    have HR0 := Aside0.mk hr0
    have HC0 := Aside0.mk hc0
    have HL := Aside0.mk hlt
    clear hr0 hc0 hlt
    have hq := fun w a n c => Lib.run_eql_slice_nil (P := Try.prog) w 23 5 a n c 0 0 Try.underlying23
    cases A0 with
    | none =>
      have h0 : l0 = [] := by
        rcases Nat.eq_zero_or_pos l0.length with h | h
        · exact List.length_eq_zero_iff.mp h
        · obtain ⟨ad, e, _⟩ := Kd.at_int HR0.out 0 (by omega) (by omega)
          cases e
      have H0 := Aside0.mk h0
      clear h0
      go_enter Try.func35, Try.ntmps35
      go_wp2
      go_ret
      exact ⟨_, rfl, by rw [H0.out]; exact Kd.R_nil _ _ _ _ _, Below.refl _ _⟩
    | some ad =>
      go_enter Try.func35, Try.ntmps35
      go_wp2_with (first | ((with_reducible refine gate_builtin (b := .append) (xs := #[.tmp 5, .tmp 6]) rfl ?_); at_builtin; refine Kd.R_append_rows (Kd.int .u8) (w0 := w) w.heap.size rfl (.tmp 5) (.tmp 6) 23 5 (.int .u8 0) 1 rfl Try.underlying23 infoB rfl (by decide) (by omega) (.slice (some ⟨w.heap.size, 0, none⟩) 0 0) ([] : List Int) l0 _ _ _ (fun _ => True) (fun _ => False) rfl rfl ?aO ?aR (fun _ _ h => h) (fun _ h => h.elim) ?aF ?aB ?aS ?aL ?_; (case aR => exact Kd.C_below HR0.out ((Below.refl _ _).alloc (Nat.le_refl _) _)); (case aB => exact (Below.refl _ _).alloc (Nat.le_refl _) _); (case aF => exact (fun _ _ => trivial)); (case aO => exact R_empty w); (case aS => simp); (case aL => have := HL.out; simp only [List.length_nil]; omega); intro v1 w1 ho hb hg hat; have HO := Aside0.mk ho; have HB := Aside0.mk hb; clear ho hb hg hat))
      go_ret
      exact ⟨_, rfl, HO.out, HB.out⟩
  · cases h
/-- One row, in a box of one: what is read of the list of them. -/
theorem C_box {W : World} {A : Option Addr} {n c : Nat} {l : List Int} (hn : n = l.length) (hc : n ≤ c) (h : (Kd.int .u8).C W A l.length l) :
    (Kd.slice 5 (Kd.int .u8)).C (W.alloc (.cells #[.slice A n c] 23)) (some ⟨W.heap.size, 0, none⟩) 1 [l] := by
  subst hn
  refine ⟨rfl, by omega, fun _ => ⟨_, rfl, ?_⟩⟩
  intro j p hp
  have hj : j = 0 := by
    have := (List.getElem?_eq_some_iff.mp hp).1
    simpa using this
  subst hj
  obtain rfl : l = p := by simpa using hp
  refine ⟨[.slice A l.length c], rfl, ⟨_, _, rfl, hc, Kd.C_below h ((Below.refl _ _).alloc (Nat.le_refl _) _)⟩, fun i u hu => ?_⟩
  have hi : i = 0 := by
    have := (List.getElem?_eq_some_iff.mp hu).1
    simpa using this
  subst hi
  rw [add_plain]
  unfold World.cell?
  have h1 : (W.alloc (.cells #[.slice A l.length c] 23)).heap[W.heap.size]? = some (.cells #[.slice A l.length c] 23) := by
    show (W.heap.push _)[W.heap.size]? = _
    exact Array.getElem?_push_size
  simp only [h1]
  simpa using hu
end Go.Proofs.Ytbogmogimoleaaa.Given
