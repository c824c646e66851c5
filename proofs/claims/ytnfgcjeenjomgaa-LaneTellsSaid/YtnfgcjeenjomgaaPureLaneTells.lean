/- Any way may be, or not, and is turned as the document says: the law, over its walk. -/
import Derived.Test.YtnfgcjeenjomgaaPureRef
import Derived.Test.YtnfgcjeenjomgaaGTellsC
namespace Go.Proofs.Ytnfgcjeenjomgaa.Pure
open Go.RowKit Go.Proofs.Ytnfgcjeenjomgaa.S Go.Proofs.Ytnfgcjeenjomgaa.Given Go.Proofs.YtnfgcjeenjomgaaW.PrintWords
set_option linter.unusedVariables false
def Fx (l : List S29) : Prop := l.length ≤ 81 ∧ ∀ x ∈ l, x.f0.length ≤ 20000
theorem same_fx {l : List S29} (h : Fx l) (k : Nat) (hk : 20100 < k) : fourinhandref22_Same.f k l l = some true := same22 l 20000 (by have := h.1; omega) (by omega) h.2 k (by have := h.1; omega)
theorem fx_app {l : List S29} {x : S29} (h : Fw l) (hx : x.f0.length ≤ 20000) : Fx (l ++ [x]) := by
  refine ⟨by have := h.1; simp only [List.length_append, List.length_cons, List.length_nil]; omega, fun z hz => ?_⟩
  rw [List.mem_append, List.mem_singleton] at hz
  rcases hz with h1 | rfl
  · exact h.2 z h1
  · exact hx
theorem fx_set {l : List S29} {x : S29} (i : Nat) (h : Fw l) (hx : x.f0.length ≤ 20000) : Fx (l.set i x) := by
  refine ⟨by have := h.1; rw [List.length_set]; omega, fun z hz => ?_⟩
  rcases List.mem_or_eq_of_mem_set hz with h1 | rfl
  · exact h.2 z h1
  · exact hx
theorem fx_self {l : List S29} (h : Fw l) : Fx l := ⟨by have := h.1; omega, h.2⟩
theorem rd_len {l : List S29} (h : Fw l) (i : Int) : (rd_T29 l i).f0.length ≤ 20000 := by
  unfold rd_T29
  rw [List.getD_eq_getElem?_getD]
  cases e : l[i.toNat]? with
  | none => simp [z29]
  | some x => exact h.2 x (List.mem_of_getElem? e)
theorem fx_push {l : List S29} (h : Fw l) (b : List Int) (hb : b.length ≤ 2100) : Fx (pushB l b false).1 := by
  unfold pushB
  split
  · exact fx_app h (show b.length ≤ 20000 by omega)
  · exact fx_self h
theorem fx_take {l : List S29} (h : Fw l) (i : Int) : Fx (takeB l i).1 := by
  unfold takeB
  split
  · exact ⟨Nat.le_trans (List.length_eraseIdx_le ..) (by have := h.1; omega), fun x hx => h.2 x (List.mem_of_mem_eraseIdx hx)⟩
  · exact fx_self h
theorem fx_twice {l : List S29} (h : Fw l) (i : Int) : Fx (twiceB l i).1 := by
  unfold twiceB
  split
  · exact fx_app h (rd_len h i)
  · exact fx_self h
theorem fx_mark {l : List S29} (h : Fw l) (i : Int) : Fx (markB l i).1 := by
  unfold markB
  split
  · exact fx_set _ h (rd_len h i)
  · exact fx_self h
theorem fx_spoil {l : List S29} (h : Fw l) (i a y : Int) : Fx (spoilB l i a y).1 := by
  unfold spoilB
  split
  · exact fx_set _ h (by show (List.set _ _ _).length ≤ _; rw [List.length_set]; exact rd_len h i)
  · exact fx_self h
theorem take_len {l : List S29} (h : Fw l) (i : Int) : (takeB l i).2.1.length ≤ 20000 := by
  unfold takeB
  split
  · exact rd_len h i
  · simp
theorem tells_all (A0 : Option Addr) (c0 : Nat) (l : List S29) (A1 : Option Addr) (c1 : Nat) (b : List Int) (i a y : Int) (w : World) (h0 : Pk w A0 c0 l) (h1 : By w A1 c1 b) (hw : okW l) :
    Calls Try.prog 6 #[.slice A0 l.length c0, .slice A1 b.length c1, .int .i64 i, .int .i64 a, .int .u8 y] w fun e w' => e = .returned (.bool true) ∧ Below w.heap.size w w' := by
  obtain ⟨K, hK⟩ : ∃ K : Nat, l.length + 30000 ≤ K := ⟨_, Nat.le_refl _⟩
  obtain ⟨t, ht, hq⟩ := few_eq l hw K (by omega)
  by_cases ho : (!t || decide ((2100 : Int) < (b.length : Int))) = true
  · exact tells_out _ A0 c0 l A1 c1 b.length i a y w h0 t _ ht rfl ho
  · simp only [Bool.or_eq_true, Bool.not_eq_true', decide_eq_true_eq, not_or, Bool.not_eq_false] at ho
    obtain ⟨rfl, hb⟩ := ho
    have hB : decide ((2100 : Int) < (b.length : Int)) = false := decide_eq_false hb
    have hf : Fw l := hq rfl
    have hs := few_small hf
    have hk : 20100 < K := by omega
    have hk2 : 200 < K := by omega
    exact tells_in K A0 c0 l (pushB l b false).1 (takeB l i).1 (twiceB l i).1 (markB l i).1 (spoilB l i a y).1 ⟨(takeB l i).2.1, (takeB l i).2.2.1⟩ (pushB l b false).2 (takeB l i).2.2.2 (twiceB l i).2 (markB l i).2 (spoilB l i a y).2 (mayB l) A1 c1 b i a y w h0 h1 hs ht hB rfl (rmay hf K (by omega)) (fw_own hf K (by omega)) (same_fx (fx_self hf) K hk)
      rfl (rpush hf b (by omega) K hk2) (same_fx (fx_push hf b (by omega)) K hk) rfl (rtake hf i K hk2) (same_fx (fx_take hf i) K hk) (same22 _ 20000 (by simp) (by omega) (fun x hx => by rw [List.mem_singleton.1 hx]; exact take_len hf i) K (by simp only [List.length_cons, List.length_nil]; omega))
      rfl (rtwice hf i K hk2) (same_fx (fx_twice hf i) K hk) rfl (rmark hf i K hk2) (same_fx (fx_mark hf i) K hk) rfl (rspoil hf i a y K hk2) (same_fx (fx_spoil hf i a y) K hk)
end Go.Proofs.Ytnfgcjeenjomgaa.Pure
