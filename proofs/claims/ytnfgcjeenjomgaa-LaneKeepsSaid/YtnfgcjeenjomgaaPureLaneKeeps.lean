/- What is pushed is the last one, and taken as it was: the law, over its walks. -/
import Derived.Test.YtnfgcjeenjomgaaGKeepF
namespace Go.Proofs.Ytnfgcjeenjomgaa.Pure
open Go.RowKit Go.Proofs.Ytnfgcjeenjomgaa.S Go.Proofs.Ytnfgcjeenjomgaa.Given Go.Proofs.YtnfgcjeenjomgaaW.PrintWords
set_option linter.unusedVariables false
theorem app_may {l : List S29} {x : S29} (hm : mayB l = true) (h64 : l.length < 64) (hx : longB x = false) : mayB (l ++ [x]) = true := by
  unfold mayB at hm ⊢
  simp only [Bool.and_eq_true, decide_eq_true_eq, Bool.not_eq_true', List.any_eq_false] at hm ⊢
  refine ⟨by simp only [List.length_append, List.length_cons, List.length_nil]; omega, fun z hz => ?_⟩
  rw [List.mem_append, List.mem_singleton] at hz
  rcases hz with h | rfl
  · exact hm.2 z h
  · rw [hx]
    simp
theorem app_take {l : List S29} {x : S29} (hm : mayB (l ++ [x]) = true) : takeB (l ++ [x]) (l.length : Int) = (l, x.f0, x.f1, true) := by
  unfold takeB
  rw [if_pos ⟨hm, by omega, by simp only [List.length_append, List.length_cons, List.length_nil]; omega⟩, rdT _ l.length (by simp)]
  have t : ((l.length : Int)).toNat = l.length := rfl
  rw [t]
  have e : (l ++ [x]).eraseIdx l.length = l := by
    rw [List.eraseIdx_append_of_length_le (Nat.le_refl _)]
    simp
  rw [e]
  simp
theorem app_small {l : List S29} {x : S29} (hs : small l) (h64 : l.length < 64) (hx : x.f0.length ≤ 1000000) : small (l ++ [x]) := by
  refine ⟨by simp only [List.length_append, List.length_cons, List.length_nil]; omega, fun z hz => ?_⟩
  rw [List.mem_append, List.mem_singleton] at hz
  rcases hz with h | rfl
  · exact hs.2 z h
  · exact hx
theorem may_long {l : List S29} (hm : mayB l = true) {x : S29} (hx : x ∈ l) : longB x = false := by
  unfold mayB at hm
  simp only [Bool.and_eq_true, decide_eq_true_eq, Bool.not_eq_true', List.any_eq_false] at hm
  exact Bool.eq_false_iff.2 (hm.2 x hx)
theorem keeps_all (A0 : Option Addr) (c0 : Nat) (l : List S29) (A1 : Option Addr) (c1 : Nat) (b : List Int) (i : Int) (w : World) (h0 : Pk w A0 c0 l) (h1 : By w A1 c1 b) (hw : okW l) :
    Calls Try.prog 3 #[.slice A0 l.length c0, .slice A1 b.length c1, .int .i64 i] w fun e w' => e = .returned (.bool true) ∧ Below w.heap.size w w' := by
  obtain ⟨K, hK⟩ : ∃ K : Nat, l.length + 30000 ≤ K := ⟨_, Nat.le_refl _⟩
  obtain ⟨t, ht, hq⟩ := few_eq l hw K (by omega)
  by_cases ho : (!t || decide ((2100 : Int) < (b.length : Int)) || !(mayB l)) = true
  · exact keeps_out _ A0 c0 l A1 c1 b.length i w h0 t _ _ ht rfl rfl ho
  · simp only [Bool.or_eq_true, Bool.not_eq_true', decide_eq_true_eq, not_or, Bool.not_eq_false] at ho
    obtain ⟨⟨rfl, hb⟩, hm⟩ := ho
    have hB : decide ((2100 : Int) < (b.length : Int)) = false := decide_eq_false hb
    have hf := hq rfl
    have hs := few_small hf
    have hsame := same_few hf K (by omega)
    have hbyte := same03 b (by omega) K (by omega)
    by_cases h64 : l.length < 64
    · by_cases hi : 0 ≤ i ∧ i < (l.length : Int)
      · obtain ⟨n, rfl⟩ : ∃ n : Nat, i = n := ⟨i.toNat, by omega⟩
        have hn : n < l.length := by omega
        have hmem := rdf l n hn
        have hyl := may_long hm hmem
        have hys := hs.2 _ hmem
        have hy20 := hf.2 _ hmem
        have hTm := app_may hm h64 hyl
        have hT : twiceB l (n : Int) = (l ++ [rd_T29 l (n : Int)], true) := if_pos ⟨⟨hm, hi.1, hi.2⟩, h64⟩
        have hone := same22 [rd_T29 l (n : Int)] 20000 (by simp) (by omega) (fun x hx => by rw [List.mem_singleton.1 hx]; exact hy20) K (by simp only [List.length_cons, List.length_nil]; omega)
        obtain ⟨ad, rfl⟩ : ∃ ad, A0 = some ad := by
          obtain ⟨ad, _, _, e, _⟩ := at_T29 h0.1 (n : Int) (by omega) (by omega)
          exact ⟨ad, e⟩
        by_cases hb2 : b.length ≤ 2000
        · have hP : pushB l b false = (l ++ [(⟨b, false⟩ : S29)], true) := if_pos ⟨hm, h64, hb2⟩
          have hPm := app_may (x := ⟨b, false⟩) hm h64 (by unfold longB; exact decide_eq_false (show ¬ 2000 < b.length by omega))
          exact keeps_tt K ad c0 l (l ++ [(⟨b, false⟩ : S29)]) (l ++ [rd_T29 l (n : Int)]) (rd_T29 l (n : Int)) n A1 c1 b w h0 h1 hs ht hB hm hsame hbyte hP (app_small hs h64 (show b.length ≤ _ by omega)) hPm (app_take hPm) hn rfl hT (app_small hs h64 hys) hTm (app_take hTm) hone
        · exact keeps_ft K ad c0 l (l ++ [rd_T29 l (n : Int)]) (rd_T29 l (n : Int)) n A1 c1 b w h0 h1 hs ht hB hm hsame (if_neg (fun q => hb2 q.2.2)) hn rfl hT (app_small hs h64 hys) hTm (app_take hTm) hone
      · have hT : twiceB l i = (l, false) := if_neg (fun q => hi q.1.2)
        by_cases hb2 : b.length ≤ 2000
        · have hP : pushB l b false = (l ++ [(⟨b, false⟩ : S29)], true) := if_pos ⟨hm, h64, hb2⟩
          have hPm := app_may (x := ⟨b, false⟩) hm h64 (by unfold longB; exact decide_eq_false (show ¬ 2000 < b.length by omega))
          exact keeps_tf K A0 c0 l (l ++ [(⟨b, false⟩ : S29)]) A1 c1 b i w h0 h1 hs ht hB hm hsame hbyte hP (app_small hs h64 (show b.length ≤ _ by omega)) hPm (app_take hPm) hT
        · exact keeps_ff K A0 c0 l A1 c1 b i w h0 h1 hs ht hB hm hsame (if_neg (fun q => hb2 q.2.2)) hT
    · exact keeps_ff K A0 c0 l A1 c1 b i w h0 h1 hs ht hB hm hsame (if_neg (fun q => h64 q.2.1)) (if_neg (fun q => h64 q.2))
end Go.Proofs.Ytnfgcjeenjomgaa.Pure
