/- A way that may not be is not turned, and so on: the plain law. -/
import Derived.Test.YtnfgcjeenjomgaaPlainA
import Derived.Test.YtnfgcjeenjomgaaSx13
namespace Go.Proofs.Ytnfgcjeenjomgaa.Pure
open Go.RowKit Go.Proofs.Ytnfgcjeenjomgaa.S Go.Proofs.Ytnfgcjeenjomgaa.Given Go.Proofs.YtnfgcjeenjomgaaW.PrintWords
set_option linter.unusedVariables false
theorem LaneWrong (l : List S29) (b : List Int) (i : Int) (hw : okW l) : fourinhandlaw22_LaneWrong.f (l.length + 30000) l b i = some true := by
  obtain ⟨t, ht, hs⟩ := few_eq l hw (l.length + 30000) (by omega)
  unfold fourinhandlaw22_LaneWrong.f
  rw [awake_of, Option.bind_some, ht, Option.bind_some, if_pos rfl]
  obtain ⟨k, hk⟩ : ∃ j, l.length + 30000 = j + 1 := ⟨l.length + 29999, by omega⟩
  rw [hk]
  cases t with
  | false => rw [if_neg (by simp), fourinhandlaw22_LaneWrong.j0, if_pos rfl]
  | true =>
    have hf := hs rfl
    have hsm := few_small hf
    have hl := hf.1
    rw [if_pos rfl, fourinhandlaw22_LaneWrong.j0]
    by_cases hb : (b.length : Int) > 2100
    · rw [decide_eq_true hb, if_pos rfl]
    · rw [decide_eq_false hb, if_neg (by simp), push_of hsm, Option.bind_some, take_of hsm, Option.bind_some, twice_of hsm, Option.bind_some, mark_of hsm, Option.bind_some, spoil_of hsm, Option.bind_some, may_of, Option.bind_some]
      have hsame := same_few hf k (by omega)
      have hm : (markB l i).2 = (takeB l i).2.2.2 := by unfold markB takeB; split <;> rfl
      rw [hm]
      by_cases h1 : mayB l = true
      · have hsp : (spoilB l i 0 1).2 = true → (takeB l i).2.2.2 = true := by
          unfold spoilB takeB
          intro h
          by_cases c : mayB l = true ∧ 0 ≤ i ∧ i < (l.length : Int)
          · rw [if_pos c]
          · rw [if_neg (fun q => c q.1)] at h
            cases h
        have hend : (if (spoilB l i 0 1).2 = true then some (takeB l i).2.2.2 else some true) = some true := by
          split
          · rename_i h; rw [hsp h]
          · rfl
        rw [if_pos h1]
        by_cases h2 : (l.length : Int) < 64
        · rw [if_pos h2]
          have hp2 : (pushB l b false).2 = decide ((b.length : Int) ≤ 2000) := by
            unfold pushB
            by_cases c : (b.length : Int) ≤ 2000
            · rw [if_pos ⟨h1, by omega, by omega⟩, decide_eq_true c]
            · rw [if_neg (fun q => c (by omega)), decide_eq_false c]
          rw [hp2, if_pos (by simp)]
          by_cases c : (b.length : Int) ≤ 2000
          · rw [decide_eq_true c, if_pos rfl, if_pos (by simp), hend]
            split <;> rfl
          · have hp1 : (pushB l b false).1 = l := by unfold pushB; rw [if_neg (fun q => c (by omega))]
            rw [decide_eq_false c, if_neg (by simp), hp1, hsame, Option.bind_some, if_pos rfl, if_pos (by simp), hend]
            split <;> rfl
        · rw [if_neg h2]
          have hpf : pushB l b false = (l, false) := by unfold pushB; rw [if_neg (fun q => h2 (by omega))]
          have htw : (twiceB l i).2 = false := by unfold twiceB; rw [if_neg (fun q => h2 (by omega))]
          rw [hpf, htw, if_pos (by simp), if_neg (by simp), hsame, Option.bind_some, if_pos rfl, if_pos (by simp), if_neg (by simp), hend]
      · rw [if_neg h1]
        have hpf : pushB l b false = (l, false) := by unfold pushB; rw [if_neg (fun q => h1 q.1)]
        have htw : (twiceB l i).2 = false := by unfold twiceB; rw [if_neg (fun q => h1 q.1.1)]
        have htk : (takeB l i).2.2.2 = false := by unfold takeB; rw [if_neg (fun q => h1 q.1)]
        have hsp : (spoilB l i 0 1).2 = false := by unfold spoilB; rw [if_neg (fun q => h1 q.1.1)]
        rw [hpf, htw, htk, hsp, if_neg (by simp), if_neg (by simp), if_neg (by simp), if_neg (by simp), if_neg (by simp), hsame, Option.bind_some]
end Go.Proofs.Ytnfgcjeenjomgaa.Pure
