/- least.Met's contract, of its walks; and those of least.Of and counting (imported). -/
import Derived.Test.YtenpchgnjhmaaaaGMetC00
import Derived.Test.YtenpchgnjhmaaaaGMetC10
import Derived.Test.YtenpchgnjhmaaaaGMetC11
import Derived.Test.YtenpchgnjhmaaaaGMetC12
namespace Go.Proofs.Ytenpchgnjhmaaaa.Given
open Go.RowKit Go.Shelf Go.Proofs.YtenpchgnjhmaaaaW.PrintWords Go.Proofs.YtenpchgnjhmaaaaW.PrintLast Go.Proofs.YtenpchgnjhmaaaaW.PrintMore Go.Proofs.Ytenpchgnjhmaaaa.S
set_option linter.unusedVariables false
theorem least_Met.calls (a0_0 : Int) (A0_1 : Option Addr) (c0_1 : Nat) (l0_1 : List S38) (a0_2 : Int) (a1 : Int) (a2 : Int) (r1 : Int) (r2 : List S38) (r3 : Int) (r4 : Bool) (r5 : Int) (w : World) (hr0_1 : Kd.C k38 w A0_1 l0_1.length l0_1) (hc0_1 : l0_1.length ≤ c0_1) (h : least_Met.f a0_0 l0_1 a0_2 a1 a2 = some (r1, r2, r3, r4, r5)) :
    Calls Try.prog 10 #[.agg #[.int .i64 a0_0, .slice A0_1 l0_1.length c0_1, .int .i64 a0_2], .int .i64 a1, .int .i64 a2] w fun e w' => ∃ v1_ : Value, e = .returned (.tuple #[.agg #[.int .i64 r1, v1_, .int .i64 r3], .bool r4, .int .i64 r5]) ∧ Kd.R k38 38 w' w.heap.size (fun _ => True) v1_ r2 ∧ Below w.heap.size w w' := by
  unfold least_Met.f at h
  obtain ⟨m, hm, h⟩ := Option.bind_eq_some_iff.mp h
  by_cases hok : metOK m l0_1 a1 a2 = true
  · rw [if_pos hok] at h
    have hmt : m = true := by
      unfold metOK at hok
      simp only [Bool.and_eq_true] at hok
      exact hok.1.1.1
    subst hmt
    by_cases hl : l0_1.length ≤ 100
    · rw [if_pos hl] at h
      by_cases h8 : highM a0_0 a1 a2 a0_2 l0_1 = 8
      · rw [if_pos h8] at h
        simp only [Option.some.injEq, Prod.mk.injEq] at h
        obtain ⟨rfl, rfl, rfl, rfl, rfl⟩ := h
        exact met_turn a0_0 A0_1 c0_1 l0_1 a0_2 a1 a2 w hr0_1 hc0_1 hm hok h8
      · rw [if_neg h8] at h
        simp only [Option.some.injEq, Prod.mk.injEq] at h
        obtain ⟨rfl, rfl, rfl, rfl, rfl⟩ := h
        unfold highM farB at h8 ⊢
        obtain ⟨p, is, hof⟩ : ∃ p is, ofL a0_0 a1 l0_1 = (p, is) := ⟨_, _, rfl⟩
        rw [hof] at h8 ⊢
        simp only [Bool.and_eq_true, decide_eq_true_eq] at h8 ⊢
        rcases Nat.eq_zero_or_pos l0_1.length with hz | hp
        · have he : is = false := by
            rw [List.length_eq_zero_iff.mp hz] at hof
            exact (Prod.mk.inj hof).2.symm
          subst he
          rw [if_neg (by simp)]
          exact met_more00 a0_0 A0_1 c0_1 l0_1 a0_2 a1 a2 w hr0_1 hc0_1 hm hok hl p hz hof
        · cases is with
          | false =>
            rw [if_neg (by simp)]
            exact met_more10 a0_0 A0_1 c0_1 l0_1 a0_2 a1 a2 w hr0_1 hc0_1 hm hok hl p hp hof
          | true =>
            by_cases hf : wrap64 (2 * p) < a2
            · rw [if_pos ⟨rfl, hf⟩] at h8 ⊢
              exact met_more12 a0_0 A0_1 c0_1 l0_1 a0_2 a1 a2 w hr0_1 hc0_1 hm hok hl p hp hof hf h8
            · rw [if_neg (by simp [hf])]
              exact met_more11 a0_0 A0_1 c0_1 l0_1 a0_2 a1 a2 w hr0_1 hc0_1 hm hok hl p hp hof hf
    · rw [if_neg hl] at h
      cases h
  · rw [if_neg hok] at h
    simp only [Option.some.injEq, Prod.mk.injEq] at h
    obtain ⟨rfl, rfl, rfl, rfl, rfl⟩ := h
    exact met_wrong a0_0 A0_1 c0_1 l0_1 a0_2 a1 a2 m w hr0_1 hc0_1 hm (by simpa using hok)
end Go.Proofs.Ytenpchgnjhmaaaa.Given
