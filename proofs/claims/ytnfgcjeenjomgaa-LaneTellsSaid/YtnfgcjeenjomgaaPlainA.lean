/- Plain laws of chapter 22: what is the same as itself, what is few, what is one's own. -/
import Derived.Test.YtnfgcjeenjomgaaSx6
import Derived.Test.YtnfgcjeenjomgaaGMay
import Derived.Test.YtnfgcjeenjomgaaGPush
import Derived.Test.YtnfgcjeenjomgaaGTakeB
import Derived.Test.YtnfgcjeenjomgaaGTwice
import Derived.Test.YtnfgcjeenjomgaaGMark
import Derived.Test.YtnfgcjeenjomgaaGSpoil
import Derived.Test.YtnfgcjeenjomgaaGAwake
namespace Go.Proofs.Ytnfgcjeenjomgaa.Pure
open Go.RowKit Go.Proofs.Ytnfgcjeenjomgaa.S Go.Proofs.Ytnfgcjeenjomgaa.Given Go.Proofs.YtnfgcjeenjomgaaW.PrintWords Go.Proofs.YtnfgcjeenjomgaaW.PrintLast
set_option linter.unusedVariables false
theorem w64 (x : Int) (h1 : -9223372036854775808 ≤ x) (h2 : x ≤ 9223372036854775807) : wrap64 x = x := by
  unfold wrap64
  omega
/-- What the reading of a packet's list tells. -/
def okW (l : List S29) : Prop := l.length * Try.prog.bytesOf 29 ≤ reachBytes ∧ ∀ x ∈ l, (x.f0.length * Try.prog.bytesOf 5 ≤ reachBytes ∧ ∀ b ∈ x.f0, (Lit.int .u8 b).wf = true) ∧ True
theorem ok_len {l : List S29} (h : okW l) : l.length ≤ 4398046511000 := by
  have h1 := h.1
  rw [show Try.prog.bytesOf 29 = 32 by kernel_rfl] at h1
  unfold reachBytes at h1
  omega
theorem ok_row {l : List S29} (h : okW l) {x : S29} (hx : x ∈ l) : x.f0.length ≤ 140737488351232 := by
  have h1 := (h.2 x hx).1.1
  rw [show Try.prog.bytesOf 5 = 1 by kernel_rfl] at h1
  unfold reachBytes at h1
  omega
theorem same03_loop (a : List Int) (ha : a.length ≤ 4611686018427387904) : ∀ (m i k : Nat), a.length - i = m → i ≤ a.length → m < k → fourinhandref03_Same.l0 k a a i = some true := by
  intro m
  induction m with
  | zero =>
    intro i k h1 h2 hk
    obtain ⟨k, rfl⟩ : ∃ j, k = j + 1 := ⟨k - 1, by omega⟩
    rw [fourinhandref03_Same.l0, if_neg (by omega)]
  | succ m ih =>
    intro i k h1 h2 hk
    obtain ⟨k, rfl⟩ : ∃ j, k = j + 1 := ⟨k - 1, by omega⟩
    rw [fourinhandref03_Same.l0, if_pos (by omega), if_pos (by omega), if_pos (by omega), if_pos rfl, w64 _ (by omega) (by omega)]
    exact ih (i + 1) k (by omega) (by omega) (by omega)
theorem same03 (a : List Int) (ha : a.length ≤ 4611686018427387904) (k : Nat) (hk : a.length < k) : fourinhandref03_Same.f k a a = some true := by
  unfold fourinhandref03_Same.f
  rw [if_pos rfl]
  exact same03_loop a ha a.length 0 k (by omega) (by omega) hk
theorem rdf (l : List S29) (i : Nat) (h : i < l.length) : (rd_T29 l (i : Int)) ∈ l := by rw [rdT l i h]; exact List.getElem_mem h
theorem same22_loop (l : List S29) (hl : l.length ≤ 4611686018427387904) (B : Nat) (hB : B ≤ 4611686018427387904) (hb : ∀ x ∈ l, x.f0.length ≤ B) : ∀ (m i k : Nat), l.length - i = m → i ≤ l.length → m + B + 1 < k → fourinhandref22_Same.l0 k l l i = some true := by
  intro m
  induction m with
  | zero =>
    intro i k h1 h2 hk
    obtain ⟨k, rfl⟩ : ∃ j, k = j + 1 := ⟨k - 1, by omega⟩
    rw [fourinhandref22_Same.l0, if_neg (by omega)]
  | succ m ih =>
    intro i k h1 h2 hk
    obtain ⟨k, rfl⟩ : ∃ j, k = j + 1 := ⟨k - 1, by omega⟩
    have hr := hb _ (rdf l i (by omega))
    rw [fourinhandref22_Same.l0, if_pos (by omega), if_pos (by omega), if_pos (by omega), same03 _ (by omega) k (by omega), Option.bind_some, if_pos rfl, if_neg (by simp), w64 _ (by omega) (by omega)]
    exact ih (i + 1) k (by omega) (by omega) (by omega)
theorem same22 (l : List S29) (B : Nat) (hl : l.length ≤ 4611686018427387904) (hB : B ≤ 4611686018427387904) (hb : ∀ x ∈ l, x.f0.length ≤ B) (k : Nat) (hk : l.length + B + 1 < k) : fourinhandref22_Same.f k l l = some true := by
  unfold fourinhandref22_Same.f
  rw [if_pos rfl]
  exact same22_loop l hl B hB hb l.length 0 k (by omega) (by omega) hk
theorem own_loop (l : List S29) (hl : l.length ≤ 4398046511000) (hb : ∀ x ∈ l, x.f0.length ≤ 140737488351232) : ∀ (m i k : Nat), l.length - i = m → i ≤ l.length → m < k → fourinhandref22_Own.l0 k l (l.take i) i = some l := by
  intro m
  induction m with
  | zero =>
    intro i k h1 h2 hk
    obtain ⟨k, rfl⟩ : ∃ j, k = j + 1 := ⟨k - 1, by omega⟩
    rw [fourinhandref22_Own.l0, if_neg (by omega), List.take_of_length_le (by omega)]
  | succ m ih =>
    intro i k h1 h2 hk
    obtain ⟨k, rfl⟩ : ∃ j, k = j + 1 := ⟨k - 1, by omega⟩
    have hr := hb _ (rdf l i (by omega))
    have hi : i < l.length := by omega
    rw [fourinhandref22_Own.l0, if_pos (by omega), if_pos (by omega), if_pos (by rw [List.length_nil]; omega), if_pos (by rw [List.length_take]; omega), w64 _ (by omega) (by omega), List.nil_append, rdT l i hi]
    have := ih (i + 1) k (by omega) (by omega) (by omega)
    rw [List.take_succ_eq_append_getElem hi] at this
    exact this
theorem own22 (l : List S29) (hl : l.length ≤ 4398046511000) (hb : ∀ x ∈ l, x.f0.length ≤ 140737488351232) (k : Nat) (hk : l.length < k) : fourinhandref22_Own.f k l = some l := own_loop l hl hb l.length 0 k (by omega) (by omega) hk
theorem few_many (l : List S29) (hl : l.length ≤ 4398046511000) (h80 : 80 < l.length) : ∀ (m i k : Nat) (s : Int), l.length - i = m → i ≤ l.length → m < k → fourinhandlaw22_few.l0 k l s i = some false := by
  intro m
  induction m with
  | zero =>
    intro i k s h1 h2 hk
    obtain ⟨k, rfl⟩ : ∃ j, k = j + 1 := ⟨k - 1, by omega⟩
    rw [fourinhandlaw22_few.l0, if_neg (by omega), if_neg (by omega)]
  | succ m ih =>
    intro i k s h1 h2 hk
    obtain ⟨k, rfl⟩ : ∃ j, k = j + 1 := ⟨k - 1, by omega⟩
    rw [fourinhandlaw22_few.l0, if_pos (by omega), if_pos (by omega), w64 (i + 1) (by omega) (by omega)]
    exact ih (i + 1) k _ (by omega) (by omega) (by omega)
theorem few_few (l : List S29) (h80 : l.length ≤ 80) (hb : ∀ x ∈ l, x.f0.length ≤ 140737488351232) : ∀ (m i k : Nat) (s : Int), l.length - i = m → i ≤ l.length → m < k → 0 ≤ s → s ≤ i * 140737488351232 →
    ∃ b, fourinhandlaw22_few.l0 k l s i = some b ∧ (b = true → s ≤ 20000 ∧ ∀ x ∈ l.drop i, x.f0.length ≤ 20000) := by
  intro m
  induction m with
  | zero =>
    intro i k s h1 h2 hk h3 h4
    obtain ⟨k, rfl⟩ : ∃ j, k = j + 1 := ⟨k - 1, by omega⟩
    rw [fourinhandlaw22_few.l0, if_neg (by omega), if_pos (by omega)]
    refine ⟨_, rfl, fun h => ⟨of_decide_eq_true h, fun x hx => ?_⟩⟩
    rw [List.drop_of_length_le (by omega)] at hx
    cases hx
  | succ m ih =>
    intro i k s h1 h2 hk h3 h4
    obtain ⟨k, rfl⟩ : ∃ j, k = j + 1 := ⟨k - 1, by omega⟩
    have hi : i < l.length := by omega
    have hr := hb _ (rdf l i hi)
    rw [fourinhandlaw22_few.l0, if_pos (by omega), if_pos (by omega), w64 (i + 1) (by omega) (by omega), w64 (s + _) (by omega) (by omega)]
    obtain ⟨b, e, h⟩ := ih (i + 1) k (s + (rd_T29 l (i : Int)).f0.length) (by omega) (by omega) (by omega) (by omega) (by omega)
    refine ⟨b, e, fun hb' => ?_⟩
    obtain ⟨q1, q2⟩ := h hb'
    refine ⟨by omega, fun x hx => ?_⟩
    rw [List.drop_eq_getElem_cons hi] at hx
    rcases List.mem_cons.1 hx with rfl | hx
    · rw [← rdT l i hi]
      omega
    · exact q2 x hx
theorem few_eq (l : List S29) (h : okW l) (k : Nat) (hk : l.length < k) : ∃ b, fourinhandlaw22_few.f k l = some b ∧ (b = true → l.length ≤ 80 ∧ ∀ x ∈ l, x.f0.length ≤ 20000) := by
  unfold fourinhandlaw22_few.f
  by_cases h80 : l.length ≤ 80
  · obtain ⟨b, e, q⟩ := few_few l h80 (fun x hx => ok_row h hx) l.length 0 k 0 (by omega) (by omega) hk (by omega) (by omega)
    exact ⟨b, e, fun hb => ⟨h80, fun x hx => (q hb).2 x hx⟩⟩
  · exact ⟨false, few_many l (ok_len h) (by omega) l.length 0 k 0 (by omega) (by omega) hk, fun hb => by cases hb⟩
theorem few_small {l : List S29} (h : l.length ≤ 80 ∧ ∀ x ∈ l, x.f0.length ≤ 20000) : small l := ⟨by omega, fun x hx => by have := h.2 x hx; omega⟩
theorem same_few {l : List S29} (h : l.length ≤ 80 ∧ ∀ x ∈ l, x.f0.length ≤ 20000) (k : Nat) (hk : 20100 < k) : fourinhandref22_Same.f k l l = some true := same22 l 20000 (by omega) (by omega) h.2 k (by omega)
theorem push_of {l : List S29} (h : small l) (b : List Int) : lane_Push.f l b = some (pushB l b false) := if_pos h
theorem take_of {l : List S29} (h : small l) (i : Int) : lane_Take.f l i = some (takeB l i) := if_pos h
theorem twice_of {l : List S29} (h : small l) (i : Int) : lane_Twice.f l i = some (twiceB l i) := if_pos h
theorem mark_of {l : List S29} (h : small l) (i : Int) : lane_Mark.f l i = some (markB l i) := if_pos h
theorem spoil_of {l : List S29} (h : small l) (i a y : Int) : lane_Spoil.f l i a y = some (spoilB l i a y) := if_pos h
theorem may_of (l : List S29) : lane_May.f l = some (mayB l) := rfl
theorem awake_of : fourinhandlaw22_awake.f = some true := rfl
end Go.Proofs.Ytnfgcjeenjomgaa.Pure
