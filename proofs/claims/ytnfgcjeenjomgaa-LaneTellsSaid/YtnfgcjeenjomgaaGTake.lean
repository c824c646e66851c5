/- The walks of slices.Delete at packets (one of them), and of lane.Take. -/
import Derived.Test.YtnfgcjeenjomgaaGSpoil
import Derived.Deep.RegionLaw
namespace Go.Proofs.Ytnfgcjeenjomgaa.Given
open Go.RowKit Go.Proofs.YtnfgcjeenjomgaaW.PrintWords Go.Proofs.YtnfgcjeenjomgaaW.PrintLast Go.Proofs.YtnfgcjeenjomgaaW.PrintMore Go.Proofs.Ytnfgcjeenjomgaa.S
set_option linter.unusedVariables false
set_option linter.unusedSimpArgs false
theorem But.trans {a b c : World} {g : Nat} (h : But a b g) (k : But b c g) : But a c g := ⟨k.os.trans h.os, k.tape.trans h.tape, k.output.trans h.output, k.size.trans h.size, fun q hq => (k.block q hq).trans (h.block q hq)⟩
theorem setCells_block {g t : Nat} : ∀ (vs : List Value) (o : Nat) (cur : Array Value) (w : World), w.heap[g]? = some (.cells cur t (0, 0)) → o + vs.length ≤ cur.size → (∀ v ∈ vs, v.oneCell' = true) →
    (w.setCells g o vs).heap[g]? = some (.cells (cur.toList.take o ++ vs ++ cur.toList.drop (o + vs.length)).toArray t (0, 0)) ∧ But w (w.setCells g o vs) g
  | [], o, cur, w, hg, _, _ => by
    refine ⟨?_, But.refl _ _⟩
    simpa [World.setCells] using hg
  | v :: rest, o, cur, w, hg, hl, h1 => by
    simp only [List.length_cons] at hl
    have hset := set_block (j := o) hg v (h1 v List.mem_cons_self) (by omega)
    obtain ⟨a, b⟩ := setCells_block rest (o + 1) (cur.setIfInBounds o v) (w.setCell ⟨g, o, none⟩ v) hset (by simp; omega) (fun x hx => h1 x (List.mem_cons_of_mem _ hx))
    refine ⟨?_, (But.setCell w g o v).trans b⟩
    show ((w.setCell ⟨g, o, none⟩ v).setCells g (o + 1) rest).heap[g]? = _
    rw [a]
    congr 3
    have e := list_seg_step cur.toList o v rest (by simp; omega)
    simpa [Array.toList_setIfInBounds, Nat.add_assoc] using e
theorem flat_drop (l : List (Value × Bool)) (n : Nat) : (flat l).drop (n * 2) = flat (l.drop n) := by
  induction l generalizing n with
  | nil => simp [flat]
  | cons p t ih =>
    cases n with
    | zero => rfl
    | succ n =>
      rw [show (n + 1) * 2 = n * 2 + 1 + 1 by omega]
      simp only [flat, List.drop_succ_cons]
      rw [ih n]
/-- The cells behind place k of a row. -/
theorem tail_cells {w : World} {g k : Nat} {rows : List (Value × Bool)} (h : w.heap[g]? = some (.cells (flat rows).toArray 29 (0, 0))) (j : Nat) (u : Value) (hu : (flat (rows.drop k))[j]? = some u) : w.cell? ((⟨g, k * 2, none⟩ : Addr).add j) = some u := by
  rw [← flat_drop, List.getElem?_drop] at hu
  obtain ⟨hj, hju⟩ := List.getElem?_eq_some_iff.1 hu
  have := (block_cell (j := k * 2 + j) h (by simpa using hj)).1
  have ha : (⟨g, k * 2, none⟩ : Addr).add j = ⟨g, k * 2 + j, none⟩ := by unfold Addr.add; split <;> simp_all
  rw [ha, this]
  simp [hju]
theorem room_cells {w : World} {g k n : Nat} {rows : List (Value × Bool)} (h : w.heap[g]? = some (.cells (flat rows).toArray 29 (0, 0))) (hl : rows.length = n) (i : Nat) (hi : i ≤ k) (j : Nat) (hj : j < (flat (rows.drop k)).length) : (w.cell? ⟨g, 0 + i * 2 + j, none⟩).isSome = true ∧ w.frozen? ⟨g, 0 + i * 2 + j, none⟩ = false := by
  rw [flat_length, List.length_drop] at hj
  obtain ⟨a, b⟩ := block_cell (j := 0 + i * 2 + j) h (by simp [flat_length]; omega)
  exact ⟨by rw [a]; rfl, b⟩
theorem run_clear_one (w : World) (ty g k c : Nat) (cur : Array Value) (hg : w.heap[g]? = some (.cells cur 29 (0, 0))) (hk : (k + 1) * 2 ≤ cur.size) :
    (Builtin.clear_ #[22] ty #[.slice (some ⟨g, k * 2, none⟩) 1 c]).run Try.prog w = .ok (.tuple #[]) (w.setRow g (cur.toList.take (k * 2) ++ [Value.slice none 0 0, Value.bool false] ++ cur.toList.drop (k * 2 + 2)).toArray) := by
  have hz : (zeroValue 29).run Try.prog w = .ok (.agg #[.slice none 0 0, .bool false]) w := by kernel_rfl
  have hst := run_storeCells_at Try.prog g (k * 2) 29 [.slice none 0 0, .bool false] 0 cur w hg (by simp; omega) (by intro v hv; simp at hv; rcases hv with rfl | rfl <;> rfl)
  have hc : (Builtin.zeroCells (Value.cells (.agg #[.slice none 0 0, .bool false])) 1).toList = [Value.slice none 0 0, Value.bool false] := by kernel_rfl
  simp only [Nat.add_zero] at hst
  simp [Builtin.clear_, run_underlying Try.underlying22, hz, hc, hst]
theorem clear_raw (w : World) (g k : Nat) (cs : List Value) (hg : w.heap[g]? = some (.cells cs.toArray 29 (0, 0))) (hk : cs.length = (k + 1) * 2) :
    ∃ w2, (∀ ty, (Builtin.clear_ #[22] ty #[.slice (some ⟨g, k * 2, none⟩) 1 1]).run Try.prog w = .ok (.tuple #[]) w2) ∧ But w w2 g ∧ ∃ cur : Array Value, w2.heap[g]? = some (.cells cur 29 (0, 0)) ∧ cur.size = (k + 1) * 2 ∧ cur.toList.take (k * 2) = cs.take (k * 2) := by
  refine ⟨_, fun ty => run_clear_one w ty g k 1 cs.toArray hg (by rw [List.size_toArray]; omega), But.setRow _ _ _, _, setRow_heap w g _ _ 29 _ hg, ?_, ?_⟩
  · rw [List.size_toArray, List.length_append, List.length_append, List.length_take, List.length_drop]
    simp only [List.toList_toArray, List.length_cons, List.length_nil]
    omega
  · simp only [List.toList_toArray]
    rw [List.append_assoc, List.take_append_of_le_length (by rw [List.length_take]; omega), List.take_take, Nat.min_self]
/-- What the row holds behind the append. -/
theorem del_row {cur0 : List (Value × Bool)} {k i : Nat} (hl : cur0.length = k + 1) (hi : i ≤ k) : ((flat cur0).take (0 + i * 2) ++ flat (cur0.drop (i + 1)) ++ (flat cur0).drop (0 + i * 2 + (flat (cur0.drop (i + 1))).length)).take (k * 2) = flat (cur0.eraseIdx i) ∧ ((flat cur0).take (0 + i * 2) ++ flat (cur0.drop (i + 1)) ++ (flat cur0).drop (0 + i * 2 + (flat (cur0.drop (i + 1))).length)).length = (k + 1) * 2 := by
  have h1 : ((flat cur0).take (0 + i * 2) ++ flat (cur0.drop (i + 1))) = flat (cur0.eraseIdx i) := by
    rw [Nat.zero_add, flat_take, ← flat_append, List.eraseIdx_eq_take_drop_succ]
  have h2 : (flat (cur0.eraseIdx i)).length = k * 2 := by rw [flat_length, List.length_eraseIdx_of_lt (by omega)]; omega
  rw [h1]
  constructor
  · rw [List.take_append_of_le_length (by omega), List.take_of_length_le (by omega)]
  · rw [List.length_append, h2, List.length_drop, flat_length, flat_length, List.length_drop]
    omega
set_option maxHeartbeats 4000000 in
set_option maxRecDepth 100000 in
theorem del_calls (g k i : Nat) (rows : List (Value × Bool)) (w : World) (hrow : w.heap[g]? = some (.cells (flat rows).toArray 29 (0, 0))) (hl : rows.length = k + 1) (hi : i ≤ k) (hn : k ≤ 64) (h1 : ∀ p ∈ rows, p.1.oneCell' = true) :
    Calls Try.prog 30 #[.slice (some ⟨g, 0, none⟩) (k + 1) (k + 1), .int .i64 (i : Int), .int .i64 ((i : Int) + 1)] w fun e w' => e = .returned (.slice (some ⟨g, 0, none⟩) k (k + 1)) ∧ But w w' g ∧
      ∃ cur : Array Value, w'.heap[g]? = some (.cells cur 29 (0, 0)) ∧ cur.size = (k + 1) * 2 ∧ cur.toList.take (k * 2) = flat (rows.eraseIdx i) := by
  have b1 : (0 : Int) ≤ (i : Int) := by omega
  have b2 : (i : Int) + 1 ≤ (k : Int) + 1 := by omega
  have b3 : ((i : Int) == (i : Int) + 1) = false := by rw [beq_eq_false_iff_ne]; omega
  have b4 : (i : Int) ≤ (k : Int) + 1 := by omega
  have b5 : (0 : Int) ≤ (i : Int) + 1 := by omega
  have HROW := Aside0.mk hrow
  have HL := Aside0.mk hl
  have HI0 := Aside0.mk hi
  obtain ⟨hd1, hd2⟩ := del_row hl hi
  have HD1 := Aside0.mk hd1
  have HD2 := Aside0.mk hd2
  clear hrow hl hd1 hd2
  go_enter Try.func30, Try.ntmps30
  go_wp2
  obtain ⟨i0, hi0, hz0, hz1, hz2⟩ := info_parts info29
  have HI := Aside0.mk hi0
  have HZ1 := Aside0.mk hz1
  clear hi0 hz0 hz1 hz2
  by_cases hlast : i < k
  · have hnl : (k = i) = False := eq_false (by omega)
    go_region_law (refine step_append_room rfl (.tmp 22) (.tmp 25) 22 rfl 29 i0 2 Try.underlying22 HI.out HZ1.out g 0 i (k + 1) (by simp [Act.eval, Act.put]) ⟨g, (i + 1) * 2, none⟩ (k - i) (k - i) (flat (rows.drop (i + 1))) (by simp [Act.eval, Act.put]) (by rw [flat_length, List.length_drop, HL.out]; omega) (fun j u hu => tail_cells HROW.out j u hu) (flat_one _ (fun p hp => h1 p (List.mem_of_mem_drop hp))) (by omega) (fun j hj => room_cells HROW.out HL.out i (by omega) j hj) ?_; rw [show i + (k - i) = k by omega]; obtain ⟨hwb, hwt⟩ := setCells_block (flat (rows.drop (i + 1))) (0 + i * 2) _ w.drew HROW.out (by rw [flat_length, List.length_drop, List.size_toArray, flat_length, HL.out]; omega) (flat_one _ (fun p hp => h1 p (List.mem_of_mem_drop hp))); have HWB := Aside0.mk hwb; have HWT := Aside0.mk hwt; clear hwb hwt; generalize World.setCells _ _ _ _ = W1 at *)
    all_goals
      obtain ⟨W2, hcl, hbt2, cur, hcg, hcs, hct⟩ := clear_raw W1 g k _ HWB.out HD2.out
      have HBT2 := Aside0.mk hbt2
      have HCG := Aside0.mk hcg
      have HCS := Aside0.mk hcs
      have HCT := Aside0.mk hct
      clear hbt2 hcg hcs hct
      go_wp2
      go_ret
      have hB : But w W2 g := (⟨rfl, rfl, rfl, rfl, fun _ _ => rfl⟩ : But w w.drew g).trans (HWT.out.trans HBT2.out)
      exact ⟨rfl, ⟨hB.os, hB.tape, hB.output, hB.size, hB.block⟩, cur, HCG.out, HCS.out, HCT.out.trans HD1.out⟩
  · obtain rfl : i = k := by omega
    go_region_law (refine step_append_room rfl (.tmp 22) (.tmp 25) 22 rfl 29 i0 2 Try.underlying22 HI.out HZ1.out g 0 i (i + 1) (by simp [Act.eval, Act.put]) ⟨g, 0, none⟩ 0 0 (flat (rows.drop (i + 1))) (by simp [Act.eval, Act.put]) (by rw [flat_length, List.length_drop, HL.out]; omega) (fun j u hu => by have h9 := (List.getElem?_eq_some_iff.1 hu).1; rw [flat_length, List.length_drop, HL.out] at h9; omega) (flat_one _ (fun p hp => h1 p (List.mem_of_mem_drop hp))) (by omega) (fun j hj => room_cells HROW.out HL.out i (by omega) j hj) ?_; obtain ⟨hwb, hwt⟩ := setCells_block (flat (rows.drop (i + 1))) (0 + i * 2) _ w.drew HROW.out (by rw [flat_length, List.length_drop, List.size_toArray, flat_length, HL.out]; omega) (flat_one _ (fun p hp => h1 p (List.mem_of_mem_drop hp))); have HWB := Aside0.mk hwb; have HWT := Aside0.mk hwt; clear hwb hwt; generalize World.setCells _ _ _ _ = W1 at *)
    all_goals
      obtain ⟨W2, hcl, hbt2, cur, hcg, hcs, hct⟩ := clear_raw W1 g i _ HWB.out HD2.out
      have HBT2 := Aside0.mk hbt2
      have HCG := Aside0.mk hcg
      have HCS := Aside0.mk hcs
      have HCT := Aside0.mk hct
      clear hbt2 hcg hcs hct
      go_wp2
      go_ret
      have hB : But w W2 g := (⟨rfl, rfl, rfl, rfl, fun _ _ => rfl⟩ : But w w.drew g).trans (HWT.out.trans HBT2.out)
      exact ⟨rfl, ⟨hB.os, hB.tape, hB.output, hB.size, hB.block⟩, cur, HCG.out, HCS.out, HCT.out.trans HD1.out⟩
end Go.Proofs.Ytnfgcjeenjomgaa.Given
