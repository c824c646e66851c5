/- The walk of lane.of: packets of its own, each with bytes of its own, block by block. -/
import Derived.Test.YtnfgcjeenjomgaaGRaw
import Derived.Test.YtnfgcjeenjomgaaGClone
import Derived.WalkSpells
import Derived.LoopTactic
import Derived.Outline
namespace Go.Proofs.Ytnfgcjeenjomgaa.Given
open Go.RowKit Go.Proofs.YtnfgcjeenjomgaaW.PrintWords Go.Proofs.YtnfgcjeenjomgaaW.PrintLast Go.Proofs.YtnfgcjeenjomgaaW.PrintMore Go.Proofs.Ytnfgcjeenjomgaa.S
set_option linter.unusedVariables false
set_option linter.unusedSimpArgs false
/-- The packets as they lie: the bytes of the one in place j are block g + 1 + j. -/
def wayRows (g : Nat) (l : List S29) : List (Value × Bool) := l.mapIdx (fun j x => (.slice (some ⟨g + 1 + j, 0, none⟩) x.f0.length x.f0.length, x.f1))
theorem wayRows_length (g : Nat) (l : List S29) : (wayRows g l).length = l.length := by simp [wayRows]
theorem wayRows_get (g : Nat) (l : List S29) (j : Nat) (h1 : j < (wayRows g l).length) (h2 : j < l.length) : (wayRows g l)[j] = (.slice (some ⟨g + 1 + j, 0, none⟩) l[j].f0.length l[j].f0.length, l[j].f1) := by simp [wayRows]
def small (l : List S29) : Prop := l.length ≤ 1000 ∧ ∀ x ∈ l, x.f0.length ≤ 1000000
def byteCells (l : List Int) : List Value := l.map (Value.int .u8)
structure Way (w w' : World) (l : List S29) : Prop where
  size : w'.heap.size = w.heap.size + l.length + 2
  row : w'.heap[w.heap.size]? = some (.cells (flat (wayRows w.heap.size l)).toArray 29 (0, 0))
  bytes : ∀ j (h : j < l.length), w'.heap[w.heap.size + 1 + j]? = some (.cells (byteCells l[j].f0).toArray 5 (0, 0))
  way : w'.heap[w.heap.size + 1 + l.length]? = some (.cells #[.slice (some ⟨w.heap.size, 0, none⟩) l.length l.length] 48 (0, 0))
  below : Below w.heap.size w w'
theorem byteCells_one (l : List Int) : ∀ v ∈ byteCells l, v.oneCell' = true := by
  intro v hv
  obtain ⟨x, _, rfl⟩ := List.mem_map.1 hv
  rfl
theorem byte_src {w : World} {A : Option Addr} {f0 : List Int} (h : Kd.C (Kd.int .u8) w A f0.length f0) (hp : 0 < f0.length) : ∃ ad, A = some ad ∧ ∀ j v, (byteCells f0)[j]? = some v → w.cell? (ad.add j) = some v := by
  obtain ⟨ad, e, _⟩ := Kd.at_int h 0 (by omega) (by omega)
  refine ⟨ad, e, fun j v hv => ?_⟩
  unfold byteCells at hv
  rw [List.getElem?_map] at hv
  obtain ⟨y, hy, rfl⟩ := Option.map_eq_some_iff.1 hv
  obtain ⟨hj, hy2⟩ := List.getElem?_eq_some_iff.1 hy
  obtain ⟨ad', e', hc⟩ := Kd.at_int h (j : Int) (by omega) (by omega)
  rw [e] at e'
  obtain rfl := Option.some.inj e'
  rw [Int.toNat_natCast] at hc
  rw [hc]
  unfold rd
  simp [List.getD_eq_getElem?_getD, hj, hy2]
theorem block_cell {w : World} {g t j : Nat} {cur : Array Value} (h : w.heap[g]? = some (.cells cur t (0, 0))) (hj : j < cur.size) : w.cell? ⟨g, j, none⟩ = some cur[j] ∧ w.frozen? ⟨g, j, none⟩ = false := by
  constructor
  · simp [World.cell?, h, hj]
  · simp [World.frozen?, h]
/-- Behind k rounds. -/
structure Part (w wr : World) (l : List S29) (rows : List (Value × Bool)) (k : Nat) : Prop where
  size : wr.heap.size = w.heap.size + 1 + k
  row : wr.heap[w.heap.size]? = some (.cells (flat ((wayRows w.heap.size l).take k ++ rows.drop k)).toArray 29 (0, 0))
  bytes : ∀ j (h : j < l.length), j < k → wr.heap[w.heap.size + 1 + j]? = some (.cells (byteCells l[j].f0).toArray 5 (0, 0))
  below : Below w.heap.size w wr
theorem part_start {w w1 w2 : World} {l : List S29} {rows : List (Value × Bool)} (hs : w1.heap.size = w.heap.size + 1) (hb : Below w.heap.size w w1) (hbt : But w1 w2 w.heap.size) (hg : w2.heap[w.heap.size]? = some (.cells (flat rows).toArray 29 (0, 0))) : Part w w2 l rows 0 :=
  ⟨by rw [hbt.size, hs], by simpa using hg, fun j h hj => absurd hj (by omega), hb.trans (hbt.below (Nat.le_refl _))⟩
theorem part_cell {w wr : World} {l : List S29} {rows : List (Value × Bool)} {k : Nat} (h : Part w wr l rows k) (hk : k < l.length) (hl : rows.length = l.length) : (flat ((wayRows w.heap.size l).take k ++ rows.drop k)).length = l.length * 2 := by
  rw [flat_length, List.length_append, List.length_take, wayRows_length, List.length_drop]
  omega
theorem rows_step {g : Nat} {l : List S29} {rows : List (Value × Bool)} {k : Nat} (hk : k < l.length) (hl : rows.length = l.length) (hb : ∀ (h1 : k < rows.length), rows[k].2 = l[k].f1) :
    (flat ((wayRows g l).take k ++ rows.drop k)).set (k * 2) (.slice (some ⟨g + 1 + k, 0, none⟩) l[k].f0.length l[k].f0.length) = flat ((wayRows g l).take (k + 1) ++ rows.drop (k + 1)) := by
  have hw := wayRows_length g l
  have hlen : ((wayRows g l).take k ++ rows.drop k).length = l.length := by rw [List.length_append, List.length_take, hw, List.length_drop]; omega
  have h2 : ((wayRows g l).take k ++ rows.drop k)[k]'(by omega) = rows[k] := by
    rw [List.getElem_append_right (by rw [List.length_take]; omega)]
    simp only [List.length_take, hw, List.getElem_drop, Nat.min_eq_left (Nat.le_of_lt hk), Nat.sub_self, Nat.add_zero]
  rw [flat_set1 _ k _ (by omega), h2, hb]
  congr 1
  rw [List.set_append_right _ _ (by rw [List.length_take]; omega), List.length_take, hw, Nat.min_eq_left (Nat.le_of_lt hk), Nat.sub_self, List.drop_eq_getElem_cons (by omega), List.set_cons_zero, List.take_succ_eq_append_getElem (by omega), List.append_assoc, wayRows_get g l k (by omega) hk]
  rfl
theorem part_step {w wr w3 w4 : World} {l : List S29} {rows : List (Value × Bool)} {k : Nat} (hk : k < l.length) (hl : rows.length = l.length) (hb : ∀ (h1 : k < rows.length), rows[k].2 = l[k].f1) (h : Part w wr l rows k)
    (hs3 : w3.heap.size = wr.heap.size + 1) (hb3 : Below wr.heap.size wr w3) (hbt : But w3 w4 wr.heap.size) (hg4 : w4.heap[wr.heap.size]? = some (.cells (byteCells l[k].f0).toArray 5 (0, 0))) :
    Part w (w4.setCell ⟨w.heap.size, k * 2, none⟩ (.slice (some ⟨wr.heap.size, 0, none⟩) l[k].f0.length l[k].f0.length)) l rows (k + 1) := by
  have hsz := h.size
  have hb04 : Below wr.heap.size wr w4 := hb3.trans (hbt.below (Nat.le_refl _))
  have hrow := (hb04.block w.heap.size (by omega)).trans h.row
  have hlen := part_cell h hk hl
  have hset := set_block (j := k * 2) hrow (.slice (some ⟨wr.heap.size, 0, none⟩) l[k].f0.length l[k].f0.length) rfl (by simp; omega)
  have hbt2 := But.setCell w4 w.heap.size (k * 2) (.slice (some ⟨wr.heap.size, 0, none⟩) l[k].f0.length l[k].f0.length)
  refine ⟨?_, ?_, ?_, ?_⟩
  · rw [hbt2.size, hbt.size, hs3, hsz]
    omega
  · rw [hset]
    congr 2
    rw [List.setIfInBounds_toArray, hsz, rows_step hk hl hb]
  · intro j hj hjk
    rw [hbt2.block _ (by omega)]
    rcases Nat.lt_or_ge j k with h1 | h1
    · rw [hb04.block _ (by omega)]
      exact h.bytes j hj h1
    · obtain rfl : j = k := by omega
      rw [← hsz]
      exact hg4
  · exact (h.below.trans (hb04.mono (by omega))).trans (hbt2.below (Nat.le_refl _))
theorem part_store {w wr w3 w4 : World} {l : List S29} {rows : List (Value × Bool)} {k : Nat} (hk : k < l.length) (hl : rows.length = l.length) (h : Part w wr l rows k) (hb3 : Below wr.heap.size wr w3) (hbt : But w3 w4 wr.heap.size) :
    (∃ v, w4.cell? ⟨w.heap.size, k * 2, none⟩ = some v) ∧ w4.frozen? ⟨w.heap.size, k * 2, none⟩ = false := by
  have hsz := h.size
  have hb04 : Below wr.heap.size wr w4 := hb3.trans (hbt.below (Nat.le_refl _))
  have hrow := (hb04.block w.heap.size (by omega)).trans h.row
  have hlen := part_cell h hk hl
  obtain ⟨a, b⟩ := block_cell (j := k * 2) hrow (by simp; omega)
  exact ⟨⟨_, a⟩, b⟩
theorem way_end {w wr : World} {l : List S29} {rows : List (Value × Bool)} (hl : rows.length = l.length) (h : Part w wr l rows l.length) : Way w (wr.alloc (.cells #[.slice (some ⟨w.heap.size, 0, none⟩) l.length l.length] 48)) l := by
  have hsz := h.size
  refine ⟨?_, ?_, ?_, ?_, ?_⟩
  · show (wr.heap.push _).size = _
    rw [Array.size_push]
    omega
  · rw [Below.heap_alloc wr _ _ (by omega), h.row]
    rw [List.take_of_length_le (by rw [wayRows_length]; exact Nat.le_refl _), List.drop_of_length_le (by omega), List.append_nil]
  · intro j hj
    rw [Below.heap_alloc wr _ _ (by omega)]
    exact h.bytes j hj hj
  · rw [← hsz]
    show (wr.heap.push _)[wr.heap.size]? = _
    exact Array.getElem?_push_size
  · exact h.below.alloc (by omega) _
set_option maxHeartbeats 8000000 in
set_option maxRecDepth 100000 in
theorem of_calls (A : Option Addr) (c : Nat) (l : List S29) (w : World) (hr : Kd.C k29 w A l.length l) (hs : small l) :
    Calls Try.prog 28 #[.slice A l.length c] w fun e w' => e = .returned (.pointer (some ⟨w.heap.size + 1 + l.length, 0, none⟩)) ∧ Way w w' l := by
  obtain ⟨rows, hrl, hsrc, hel⟩ := src_rows hr
  obtain ⟨hlen, hbl⟩ := hs
  obtain ⟨i0, hi, hz0, hz1, hz2⟩ := info_parts info29
  obtain ⟨i1, hi1, hy0, hy1, hy2⟩ := info_parts info5
  have HR := Aside0.mk hr
  have HROW := Aside0.mk hrl
  have HSRC := Aside0.mk hsrc
  have HEL := Aside0.mk hel
  have HBL := Aside0.mk hbl
  have HI := Aside0.mk hi
  have HZ0 := Aside0.mk hz0
  have HZ1 := Aside0.mk hz1
  have HZ2 := Aside0.mk hz2
  have HI1 := Aside0.mk hi1
  have HY0 := Aside0.mk hy0
  have HY1 := Aside0.mk hy1
  have HY2 := Aside0.mk hy2
  clear hr hrl hsrc hel hbl hi hz0 hz1 hz2 hi1 hy0 hy1 hy2
  go_enter Try.func28, Try.ntmps28
  go_wp2_with (first | ((with_reducible refine gate_dst (N := 8) rfl ?_); refine wpList_make_raw _ rfl (.tmp 7) (.tmp 7) 22 rfl 29 i0 (.agg #[.slice none 0 0, .bool false]) 2 Try.underlying22 HI.out HZ0.out HZ1.out l.length rfl rfl ?b2 ?b3 ?_; (case b2 => rw [HZ2.out]; omega); (case b3 => unfold maxLen; omega); intro w1 hs1 hg1 hb1; have HS1 := Aside0.mk hs1; have HG1 := Aside0.mk hg1; have HB1 := Aside0.mk hb1; clear hs1 hg1 hb1) | ((with_reducible refine gate_dst (N := 11) rfl ?_); refine wpList_copy_raw _ rfl (.tmp 9) (.tmp 10) 22 22 29 2 rfl Try.underlying22 (by rw [HI.out]; exact congrArg some HZ1.out) w.heap.size l.length l.length c A rfl rfl _ 29 HG1.out (by rw [size_madeCells]) (flat rows) (by rw [flat_length, HROW.out]) (fun hp => ?src) (flat_one rows ?one) ?_; (case src => (obtain ⟨ad, e, hh⟩ := HSRC.out hp; exact ⟨ad, e, fun j v hv => (HB1.out.cell (World.block_lt_of_cell? w _ (hh j v hv))).trans (hh j v hv)⟩)); (case one => (intro p hp; obtain ⟨j, hj, rfl⟩ := List.getElem_of_mem hp; obtain ⟨Aj, cj, e, _⟩ := HEL.out j hj (by rw [← HROW.out]; exact hj); rw [e]; rfl)); intro w2 hbt2 hg2; have HBT2 := Aside0.mk hbt2; have HG2 := Aside0.mk hg2; clear hbt2 hg2))
  have hst := part_start (l := l) HS1.out HB1.out HBT2.out HG2.out
  have HST := Aside0.mk hst
  clear hst
  go_loopg [14] l.length (fun gg s14 wr => ∃ kk : Nat, kk ≤ l.length ∧ l.length - kk ≤ gg ∧ s14 = .int .i64 kk ∧ Aside0 (Part w wr l rows kk))
  case atStart => exact ⟨0, Nat.zero_le _, by omega, rfl, HST⟩
  case round =>
    obtain ⟨kk, hkk, hg, rfl, HP⟩ := hrel
    by_cases hlt : kk < l.length
    · have hltz : decide ((kk : Int) < (l.length : Int)) = true := decide_eq_true (by omega)
      obtain ⟨ad, A0, c0, rfl, hp0, hp1, hle, hC⟩ := at_T29 HR.out (kk : Int) (by omega) (by omega)
      rw [Int.toNat_natCast] at hp0
      have hrd : rd_T29 l (kk : Int) = l[kk] := by unfold rd_T29; simp [List.getD_eq_getElem?_getD, hlt]
      rw [hrd] at hp0 hle hC
      have hbnd := HBL.out l[kk] (List.getElem_mem _)
      have HBK : Aside0 (∀ (h1 : kk < rows.length), rows[kk].2 = l[kk].f1) := ⟨fun h1 => by obtain ⟨Aj, cj, e, _⟩ := HEL.out kk h1 hlt; rw [e]⟩
      have HW0 := Aside0.mk hp0
      replace hp0 := (HP.out.below.cell (World.block_lt_of_cell? w _ hp0)).trans hp0
      have HC := Aside0.mk hC
      clear hp1 hrd hle hC
      obtain ⟨x, hx⟩ : ∃ x, x = l[kk]'hlt := ⟨_, rfl⟩
      have HX := Aside0.mk hx
      rw [← hx] at hp0 hbnd
      clear hx
      have hq0 := hp0
      go_wp2_with (first | ((with_reducible refine gate_dst (N := 23) rfl ?_); refine wpList_make_raw _ rfl (.tmp 22) (.tmp 22) 23 rfl 5 i1 (.int .u8 0) 1 Try.underlying23 HI1.out HY0.out HY1.out x.f0.length rfl rfl ?b2 ?b3 ?_; (case b2 => rw [HY2.out]; omega); (case b3 => unfold maxLen; omega); intro w3 hs3 hg3 hb3; have hr3 := (hb3.cell (World.block_lt_of_cell? wr _ hq0)).trans hq0; have HS3 := Aside0.mk hs3; have HG3 := Aside0.mk hg3; have HB3 := Aside0.mk hb3; clear hs3 hg3 hb3) | ((with_reducible refine gate_dst (N := 30) rfl ?_); refine wpList_copy_raw _ rfl (.tmp 24) (.tmp 29) 23 23 5 1 rfl Try.underlying23 (by rw [HI1.out]; exact congrArg some HY1.out) wr.heap.size x.f0.length x.f0.length c0 A0 rfl rfl _ 5 HG3.out (by rw [size_madeCells]) (byteCells x.f0) (by simp [byteCells]) (fun hp => ?src2) (byteCells_one _) ?_; (case src2 => (rw [HX.out] at hp; obtain ⟨ad, e, hh⟩ := byte_src HC.out hp; refine ⟨ad, e, fun j v hv => ?_⟩; rw [HX.out] at hv; exact ((HP.out.below.trans (HB3.out.mono (by rw [HP.out.size]; omega))).cell (World.block_lt_of_cell? w _ (hh j v hv))).trans (hh j v hv))); intro w4 hbt4 hg4; obtain ⟨⟨v4, hv4⟩, hf4⟩ := part_store hlt HROW.out HP.out HB3.out hbt4; have HBT4 := Aside0.mk hbt4; have HG4 := Aside0.mk hg4; clear hbt4 hg4))
      go_roundg (l.length - (kk + 1))
      case measure => omega
      case rel =>
        have hg4 := HG4.out
        rw [HX.out] at hg4
        have := part_step hlt HROW.out HBK.out HP.out HS3.out HB3.out HBT4.out hg4
        rw [← HX.out] at this
        exact ⟨kk + 1, by omega, by omega, by go_num, ⟨this⟩⟩
    · have hltz : decide ((kk : Int) < (l.length : Int)) = false := decide_eq_false (by omega)
      obtain rfl : kk = l.length := by omega
      go_wp2
      go_ret
      refine ⟨?_, way_end HROW.out HP.out⟩
      rw [← HP.out.size]
      rfl
end Go.Proofs.Ytnfgcjeenjomgaa.Given
