/- The walk of lane.Take. -/
import Derived.Test.YtnfgcjeenjomgaaGTake
import Derived.Test.YtnfgcjeenjomgaaGTwice
import Derived.Deep.RegionWith
namespace Go.Proofs.Ytnfgcjeenjomgaa.Given
open Go.RowKit Go.Proofs.YtnfgcjeenjomgaaW.PrintWords Go.Proofs.YtnfgcjeenjomgaaW.PrintLast Go.Proofs.YtnfgcjeenjomgaaW.PrintMore Go.Proofs.Ytnfgcjeenjomgaa.S
set_option linter.unusedVariables false
set_option linter.unusedSimpArgs false
def takeB (l : List S29) (i : Int) : List S29 × List Int × Bool × Bool := if mayB l = true ∧ 0 ≤ i ∧ i < (l.length : Int) then (l.eraseIdx i.toNat, (rd_T29 l i).f0, (rd_T29 l i).f1, true) else (l, [], false, false)
def lane_Take.f (l0 : List S29) (a1 : Int) : Option (List S29 × List Int × Bool × Bool) := if small l0 then some (takeB l0 a1) else none
/-- The block of the result, laid ahead. -/
theorem res_block {w W : World} (hb : Below (w.heap.size + 1) (w.alloc (.cells #[.slice none 0 0, .bool false] 29)) W) : W.heap[w.heap.size]? = some (.cells #[.slice none 0 0, .bool false] 29 (0, 0)) := push_box hb
theorem take_end {w wz w1 w2 W : World} {l : List S29} {g : Nat} (hW : Way wz w1 l) (hs : small l) (hg : g = wz.heap.size) (hz : wz.heap.size = w.heap.size + 1) (hb : Below w1.heap.size w1 w2) (hbt : But w2 W w.heap.size) : Kd.S k29 29 W w.heap.size (fun k_ => some k_ ≠ (Value.slice none 0 0).ownBlock) (.slice (some ⟨g, 0, none⟩) l.length l.length) l := by
  have hz1 := hW.size
  subst hg
  refine way_S ?_ (fun j hj => ?_) (by omega) (fun _ _ _ => by simp [Value.ownBlock]) hs
  · rw [hbt.block _ (by omega), hb.block _ (by omega)]
    exact hW.row
  · rw [hbt.block _ (by omega), hb.block _ (by omega)]
    exact hW.bytes j hj
theorem take_below {w w1 w2 W : World} {l : List S29} {o : Obj} (hW : Way (w.alloc o) w1 l) (hz : (w.alloc o).heap.size = w.heap.size + 1) (hb : Below w1.heap.size w1 w2) (hbt : But w2 W w.heap.size) : Below w.heap.size w W :=
  (((below_alloc (Below.refl _ _) o).trans (hW.below.mono (by omega))).trans (hb.mono (by have := hW.size; omega))).trans (hbt.below (Nat.le_refl _))
set_option maxHeartbeats 4000000 in
set_option maxRecDepth 100000 in
theorem take_no (A0 : Option Addr) (c0 : Nat) (l0 : List S29) (a1 : Int) (w : World) (hr0 : Kd.C k29 w A0 l0.length l0) (hc0 : l0.length ≤ c0) (hs : small l0) (hno : ¬ (mayB l0 = true ∧ 0 ≤ a1 ∧ a1 < (l0.length : Int))) :
    Calls Try.prog 13 #[.slice A0 l0.length c0, .int .i64 a1] w fun e w' => ∃ v0_ v1_ : Value, e = .returned (.tuple #[v0_, .agg #[v1_, .bool false], .bool false]) ∧ Kd.S k29 29 w' w.heap.size (fun k_ => some k_ ≠ (v1_ : Value).ownBlock) v0_ l0 ∧ Kd.R (Kd.int .u8) 5 w' w.heap.size (fun _ => True) v1_ [] ∧ Below w.heap.size w w' := by
  have hz0 : (w.alloc (.cells #[.slice none 0 0, .bool false] 29)).heap.size = w.heap.size + 1 := by show (w.heap.push _).size = _; rw [Array.size_push]
  have hO := of_calls A0 c0 l0 (w.alloc (.cells #[.slice none 0 0, .bool false] 29)) (Kd.C_alloc hr0 _) hs
  have hM := fun W (hb : Below w.heap.size w W) => lane_May.calls A0 c0 l0 (mayB l0) W (Kd.C_below hr0 hb) hc0 rfl
  obtain ⟨g, hg⟩ : ∃ g, g = (w.alloc (.cells #[.slice none 0 0, .bool false] 29)).heap.size := ⟨_, rfl⟩
  have hcl := fun w1 W (hW : Way (w.alloc (.cells #[.slice none 0 0, .bool false] 29)) w1 l0) (hb : Below w1.heap.size w1 W) => (way_C hW hb hs).2
  rw [← hg] at hO hcl
  have hbk := fun w1 W (hW : Way (w.alloc (.cells #[.slice none 0 0, .bool false] 29)) w1 l0) (hb : Below w1.heap.size w1 W) => res_block (w := w) (W := W) (by
    have h1 := hW.below
    rw [hz0] at h1
    exact h1.trans (hb.mono (by have := hW.size; omega)))
  have HG := Aside0.mk hg
  have HZ := Aside0.mk hz0
  have HS := Aside0.mk hs
  clear hg hz0 hr0 hs
  cases hm : mayB l0 with
  | false =>
    rw [hm] at hM
    clear hno hm
    go_enter Try.func13, Try.ntmps13
    go_wp2_with (first | (go_at_call 28; (with_reducible refine hO.mono ?_); rintro e w1 ⟨rfl, hW⟩; have hM1 := hM _ ((below_alloc (Below.refl _ _) _).trans (hW.below.mono (by rw [HZ.out]; omega))); have hcl1 := fun W hb => hcl _ W hW hb; have hbk1 := fun W hb => hbk _ W hW hb; have HWW := Aside0.mk hW; clear hW) | (go_at_call 11; (with_reducible refine hM1.mono ?_); rintro e w2 ⟨rfl, hb⟩; have hc9 := hcl1 _ hb; have hk := hbk1 _ hb; have q0 := (block_cell (j := 0) hk (by simp)).1; have q1 := (block_cell (j := 1) hk (by simp)).1; have q2 := (block_cell (j := 0) hk (by simp)).2; have q3 := (block_cell (j := 1) hk (by simp)).2; have HK := Aside0.mk hk; have HB := Aside0.mk hb; clear hb hk))
    refine bodyPost_ret (results_list (rs := [.tmp 4, .cell 5 29, .tmp 6]) rfl (by simp) (.tmp (.cell w.heap.size 29 #[.slice none 0 0, .bool false] (0, 0) _ rfl (by refine blk_put (cs := #[.slice none 0 0, .bool false]) ?_ 1 _ rfl; refine blk_put (cs := #[.slice none 0 0, .bool false]) ?_ 0 _ rfl; exact HK.out) Try.underlying29 rfl (by kernel_rfl) (.tmp .nil)))) rfl ?_
    have hbt := (But.setCell w2 w.heap.size 0 (.slice none 0 0)).trans (But.setCell (w2.setCell ⟨w.heap.size, 0, none⟩ (.slice none 0 0)) w.heap.size 1 (.bool false))
    exact ⟨_, _, rfl, take_end HWW.out HS.out HG.out HZ.out HB.out hbt, Kd.R_nil _ _ _ _ _, take_below HWW.out HZ.out HB.out hbt⟩
  | true =>
    rw [hm] at hM hno
    clear hm
    by_cases c1 : a1 < 0
    · have cd : decide (a1 < 0) = true := decide_eq_true c1
      clear hno c1
      go_enter Try.func13, Try.ntmps13
      go_wp2_with (first | (go_at_call 28; (with_reducible refine hO.mono ?_); rintro e w1 ⟨rfl, hW⟩; have hM1 := hM _ ((below_alloc (Below.refl _ _) _).trans (hW.below.mono (by rw [HZ.out]; omega))); have hcl1 := fun W hb => hcl _ W hW hb; have hbk1 := fun W hb => hbk _ W hW hb; have HWW := Aside0.mk hW; clear hW) | (go_at_call 11; (with_reducible refine hM1.mono ?_); rintro e w2 ⟨rfl, hb⟩; have hc9 := hcl1 _ hb; have hk := hbk1 _ hb; have q0 := (block_cell (j := 0) hk (by simp)).1; have q1 := (block_cell (j := 1) hk (by simp)).1; have q2 := (block_cell (j := 0) hk (by simp)).2; have q3 := (block_cell (j := 1) hk (by simp)).2; have HK := Aside0.mk hk; have HB := Aside0.mk hb; clear hb hk))
      refine bodyPost_ret (results_list (rs := [.tmp 4, .cell 5 29, .tmp 6]) rfl (by simp) (.tmp (.cell w.heap.size 29 #[.slice none 0 0, .bool false] (0, 0) _ rfl (by refine blk_put (cs := #[.slice none 0 0, .bool false]) ?_ 1 _ rfl; refine blk_put (cs := #[.slice none 0 0, .bool false]) ?_ 0 _ rfl; exact HK.out) Try.underlying29 rfl (by kernel_rfl) (.tmp .nil)))) rfl ?_
      have hbt := (But.setCell w2 w.heap.size 0 (.slice none 0 0)).trans (But.setCell (w2.setCell ⟨w.heap.size, 0, none⟩ (.slice none 0 0)) w.heap.size 1 (.bool false))
      exact ⟨_, _, rfl, take_end HWW.out HS.out HG.out HZ.out HB.out hbt, Kd.R_nil _ _ _ _ _, take_below HWW.out HZ.out HB.out hbt⟩
    · have cd : decide (a1 < 0) = false := decide_eq_false c1
      have cd3 : decide ((l0.length : Int) ≤ a1) = true := decide_eq_true (by
        by_cases c2 : a1 < (l0.length : Int)
        · exact absurd ⟨rfl, by omega, c2⟩ hno
        · omega)
      have cd2 : decide (a1 ≥ (l0.length : Int)) = true := cd3
      clear hno c1
      go_enter Try.func13, Try.ntmps13
      go_wp2_with (first | (go_at_call 28; (with_reducible refine hO.mono ?_); rintro e w1 ⟨rfl, hW⟩; have hM1 := hM _ ((below_alloc (Below.refl _ _) _).trans (hW.below.mono (by rw [HZ.out]; omega))); have hcl1 := fun W hb => hcl _ W hW hb; have hbk1 := fun W hb => hbk _ W hW hb; have HWW := Aside0.mk hW; clear hW) | (go_at_call 11; (with_reducible refine hM1.mono ?_); rintro e w2 ⟨rfl, hb⟩; have hc9 := hcl1 _ hb; have hk := hbk1 _ hb; have q0 := (block_cell (j := 0) hk (by simp)).1; have q1 := (block_cell (j := 1) hk (by simp)).1; have q2 := (block_cell (j := 0) hk (by simp)).2; have q3 := (block_cell (j := 1) hk (by simp)).2; have HK := Aside0.mk hk; have HB := Aside0.mk hb; clear hb hk))
      refine bodyPost_ret (results_list (rs := [.tmp 4, .cell 5 29, .tmp 6]) rfl (by simp) (.tmp (.cell w.heap.size 29 #[.slice none 0 0, .bool false] (0, 0) _ rfl (by refine blk_put (cs := #[.slice none 0 0, .bool false]) ?_ 1 _ rfl; refine blk_put (cs := #[.slice none 0 0, .bool false]) ?_ 0 _ rfl; exact HK.out) Try.underlying29 rfl (by kernel_rfl) (.tmp .nil)))) rfl ?_
      have hbt := (But.setCell w2 w.heap.size 0 (.slice none 0 0)).trans (But.setCell (w2.setCell ⟨w.heap.size, 0, none⟩ (.slice none 0 0)) w.heap.size 1 (.bool false))
      exact ⟨_, _, rfl, take_end HWW.out HS.out HG.out HZ.out HB.out hbt, Kd.R_nil _ _ _ _ _, take_below HWW.out HZ.out HB.out hbt⟩
theorem But.cell {w w' : World} {g : Nat} (h : But w w' g) {p : Addr} (hp : p.block ≠ g) : w'.cell? p = w.cell? p := World.cell?_of_block (w := w) (h.block p.block hp)
theorem But.frozen {w w' : World} {g : Nat} (h : But w w' g) {p : Addr} (hp : p.block ≠ g) : w'.frozen? p = w.frozen? p := World.frozen?_of_block (w := w) (h.block p.block hp)
theorem wayRows_one (g : Nat) (l : List S29) : ∀ p ∈ wayRows g l, p.1.oneCell' = true := by
  intro p hp
  obtain ⟨j, hj, rfl⟩ := List.getElem_of_mem hp
  rw [wayRows_get g l j hj (by rw [wayRows_length] at hj; exact hj)]
  rfl
/-- Ahead of the last statement of Take. -/
structure Tk (w w2 W : World) (g b8 hw : Nat) (u : Value) (m : Bool) (l : List S29) : Prop where
  row : W.heap[g]? = some (.cells (flat (wayRows g l)).toArray 29 (0, 0))
  a : W.heap[b8]? = some (.cells #[u, .bool m] 29 (0, 0))
  r : W.heap[w.heap.size]? = some (.cells #[.slice none 0 0, .bool false] 29 (0, 0))
  h : W.heap[hw]? = some (.cells #[.slice (some ⟨g, 0, none⟩) l.length l.length] 48 (0, 0))
  by_ : ∀ j (h : j < l.length), W.heap[g + 1 + j]? = some (.cells (byteCells l[j].f0).toArray 5 (0, 0))
  below : Below w.heap.size w W
  ga : g < b8
  gr : w.heap.size < g
  gh : g < hw
/-- Behind Take: the packets that are left, and the one that was taken. -/
theorem take_fin {w W : World} {l : List S29} {g i k : Nat} {cur : Array Value} (hs : small l) (hi : i < l.length) (hk : l.length = k + 1) (hgw : w.heap.size < g) (hby : ∀ j (h : j < l.length), W.heap[g + 1 + j]? = some (.cells (byteCells l[j].f0).toArray 5 (0, 0)))
    (hcg : W.heap[g]? = some (.cells cur 29 (0, 0))) (hcs : cur.size = l.length * 2) (hct : cur.toList.take (k * 2) = flat ((wayRows g l).eraseIdx i)) :
    Kd.S k29 29 W w.heap.size (fun k_ => some k_ ≠ (Value.slice (some ⟨g + 1 + i, 0, none⟩) l[i].f0.length l[i].f0.length).ownBlock) (.slice (some ⟨g, 0, none⟩) k l.length) (l.eraseIdx i) ∧ Kd.R (Kd.int .u8) 5 W w.heap.size (fun _ => True) (.slice (some ⟨g + 1 + i, 0, none⟩) l[i].f0.length l[i].f0.length) l[i].f0 := by
  have hle : (l.eraseIdx i).length = k := by rw [List.length_eraseIdx_of_lt hi]; omega
  have hbl : ∀ j (h : j < l.length), l[j].f0.length ≤ 9223372036854775807 := fun j h => by have := hs.2 _ (List.getElem_mem h); omega
  refine ⟨?_, bytes_R (hby i hi) (by omega) trivial (hbl i hi)⟩
  have hS := S_mk (w := W) (base := w.heap.size) (g := g) (cap := l.length) (ok := fun k_ => some k_ ≠ (Value.slice (some ⟨g + 1 + i, 0, none⟩) l[i].f0.length l[i].f0.length).ownBlock) (rows := (wayRows g l).eraseIdx i) (xs := l.eraseIdx i) (fun q => if q - (g + 1) < i then q - (g + 1) else q - (g + 1) - 1)
    (by rw [List.length_eraseIdx_of_lt (by rw [wayRows_length]; exact hi), List.length_eraseIdx_of_lt hi, wayRows_length])
    ⟨by rw [flat_length, List.length_eraseIdx_of_lt (by rw [wayRows_length]; exact hi), wayRows_length, hle]; omega, .inr ⟨g, l.length, cur, rfl, by omega, hcg, by omega, by have := hs.1; unfold maxLen; omega, hcs, by rw [hle]; exact hct⟩⟩
    (by simp [Value.ownBlock]; omega) ?_
  · rw [hle] at hS
    exact hS
  · intro j h1 h2
    rw [hle] at h2
    rw [List.getElem_eraseIdx, List.getElem_eraseIdx]
    by_cases c : j < i
    · have hj : j < l.length := by omega
      rw [dif_pos c, dif_pos c, wayRows_get g l j (by rw [wayRows_length]; exact hj) hj]
      refine ⟨bytes_R (hby j hj) (by omega) ⟨⟨by simp [Value.ownBlock]; omega, by omega⟩, ?_⟩ (hbl j hj), rfl⟩
      rw [show g + 1 + j - (g + 1) = j by omega, if_pos c]
    · have hj : j + 1 < l.length := by omega
      rw [dif_neg c, dif_neg c, wayRows_get g l (j + 1) (by rw [wayRows_length]; exact hj) hj]
      refine ⟨bytes_R (hby (j + 1) hj) (by omega) ⟨⟨by simp [Value.ownBlock]; omega, by omega⟩, ?_⟩ (hbl (j + 1) hj), rfl⟩
      rw [show g + 1 + (j + 1) - (g + 1) = j + 1 by omega, if_neg (by omega)]
      omega
set_option maxHeartbeats 8000000 in
set_option maxRecDepth 100000 in
theorem take_yes (A0 : Option Addr) (c0 : Nat) (l0 : List S29) (i k : Nat) (w : World) (hr0 : Kd.C k29 w A0 l0.length l0) (hc0 : l0.length ≤ c0) (hs : small l0) (hm : mayB l0 = true) (hi : i < l0.length) (hk : l0.length = k + 1) :
    Calls Try.prog 13 #[.slice A0 l0.length c0, .int .i64 (i : Int)] w fun e w' => ∃ v0_ v1_ : Value, e = .returned (.tuple #[v0_, .agg #[v1_, .bool l0[i].f1], .bool true]) ∧ Kd.S k29 29 w' w.heap.size (fun k_ => some k_ ≠ (v1_ : Value).ownBlock) v0_ (l0.eraseIdx i) ∧ Kd.R (Kd.int .u8) 5 w' w.heap.size (fun _ => True) v1_ l0[i].f0 ∧ Below w.heap.size w w' := by
  have hz0 : (w.alloc (.cells #[.slice none 0 0, .bool false] 29)).heap.size = w.heap.size + 1 := by show (w.heap.push _).size = _; rw [Array.size_push]
  have hO := of_calls A0 c0 l0 (w.alloc (.cells #[.slice none 0 0, .bool false] 29)) (Kd.C_alloc hr0 _) hs
  have hM := fun W (hb : Below w.heap.size w W) => lane_May.calls A0 c0 l0 true W (Kd.C_below hr0 hb) hc0 (by unfold lane_May.f; rw [hm])
  obtain ⟨g, hg⟩ : ∃ g, g = (w.alloc (.cells #[.slice none 0 0, .bool false] 29)).heap.size := ⟨_, rfl⟩
  have hcl := fun w1 W (hW : Way (w.alloc (.cells #[.slice none 0 0, .bool false] 29)) w1 l0) (hb : Below w1.heap.size w1 W) => (⟨(way_C hW hb hs).2, way_row hW hb i hi, way_flag hW hb i hi⟩ : _ ∧ _ ∧ _)
  rw [← hg] at hO hcl
  have hbk := fun w1 W (hW : Way (w.alloc (.cells #[.slice none 0 0, .bool false] 29)) w1 l0) (hb : Below w1.heap.size w1 W) => res_block (w := w) (W := W) (by
    have h1 := hW.below
    rw [hz0] at h1
    exact h1.trans (hb.mono (by have := hW.size; omega)))
  have h64 := may_len hm
  have cd : decide ((i : Int) < 0) = false := decide_eq_false (by omega)
  have cd3 : decide ((l0.length : Int) ≤ (i : Int)) = false := decide_eq_false (by omega)
  have cd2 : decide ((i : Int) ≥ (l0.length : Int)) = false := cd3
  obtain ⟨x, hx⟩ : ∃ x, x = l0[i] := ⟨_, rfl⟩
  rw [← hx] at hcl
  rw [← hx]
  have HX := Aside0.mk hx
  have HG := Aside0.mk hg
  have HZ := Aside0.mk hz0
  have HS := Aside0.mk hs
  have HKK := Aside0.mk hk
  clear hg hz0 hr0 hs hx hm hk
  go_enter Try.func13, Try.ntmps13
  go_wp2_with (first | (go_at_call 28; (with_reducible refine hO.mono ?_); rintro e w1 ⟨rfl, hW⟩; have hM1 := hM _ ((below_alloc (Below.refl _ _) _).trans (hW.below.mono (by rw [HZ.out]; omega))); have hcl1 := fun W hb => hcl _ W hW hb; have hbk1 := fun W hb => hbk _ W hW hb; have HWW := Aside0.mk hW; clear hW) | (go_at_call 11; (with_reducible refine hM1.mono ?_); rintro e w2 ⟨rfl, hb⟩; obtain ⟨hc9, hc10, hc11⟩ := hcl1 _ hb; have hk := hbk1 _ hb; have HK := Aside0.mk hk; have HB := Aside0.mk hb; clear hb hk))
  have hDel := fun W (hrow : W.heap[g]? = some (.cells (flat (wayRows g l0)).toArray 29 (0, 0))) => del_calls g k i (wayRows g l0) W hrow (by rw [wayRows_length]; exact HKK.out) (by have := HKK.out; omega) (by have := HKK.out; omega) (wayRows_one g l0)
  rw [← HKK.out] at hDel
  have htk : Tk w w2 (w2.alloc (.cells #[.slice (some ⟨g + 1 + i, 0, none⟩) x.f0.length x.f0.length, .bool x.f1] 29)) g w2.heap.size (g + 1 + l0.length) (.slice (some ⟨g + 1 + i, 0, none⟩) x.f0.length x.f0.length) x.f1 l0 := by
    have h1 := HWW.out
    have h2 := HB.out
    have h3 := HG.out
    have h4 := HZ.out
    have h5 := h1.size
    have h6 := h2.size
    rw [← h3] at h5 h4
    refine ⟨?_, ?_, ?_, ?_, ?_, ?_, by omega, by omega, by omega⟩
    · rw [Below.heap_alloc _ _ _ (by omega), h2.block _ (by omega), h3]
      exact h1.row
    · show (w2.heap.push _)[w2.heap.size]? = _
      exact Array.getElem?_push_size
    · rw [Below.heap_alloc _ _ _ (by omega)]
      exact HK.out
    · rw [Below.heap_alloc _ _ _ (by omega), h2.block _ (by omega), h3]
      exact h1.way
    · intro j hj
      rw [Below.heap_alloc _ _ _ (by omega), h2.block _ (by omega), h3]
      exact h1.bytes j hj
    · exact ((below_alloc (Below.refl _ _) _).trans (h1.below.mono (by rw [HZ.out]; omega))).trans ((h2.mono (by omega)).alloc (by omega) _)
  have e1 := (block_cell (j := 0) htk.a (by simp)).1
  have e2 := (block_cell (j := 1) htk.a (by simp)).1
  have e3 := (block_cell (j := 0) htk.r (by simp)).1
  have e4 := (block_cell (j := 1) htk.r (by simp)).1
  have e5 := (block_cell (j := 0) htk.r (by simp)).2
  have e6 := (block_cell (j := 1) htk.r (by simp)).2
  have e7 := (block_cell (j := 0) htk.h (by simp)).1
  have n1 : w2.heap.size ≠ g := by have := htk.ga; omega
  have n2 : w.heap.size ≠ g := by have := htk.gr; omega
  have n3 : w2.heap.size ≠ w.heap.size := by have := htk.ga; have := htk.gr; omega
  have HTK := Aside0.mk htk
  clear htk hc9 hc10 hc11 hM hO hcl hbk hM1 hcl1 hbk1 cd cd2 cd3
  generalize w2.alloc (.cells #[.slice (some ⟨g + 1 + i, 0, none⟩) x.f0.length x.f0.length, .bool x.f1] 29) = W4 at *
  simp only [List.getElem_toArray, List.getElem_cons_zero, List.getElem_cons_succ] at e1 e2 e3 e4 e7
  have hwr : IntKind.i64.wrap ((i : Int) + 1) = (i : Int) + 1 := by rw [IntKind.wrap_i64]; omega
  go_region_with (go_at_call 30; (with_reducible refine (hDel _ ?hrow9).mono ?_); (case hrow9 => exact HTK.out.row); rintro e w5 ⟨rfl, hbt, cur, hcg, hcs, hct⟩; have f1 := (hbt.cell (p := ⟨w2.heap.size, 0, none⟩) n1).trans e1; have f2 := (hbt.cell (p := ⟨w2.heap.size, 1, none⟩) n1).trans e2; have f3 := (hbt.cell (p := ⟨w.heap.size, 0, none⟩) n2).trans e3; have f4 := (hbt.cell (p := ⟨w.heap.size, 1, none⟩) n2).trans e4; have f5 := (hbt.frozen (p := ⟨w.heap.size, 0, none⟩) n2).trans e5; have f6 := (hbt.frozen (p := ⟨w.heap.size, 1, none⟩) n2).trans e6; have HBT := Aside0.mk hbt; have HCG := Aside0.mk hcg; have HCS := Aside0.mk hcs; have HCT := Aside0.mk hct; clear hbt hcg hcs hct)
  all_goals
    go_wp2
    refine bodyPost_ret (results_list (rs := [.tmp 4, .cell 5 29, .tmp 6]) rfl (by simp) (.tmp (.cell w.heap.size 29 #[.slice (some ⟨g + 1 + i, 0, none⟩) x.f0.length x.f0.length, .bool x.f1] (0, 0) _ rfl (by (with_reducible repeat (first | refine blk_drewN ?_ _ | refine blk_drew ?_)); refine blk_put (cs := #[.slice (some ⟨g + 1 + i, 0, none⟩) x.f0.length x.f0.length, .bool false]) ?_ 1 _ rfl; (with_reducible repeat (first | refine blk_drewN ?_ _ | refine blk_drew ?_)); refine blk_put (cs := #[.slice none 0 0, .bool false]) ?_ 0 _ rfl; (with_reducible repeat (first | refine blk_drewN ?_ _ | refine blk_drew ?_)); exact (HBT.out.block _ n2).trans HTK.out.r) Try.underlying29 rfl (by kernel_rfl) (.tmp .nil)))) rfl ?_
    have hb2 := (But.setCell w5 w.heap.size 0 (.slice (some ⟨g + 1 + i, 0, none⟩) x.f0.length x.f0.length)).trans (But.setCell _ w.heap.size 1 (.bool x.f1))
    have hfin := take_fin (w := w) (W := (w5.setCell ⟨w.heap.size, 0, none⟩ (.slice (some ⟨g + 1 + i, 0, none⟩) x.f0.length x.f0.length)).setCell ⟨w.heap.size, 1, none⟩ (.bool x.f1)) (g := g) HS.out hi HKK.out HTK.out.gr (fun j hj => by
      rw [hb2.block _ (by have := HTK.out.gr; omega), HBT.out.block _ (by omega)]
      exact HTK.out.by_ j hj) ((hb2.block _ (by omega)).trans HCG.out) HCS.out HCT.out
    rw [← HX.out] at hfin
    exact ⟨_, _, rfl, hfin.1, hfin.2, (HTK.out.below.trans ((⟨HBT.out.os, HBT.out.tape, HBT.out.output, HBT.out.size, HBT.out.block⟩ : But W4 w5 g).below (by have := HTK.out.gr; omega))).trans (hb2.below (Nat.le_refl _))⟩
theorem lane_Take.calls (A0 : Option Addr) (c0 : Nat) (l0 : List S29) (a1 : Int) (r1 : List S29) (r2 : List Int) (r3 r4 : Bool) (w : World) (hr0 : Kd.C k29 w A0 l0.length l0) (hc0 : l0.length ≤ c0) (h : lane_Take.f l0 a1 = some (r1, r2, r3, r4)) :
    Calls Try.prog 13 #[.slice A0 l0.length c0, .int .i64 a1] w fun e w' => ∃ v0_ v1_ : Value, e = .returned (.tuple #[v0_, .agg #[v1_, .bool r3], .bool r4]) ∧ Kd.S k29 29 w' w.heap.size (fun k_ => some k_ ≠ (v1_ : Value).ownBlock) v0_ r1 ∧ Kd.R (Kd.int .u8) 5 w' w.heap.size (fun _ => True) v1_ r2 ∧ Below w.heap.size w w' := by
  unfold lane_Take.f at h
  split at h
  · rename_i hs
    have h2 := Option.some.inj h
    unfold takeB at h2
    split at h2
    · rename_i hc
      obtain ⟨hm, h0, h1⟩ := hc
      obtain ⟨i, rfl⟩ : ∃ i : Nat, a1 = i := ⟨a1.toNat, by omega⟩
      have hi : i < l0.length := by omega
      rw [rdT l0 i hi, Int.toNat_natCast] at h2
      simp only [Prod.mk.injEq] at h2
      obtain ⟨rfl, rfl, rfl, rfl⟩ := h2
      exact take_yes A0 c0 l0 i (l0.length - 1) w hr0 hc0 hs hm hi (by omega)
    · rename_i hc
      simp only [Prod.mk.injEq] at h2
      obtain ⟨rfl, rfl, rfl, rfl⟩ := h2
      exact take_no A0 c0 l0 a1 w hr0 hc0 hs hc
  · cases h
end Go.Proofs.Ytnfgcjeenjomgaa.Given
