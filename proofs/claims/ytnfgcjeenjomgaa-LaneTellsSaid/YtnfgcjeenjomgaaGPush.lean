/- The walks of push, twice, lane.Push and lane.Twice. -/
import Derived.Test.YtnfgcjeenjomgaaGMark
import Derived.Deep.QuietTactic
import Derived.BigQuiet
import Derived.Deep.RegionLawGrows
import Derived.Deep.DeepMust
namespace Go.Proofs.Ytnfgcjeenjomgaa.Given
open Go.RowKit Go.Proofs.YtnfgcjeenjomgaaW.PrintWords Go.Proofs.YtnfgcjeenjomgaaW.PrintLast Go.Proofs.YtnfgcjeenjomgaaW.PrintMore Go.Proofs.Ytnfgcjeenjomgaa.S
set_option linter.unusedVariables false
set_option linter.unusedSimpArgs false
set_option maxHeartbeats 4000000 in
set_option maxRecDepth 100000 in
theorem push_no (hw g n : Nat) (m : Bool) (A : Option Addr) (c nb : Nat) (w : World) (hway : w.heap[hw]? = some (.cells #[.slice (some ⟨g, 0, none⟩) n n] 48 (0, 0))) (hn : n ≤ 64) (hno : n = 64 ∨ 2000 < nb) :
    Calls Try.prog 29 #[.pointer (some ⟨hw, 0, none⟩), .agg #[.slice A nb c, .bool m]] w fun e w' => e = .returned (.bool false) ∧ Below w.heap.size w w' := by
  have hcell := (block_cell (j := 0) hway (by simp)).1
  have hlt := World.block_lt_of_cell? w _ hcell
  simp only [List.getElem_toArray, List.getElem_cons_zero] at hcell
  have hne : w.heap.size ≠ hw := by simp only at hlt; omega
  have hcell2 := (((Below.refl w.heap.size w).alloc (Nat.le_refl _) (.cells #[.slice A nb c, .bool m] 29)).cell hlt).trans hcell
  by_cases c1 : n = 64
  · have cd : ((n : Int) == 64) = true := by rw [c1]; rfl
    clear hway hno c1
    go_enter Try.func29, Try.ntmps29
    go_wp2
    go_ret
    exact ⟨rfl, below_alloc (Below.refl _ _) _⟩
  · have cd : ((n : Int) == 64) = false := by rw [beq_eq_false_iff_ne]; omega
    have cd2 : decide ((2000 : Int) < (nb : Int)) = true := decide_eq_true (by omega)
    clear hway hno c1
    go_enter Try.func29, Try.ntmps29
    go_wp2
    go_ret
    exact ⟨rfl, below_alloc (Below.refl _ _) _⟩
/-- What stands ahead of the append. -/
structure Mid (w W : World) (hw g n : Nat) (m : Bool) (rows : List (Value × Bool)) (vb : Value) (b : List Int) : Prop where
  c0 : W.cell? ⟨w.heap.size, 0, none⟩ = some vb
  c1 : W.cell? ⟨w.heap.size, 1, none⟩ = some (.bool m)
  ch : W.cell? ⟨hw, 0, none⟩ = some (.slice (some ⟨g, 0, none⟩) n n)
  fh : W.frozen? ⟨hw, 0, none⟩ = false
  row : W.heap[g]? = some (.cells (flat rows).toArray 29 (0, 0))
  r : Kd.R (Kd.int .u8) 5 W (w.heap.size + 1) (fun _ => True) vb b
  below : Below w.heap.size w W
  hwb : W.heap[hw]? = some (.cells #[.slice (some ⟨g, 0, none⟩) n n] 48 (0, 0))
theorem push_box {w w2 : World} {u : Value} {m : Bool} (hb2 : Below (w.heap.size + 1) (w.alloc (.cells #[u, .bool m] 29)) w2) : w2.heap[w.heap.size]? = some (.cells #[u, .bool m] 29 (0, 0)) := by
  rw [hb2.block _ (by omega)]
  show (w.heap.push _)[w.heap.size]? = _
  exact Array.getElem?_push_size
theorem push_mid {w w2 : World} {hw g n : Nat} {m : Bool} {rows : List (Value × Bool)} {u vb : Value} {b : List Int} (hway : w.heap[hw]? = some (.cells #[.slice (some ⟨g, 0, none⟩) n n] 48 (0, 0))) (hrow : w.heap[g]? = some (.cells (flat rows).toArray 29 (0, 0)))
    (hb2 : Below (w.heap.size + 1) (w.alloc (.cells #[u, .bool m] 29)) w2) (hr : Kd.R (Kd.int .u8) 5 w2 (w.heap.size + 1) (fun _ => True) vb b) (hvb : vb.oneCell' = true) : Mid w (w2.setCell ⟨w.heap.size, 0, none⟩ vb) hw g n m rows vb b := by
  have hbox := push_box hb2
  have h1 := (Array.getElem?_eq_some_iff.1 hway).1
  have h2 := (Array.getElem?_eq_some_iff.1 hrow).1
  have hbt := But.setCell w2 w.heap.size 0 vb
  have hset := set_block (j := 0) hbox vb hvb (by simp)
  have hw2 : (w2.setCell ⟨w.heap.size, 0, none⟩ vb).heap[hw]? = some (.cells #[.slice (some ⟨g, 0, none⟩) n n] 48 (0, 0)) := by
    rw [hbt.block _ (by omega), hb2.block _ (by omega), Below.heap_alloc w _ _ h1, hway]
  refine ⟨(block_cell (j := 0) hset (by simp)).1, (block_cell (j := 1) hset (by simp)).1, (block_cell (j := 0) hw2 (by simp)).1, (block_cell (j := 0) hw2 (by simp)).2, ?_, ?_, ?_, hw2⟩
  · rw [hbt.block _ (by omega), hb2.block _ (by omega), Below.heap_alloc w _ _ h2, hrow]
  · exact Kd.R_step (Kd.R_bound hr) (fun k hk _ => hbt.block k (by have := hk.2.1; omega)) |> fun h => Kd.R_mono h (fun _ _ => trivial)
  · exact ((below_alloc (Below.refl _ _) _).trans (hb2.mono (by omega))).trans (hbt.below (Nat.le_refl _))
theorem row_cells {w : World} {g t : Nat} {cs : List Value} (h : w.heap[g]? = some (.cells cs.toArray t (0, 0))) (b : Addr) (hb : some (⟨g, 0, none⟩ : Addr) = some b) (j : Nat) (u : Value) (hu : cs[j]? = some u) : w.cell? (b.add j) = some u := by
  obtain rfl := Option.some.inj hb
  obtain ⟨hj, hju⟩ := List.getElem?_eq_some_iff.1 hu
  have := (block_cell (j := j) h (by simpa using hj)).1
  rw [add_plain, this]
  simp [hju]
theorem push_end {w W w' : World} {hw g n base g' cap' : Nat} {m : Bool} {rows : List (Value × Bool)} {vb : Value} {b : List Int} (h : Mid w W hw g n m rows vb b) (hlt : hw < w.heap.size) (hbase : w.heap.size ≤ base) (hb : Below W.heap.size W w') (hown : w'.ownsRow base 29 2 (.slice (some ⟨g', 0, none⟩) (n + 1) cap') (n + 1) (flat rows ++ [vb, .bool m])) :
    Kd.R (Kd.int .u8) 5 (w'.setCell ⟨hw, 0, none⟩ (.slice (some ⟨g', 0, none⟩) (n + 1) cap')) w.heap.size (fun _ => True) vb b ∧ (w'.setCell ⟨hw, 0, none⟩ (.slice (some ⟨g', 0, none⟩) (n + 1) cap')).ownsRow w.heap.size 29 2 (.slice (some ⟨g', 0, none⟩) (n + 1) cap') (n + 1) (flat (rows ++ [(vb, m)])) ∧
      (w'.setCell ⟨hw, 0, none⟩ (.slice (some ⟨g', 0, none⟩) (n + 1) cap')).cell? ⟨hw, 0, none⟩ = some (.slice (some ⟨g', 0, none⟩) (n + 1) cap') ∧ Below hw w (w'.setCell ⟨hw, 0, none⟩ (.slice (some ⟨g', 0, none⟩) (n + 1) cap')) := by
  have hbt := But.setCell w' hw 0 (.slice (some ⟨g', 0, none⟩) (n + 1) cap')
  have hW := (Array.getElem?_eq_some_iff.1 h.hwb).1
  have hset := set_block (j := 0) ((hb.block hw hW).trans h.hwb) (.slice (some ⟨g', 0, none⟩) (n + 1) cap') rfl (by simp)
  refine ⟨?_, ?_, (block_cell (j := 0) hset (by simp)).1, ?_⟩
  · have h1 := Kd.R_bound (Kd.R_below h.r hb)
    exact Kd.R_lower (Kd.R_mono (Kd.R_step h1 (fun k hk _ => hbt.block k (by have := hk.2.1; omega))) (fun _ _ => trivial)) (by omega)
  · have h2 := own_weaken hown hbase
    have h3 : (w'.setCell ⟨hw, 0, none⟩ (.slice (some ⟨g', 0, none⟩) (n + 1) cap')).ownsRow w.heap.size 29 2 (.slice (some ⟨g', 0, none⟩) (n + 1) cap') (n + 1) (flat rows ++ [vb, .bool m]) :=
      own_move h2 (fun k hk => hbt.block k (by have := own_base h2 k hk; omega))
    rw [flat_append]
    exact h3
  · exact ((h.below.mono (by omega)).trans (hb.mono (by omega))).trans (hbt.below (Nat.le_refl _))
theorem after_append {W w' : World} {o : Obj} {base n hw : Nat} {v' u : Value} {xs : List Value} (hown : w'.ownsRow base 29 2 v' n xs) (hn : 0 < n) (hgrow : ((W.alloc o).drew).grownBy w' none) (hc : W.cell? ⟨hw, 0, none⟩ = some u) (hf : W.frozen? ⟨hw, 0, none⟩ = false) :
    (∃ g' cap', v' = .slice (some ⟨g', 0, none⟩) n cap') ∧ Below W.heap.size W w' ∧ w'.cell? ⟨hw, 0, none⟩ = some u ∧ w'.frozen? ⟨hw, 0, none⟩ = false := by
  have hlt := World.block_lt_of_cell? W _ hc
  have hb : Below W.heap.size W w' := (below_drew1 (below_alloc (Below.refl W.heap.size W) o)).grown hgrow (by show W.heap.size ≤ (W.heap.push _).size; rw [Array.size_push]; omega) (fun r e => by cases e)
  refine ⟨?_, hb, (hb.cell hlt).trans hc, (hb.frozen hlt).trans hf⟩
  rcases hown.2 with ⟨_, h0⟩ | ⟨g, cap, _, hv, _⟩
  · omega
  · exact ⟨g, cap, hv⟩
set_option maxHeartbeats 4000000 in
set_option maxRecDepth 100000 in
theorem push_yes (hw g n : Nat) (m : Bool) (rows : List (Value × Bool)) (A : Option Addr) (c : Nat) (b : List Int) (w : World) (hway : w.heap[hw]? = some (.cells #[.slice (some ⟨g, 0, none⟩) n n] 48 (0, 0))) (hrl : rows.length = n) (hrow : w.heap[g]? = some (.cells (flat rows).toArray 29 (0, 0)))
    (hn : n < 64) (hg : g < hw) (hr : Kd.C (Kd.int .u8) w A b.length b) (hc : b.length ≤ c) (hb : b.length ≤ 2000) :
    Calls Try.prog 29 #[.pointer (some ⟨hw, 0, none⟩), .agg #[.slice A b.length c, .bool m]] w fun e w' => e = .returned (.bool true) ∧ ∃ vb g' cap', Kd.R (Kd.int .u8) 5 w' w.heap.size (fun _ => True) vb b ∧
      w'.ownsRow w.heap.size 29 2 (.slice (some ⟨g', 0, none⟩) (n + 1) cap') (n + 1) (flat (rows ++ [(vb, m)])) ∧ w'.cell? ⟨hw, 0, none⟩ = some (.slice (some ⟨g', 0, none⟩) (n + 1) cap') ∧ Below hw w w' := by
  have hcell := (block_cell (j := 0) hway (by simp)).1
  have hlt := World.block_lt_of_cell? w _ hcell
  simp only [List.getElem_toArray, List.getElem_cons_zero] at hcell
  have hfr := (block_cell (j := 0) hway (by simp)).2
  have hne : w.heap.size ≠ hw := by simp only at hlt; omega
  have hBA := (Below.refl w.heap.size w).alloc (Nat.le_refl _) (.cells #[.slice A b.length c, .bool m] 29)
  have hcell2 := (hBA.cell hlt).trans hcell
  have hCl := slices_Clone_byte_byte.calls A c b b (w.alloc (.cells #[.slice A b.length c, .bool m] 29)) (Kd.C_alloc hr _) hc (by unfold slices_Clone_byte_byte.f; rw [if_pos (by omega)])
  have cd : ((n : Int) == 64) = false := by rw [beq_eq_false_iff_ne]; omega
  have cd2 : decide ((2000 : Int) < (b.length : Int)) = false := decide_eq_false (by omega)
  have HROW := Aside0.mk hrow
  have HRL := Aside0.mk hrl
  have HW := Aside0.mk hway
  have HG := Aside0.mk hg
  clear hway hrow hrl hr hBA hg hb
  go_enter Try.func29, Try.ntmps29
  have hS1 : (w.alloc (.cells #[.slice A b.length c, .bool m] 29)).heap.size = w.heap.size + 1 := by show (w.heap.push _).size = _; rw [Array.size_push]
  rw [hS1] at hCl
  have HS1 := Aside0.mk hS1
  clear hS1
  go_wp2_with (go_at_call 37; (with_reducible refine hCl.mono ?_); rintro e w2 ⟨vb, rfl, ho, hb2⟩; obtain ⟨Ab, cb, rfl⟩ := Kd.R_slice ho; have hbx := push_box hb2; have ha0 := (block_cell (j := 0) hbx (by simp)).1; have hf0 := (block_cell (j := 0) hbx (by simp)).2; have hmid := Aside0.mk (push_mid (g := g) (n := n) (rows := rows) HW.out HROW.out hb2 ho rfl); clear hbx ho hb2)
  obtain ⟨i0, hi, hz0, hz1, hz2⟩ := info_parts info29
  have HI := Aside0.mk hi
  have HZ0 := Aside0.mk hz0
  have HZ1 := Aside0.mk hz1
  have HZ2 := Aside0.mk hz2
  have c0 := hmid.out.c0
  have c1 := hmid.out.c1
  have ch := hmid.out.ch
  have fh := hmid.out.fh
  have hltW : w.heap.size < (w2.setCell ⟨w.heap.size, 0, none⟩ (.slice Ab b.length cb)).heap.size := World.block_lt_of_cell? _ _ c0
  clear hi hz0 hz1 hz2 ha0 hf0 hcell hcell2 hfr hCl cd cd2
  generalize w2.setCell ⟨w.heap.size, 0, none⟩ (.slice Ab b.length cb) = W at *
  have hhw : hw < W.heap.size := World.block_lt_of_cell? _ _ ch
  have HML : Aside0 ((flat rows).length = n * 2) := ⟨by rw [flat_length, HRL.out]⟩
  go_region_law (refine step_append_grows rfl (.tmp 25) (.tmp 27) 22 rfl 29 i0 (.agg #[.slice none 0 0, .bool false]) 2 32 Try.underlying22 HI.out HZ0.out HZ1.out HZ2.out rfl (by decide) (some ⟨g, 0, none⟩) n n (flat rows) (by simp [Act.eval, Act.put]) (by simp) HML.out (fun b hb j u hu => row_cells ((Below.heap_alloc W _ g (by have := HG.out; omega)).trans hmid.out.row) b hb j u hu) ⟨W.heap.size, 0, none⟩ 1 1 [.slice Ab b.length cb, .bool m] (by simp [Act.eval, Act.put]) rfl (fun j u hu => row_cells (t := 29) (cs := [.slice Ab b.length cb, .bool m]) (by show (W.heap.push _)[W.heap.size]? = _; exact Array.getElem?_push_size) _ rfl j u hu) (by intro u hu; simp at hu; rcases hu with rfl | rfl <;> rfl) (by omega) (by unfold maxLen; omega) (by omega) ?_; intro v' w' hown hgrow; obtain ⟨⟨g', cap', rfl⟩, hbl, hch, hfh⟩ := after_append hown (by omega) hgrow ch fh; have HOW := Aside0.mk hown; have HBL := Aside0.mk hbl; clear hown hbl hgrow)
  all_goals
    go_wp2
    go_ret
    exact ⟨rfl, _, _, _, push_end hmid.out hlt (by have := hmid.out.below.size; show w.heap.size ≤ (W.heap.push _).size; rw [Array.size_push]; omega) HBL.out HOW.out⟩
/-- Behind a push: a row of the call's own. -/
theorem pushed_S {w w1 W w' : World} {l : List S29} {m : Bool} {vb : Value} {b : List Int} {g' cap' : Nat} (hW : Way w w1 l) (hs : small l) (hb : Below w1.heap.size w1 W) (hbw : Below (w.heap.size + 1 + l.length) W w')
    (hr : Kd.R (Kd.int .u8) 5 w' W.heap.size (fun _ => True) vb b) (hown : w'.ownsRow W.heap.size 29 2 (.slice (some ⟨g', 0, none⟩) (l.length + 1) cap') (l.length + 1) (flat (wayRows w.heap.size l ++ [(vb, m)]))) :
    Kd.S k29 29 w' w.heap.size (fun _ => True) (.slice (some ⟨g', 0, none⟩) (l ++ [(⟨b, m⟩ : S29)]).length cap') (l ++ [(⟨b, m⟩ : S29)]) := by
  have hz := hW.size
  have hz2 := hb.size
  have hg' := own_base hown g' rfl
  have hlen : (l ++ [(⟨b, m⟩ : S29)]).length = l.length + 1 := by simp
  refine S_mk (rows := wayRows w.heap.size l ++ [(vb, m)]) (fun k => if k < w.heap.size + 1 + l.length then k - (w.heap.size + 1) else l.length) (by simp [wayRows_length]) (by rw [hlen]; exact own_weaken hown (by omega)) trivial ?_
  intro j h1 h2
  rw [hlen] at h2
  rcases Nat.lt_or_ge j l.length with hj | hj
  · rw [List.getElem_append_left (by rw [wayRows_length]; exact hj), List.getElem_append_left hj, wayRows_get _ _ j (by rw [wayRows_length]; exact hj) hj]
    refine ⟨bytes_R (((hbw.block _ (by omega)).trans (hb.block _ (by omega))).trans (hW.bytes j hj)) (by omega) ⟨⟨trivial, by omega⟩, ?_⟩ (by have := hs.2 _ (List.getElem_mem hj); omega), rfl⟩
    show (if w.heap.size + 1 + j < w.heap.size + 1 + l.length then w.heap.size + 1 + j - (w.heap.size + 1) else l.length) = j
    rw [if_pos (by omega)]
    omega
  · obtain rfl : j = l.length := by omega
    have e1 : (wayRows w.heap.size l ++ [(vb, m)])[l.length] = (vb, m) := by
      rw [List.getElem_append_right (by rw [wayRows_length]; exact Nat.le_refl _)]
      simp
    have e2 : (l ++ [(⟨b, m⟩ : S29)])[l.length] = ⟨b, m⟩ := by
      rw [List.getElem_append_right (Nat.le_refl _)]
      simp
    rw [e1, e2]
    refine ⟨Kd.R_lower (Kd.R_reok rfl hr (fun k hk => ?_)) (by omega), rfl⟩
    have h3 := Kd.R_base hr k hk
    obtain ⟨cs, hc⟩ := Kd.R_typed hr k hk
    obtain ⟨cs2, hc2⟩ := own_typed hown g' rfl
    refine ⟨⟨trivial, fun e => ?_⟩, by rw [if_neg (by omega)]⟩
    rw [e, hc2] at hc
    injection hc with hc
    injection hc with _ hc _
    cases hc
def pushB (l : List S29) (b : List Int) (m : Bool) : List S29 × Bool := if mayB l = true ∧ l.length < 64 ∧ b.length ≤ 2000 then (l ++ [⟨b, m⟩], true) else (l, false)
def lane_Push.f (l0 : List S29) (l1 : List Int) : Option (List S29 × Bool) := if small l0 then some (pushB l0 l1 false) else none
theorem may_len {l : List S29} (h : mayB l = true) : l.length ≤ 64 := by
  unfold mayB at h
  simp only [Bool.and_eq_true, decide_eq_true_eq] at h
  exact h.1
set_option maxHeartbeats 4000000 in
set_option maxRecDepth 100000 in
theorem lane_Push.calls (A0 : Option Addr) (c0 : Nat) (l0 : List S29) (A1 : Option Addr) (c1 : Nat) (l1 : List Int) (r1 : List S29) (r2 : Bool) (w : World) (hr0 : Kd.C k29 w A0 l0.length l0) (hc0 : l0.length ≤ c0) (hr1 : Kd.C (Kd.int .u8) w A1 l1.length l1) (hc1 : l1.length ≤ c1) (h : lane_Push.f l0 l1 = some (r1, r2)) :
    Calls Try.prog 12 #[.slice A0 l0.length c0, .slice A1 l1.length c1] w fun e w' => ∃ v0_ : Value, e = .returned (.tuple #[v0_, .bool r2]) ∧ Kd.S k29 29 w' w.heap.size (fun _ => True) v0_ r1 ∧ Below w.heap.size w w' := by
  unfold lane_Push.f at h
  split at h
  · rename_i hs
    have h2 := Option.some.inj h
    clear h
    have hO := of_calls A0 c0 l0 w hr0 hs
    have HS := Aside0.mk hs
    have hM := fun W (hb : Below w.heap.size w W) => lane_May.calls A0 c0 l0 (mayB l0) W (Kd.C_below hr0 hb) hc0 rfl
    obtain ⟨hw, hhw⟩ : ∃ q, q = w.heap.size + 1 + l0.length := ⟨_, rfl⟩
    rw [← hhw] at hO
    have HW := Aside0.mk hhw
    by_cases hm : mayB l0 = true
    · have h64 := may_len hm
      simp only [hm] at hM
      by_cases hc : l0.length < 64 ∧ l1.length ≤ 2000
      · unfold pushB at h2
        rw [if_pos ⟨hm, hc⟩] at h2
        simp only [Prod.mk.injEq] at h2
        obtain ⟨rfl, rfl⟩ := h2
        have hP := fun w1 W (hW : Way w w1 l0) (hb : Below w1.heap.size w1 W) => push_yes hw w.heap.size l0.length false (wayRows w.heap.size l0) A1 c1 l1 W (by rw [hhw, hb.block _ (by have := hW.size; omega)]; exact hW.way) (wayRows_length _ _) (by rw [hb.block _ (by have := hW.size; omega)]; exact hW.row) hc.1 (by omega) (Kd.C_below hr1 (hW.below.trans (hb.mono hW.below.size))) hc1 hc.2
        clear hs hr0 hr1 hm hc hhw
        go_enter Try.func12, Try.ntmps12
        go_wp2_with (first | (go_at_call 28; (with_reducible refine hO.mono ?_); rintro e w1 ⟨rfl, hW⟩; have hM1 := hM _ hW.below; have hP1 := fun W hb => hP _ W hW hb; have HWW := Aside0.mk hW; clear hW) | (go_at_call 11; (with_reducible refine hM1.mono ?_); rintro e w2 ⟨rfl, hb⟩; have hP2 := hP1 _ hb; have HB := Aside0.mk hb; clear hb) | (go_at_call 29; (with_reducible refine hP2.mono ?_); rintro e w3 ⟨rfl, vb, g', cap', hvr, hown, hcell, hbl⟩; have HVR := Aside0.mk hvr; have HOWN := Aside0.mk hown; have HBL := Aside0.mk hbl; clear hvr hown hbl))
        go_ret2
        have hbl := HBL.out
        rw [HW.out] at hbl
        refine ⟨_, rfl, ?_, (HWW.out.below.trans (HB.out.mono HWW.out.below.size)).trans (hbl.mono (by omega))⟩
        have := pushed_S HWW.out HS.out HB.out hbl HVR.out HOWN.out
        rw [show (l0 ++ [(⟨l1, false⟩ : S29)]).length = l0.length + 1 by simp] at this
        exact this
      · unfold pushB at h2
        rw [if_neg (fun hh => hc hh.2)] at h2
        simp only [Prod.mk.injEq] at h2
        obtain ⟨rfl, rfl⟩ := h2
        have hP := fun w1 W (hW : Way w w1 l0) (hb : Below w1.heap.size w1 W) => push_no hw w.heap.size l0.length false A1 c1 l1.length W (by rw [hhw, hb.block _ (by have := hW.size; omega)]; exact hW.way) h64 (by omega)
        have hcl := fun w1 W (hW : Way w w1 l0) (hb : Below w1.heap.size w1 W) => (way_C hW hb hs).2
        rw [← hhw] at hcl
        clear hs hr0 hr1 hm hc hhw
        go_enter Try.func12, Try.ntmps12
        go_wp2_with (first | (go_at_call 28; (with_reducible refine hO.mono ?_); rintro e w1 ⟨rfl, hW⟩; have hM1 := hM _ hW.below; have hP1 := fun W hb => hP _ W hW hb; have hcl1 := fun W hb => hcl _ W hW hb; have HWW := Aside0.mk hW; clear hW) | (go_at_call 11; (with_reducible refine hM1.mono ?_); rintro e w2 ⟨rfl, hb⟩; have hP2 := hP1 _ hb; have HB := Aside0.mk hb; clear hb) | (go_at_call 29; (with_reducible refine hP2.mono ?_); rintro e w3 ⟨rfl, hb⟩; have hbb := HB.out.trans (hb.mono HB.out.size); have hc9 := hcl1 _ hbb; have HB3 := Aside0.mk hbb; clear hb hbb))
        go_ret2
        have hbW := HB3.out
        have hz := HWW.out.size
        exact ⟨_, rfl, way_S ((hbW.block _ (by omega)).trans HWW.out.row) (fun j hj => (hbW.block _ (by omega)).trans (HWW.out.bytes j hj)) (Nat.le_refl _) (fun _ _ _ => trivial) HS.out, HWW.out.below.trans (hbW.mono HWW.out.below.size)⟩
    · unfold pushB at h2
      rw [if_neg (fun hh => hm hh.1)] at h2
      simp only [Prod.mk.injEq] at h2
      obtain ⟨rfl, rfl⟩ := h2
      simp only [Bool.eq_false_iff.mpr hm] at hM
      have hcl := fun w1 W (hW : Way w w1 l0) (hb : Below w1.heap.size w1 W) => (way_C hW hb hs).2
      rw [← hhw] at hcl
      clear hs hr0 hr1 hm hhw
      go_enter Try.func12, Try.ntmps12
      go_wp2_with (first | (go_at_call 28; (with_reducible refine hO.mono ?_); rintro e w1 ⟨rfl, hW⟩; have hM1 := hM _ hW.below; have hcl1 := fun W hb => hcl _ W hW hb; have HWW := Aside0.mk hW; clear hW) | (go_at_call 11; (with_reducible refine hM1.mono ?_); rintro e w2 ⟨rfl, hb⟩; have hc9 := hcl1 _ hb; have HB := Aside0.mk hb; clear hb))
      go_ret2
      have hbW := HB.out
      have hz := HWW.out.size
      exact ⟨_, rfl, way_S ((hbW.block _ (by omega)).trans HWW.out.row) (fun j hj => (hbW.block _ (by omega)).trans (HWW.out.bytes j hj)) (Nat.le_refl _) (fun _ _ _ => trivial) HS.out, HWW.out.below.trans (hbW.mono HWW.out.below.size)⟩
  · cases h
end Go.Proofs.Ytnfgcjeenjomgaa.Given
