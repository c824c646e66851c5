/- Rows of packets, cell by cell: laws for make and copy that tell the block, and how a row of the call's own is made of what its cells are. -/
import Derived.Test.YtnfgcjeenjomgaaSx0
import Derived.Laws.CopyOwn
import Derived.OwnWalk
namespace Go.Proofs.Ytnfgcjeenjomgaa.Given
open Go.RowKit Go.Proofs.YtnfgcjeenjomgaaW.PrintWords Go.Proofs.YtnfgcjeenjomgaaW.PrintLast Go.Proofs.YtnfgcjeenjomgaaW.PrintMore Go.Proofs.Ytnfgcjeenjomgaa.S
set_option linter.unusedVariables false
set_option linter.unusedSimpArgs false
/-- Only what block g holds may be another. -/
structure But (w w' : World) (g : Nat) : Prop where
  os : w'.os = w.os
  tape : w'.tape = w.tape
  output : w'.output = w.output
  size : w'.heap.size = w.heap.size
  block : ∀ k, k ≠ g → w'.heap[k]? = w.heap[k]?
theorem But.refl (w : World) (g : Nat) : But w w g := ⟨rfl, rfl, rfl, rfl, fun _ _ => rfl⟩
theorem But.setRow (w : World) (g : Nat) (cs : Array Value) : But w (w.setRow g cs) g := ⟨rfl, rfl, rfl, by simp [World.setRow], fun k hk => setRow_other w g k cs hk⟩
theorem But.below {w w' : World} {g B : Nat} (h : But w w' g) (hB : B ≤ g) : Below B w w' := ⟨h.os, h.tape, h.output, by rw [h.size]; exact Nat.le_refl _, fun k hk => h.block k (by omega)⟩
theorem But.setCell (w : World) (g j : Nat) (v : Value) : But w (w.setCell ⟨g, j, none⟩ v) g := by
  have hb : Below 0 w (w.setCell ⟨g, j, none⟩ v) := (Below.refl 0 w).setCell (Nat.zero_le _) v
  refine ⟨hb.os, hb.tape, hb.output, ?_, fun k hk => Below.heap_setCell w _ v k hk⟩
  simp [World.setCell]
theorem set_block {w : World} {g j t : Nat} {cur : Array Value} (hg : w.heap[g]? = some (.cells cur t (0, 0))) (v : Value) (hv : v.oneCell' = true) (hj : j < cur.size) : (w.setCell ⟨g, j, none⟩ v).heap[g]? = some (.cells (cur.setIfInBounds j v) t (0, 0)) := by
  rw [setCell_eq_setRow w g j cur t (0, 0) v hg]
  exact setRow_heap w g cur _ t _ hg
theorem wpList_make_raw {P : Program} (w : World) {ops : Array Oper} {rest : List Oper} {o : Oper} {a : Act} {Q : Exit → Act → World → Prop}
    (hg : o.guard = none) (l c : Operand) (t : TypeId) (hop : o.op = Op.makeSlice t l c)
    (e : TypeId) (i : TypeInfo) (z : Value) (size : Nat) (h1 : P.underlying t = some (.slice e)) (h2 : P.info? e = some i) (h3 : i.zero = some z) (h4 : i.size = size)
    (n : Nat) (hl : a.eval l = .int .i64 n) (hc : a.eval c = .int .i64 n) (b2 : i.bytes * n ≤ 281474976710656) (b3 : n ≤ maxLen)
    (hK : ∀ w', w'.heap.size = w.heap.size + 1 → w'.heap[w.heap.size]? = some (.cells (madeCells z.cells (n * size)) e (0, 0)) → Below w.heap.size w w' → wpList P ops Q rest (a.put o.dst (.slice (some ⟨w.heap.size, 0, none⟩) n n)) w') :
    wpList P ops Q (o :: rest) a w := by
  refine wpList_plain hg fun K hK' => ?_
  subst h4
  have b2' : (i.bytes : Int) * (n : Int) ≤ 281474976710656 := by
    have h : ((i.bytes * n : Nat) : Int) ≤ 281474976710656 := by omega
    rwa [Int.natCast_mul] at h
  have b3' : (n : Int) ≤ 9223372036854775807 := by
    simp [maxLen] at b3
    omega
  have hrun := run_make (P := P) w t e i z h1 h2 h3 .i64 .i64 (n : Int) (n : Int) (by omega) (Int.le_refl _) b2' b3'
  simp only [Int.toNat_natCast] at hrun
  unfold Oper.wp
  simp [execOp, hop, hl, hc, hrun, Result.andThen]
  exact hK' _ _ (hK _ (by show (w.heap.push _).size = _; exact Array.size_push _) (by show (w.heap.push _)[w.heap.size]? = _; exact Array.getElem?_push_size) ((Below.refl _ _).alloc (Nat.le_refl _) _))
theorem run_copy_raw {P : Program} (w : World) (dT sT ty elem sz : Nat) (g n dCap sCap : Nat) (A : Option Addr) (cur : Array Value) (t : TypeId) (cs : List Value)
    (hu : P.underlying dT = some (.slice elem)) (hs : (P.info? elem).map (·.size) = some sz) (hg : w.heap[g]? = some (.cells cur t (0, 0))) (hcur : cur.size = n * sz) (hn : cs.length = n * sz)
    (hsrc : 0 < n → ∃ ad, A = some ad ∧ ∀ j v, cs[j]? = some v → w.cell? (ad.add j) = some v) (h1 : ∀ v ∈ cs, v.oneCell' = true) :
    (Builtin.copy_ #[dT, sT] ty #[.slice (some ⟨g, 0, none⟩) n dCap, .slice A n sCap]).run P w = .ok (goInt n) (w.setRow g cs.toArray) := by
  have hst := run_storeCells_at P g 0 t cs 0 cur w hg (by simp; omega) h1
  have hfull : (cur.toList.take (0 + 0) ++ cs ++ cur.toList.drop (0 + 0 + cs.length)).toArray = cs.toArray := by
    rw [List.drop_of_length_le (by simp; omega)]
    simp
  rw [hfull] at hst
  cases hq : P.info? elem with
  | none => simp [hq] at hs
  | some i =>
    have hi : i.size = sz := by simpa [hq] using hs
    subst hi
    rcases Nat.eq_zero_or_pos n with h0 | h0
    · subst h0
      obtain rfl : cs = [] := List.eq_nil_of_length_eq_zero (by omega)
      have hl : ∀ (x : Addr), (loadCells x 0).run P w = .ok #[] w := fun x => by simpa using run_loadCells_list (P := P) w x [] (by simp)
      cases A <;> simp [Builtin.copy_, run_underlying hu, Builtin.lenOf, Builtin.firstCells, sizeOf, typeInfo, hq, hl, hst]
    · obtain ⟨ad, rfl, hc⟩ := hsrc h0
      have hl := run_loadCells_list (P := P) w ad cs hc
      rw [hn] at hl
      simp [Builtin.copy_, run_underlying hu, Builtin.lenOf, Builtin.firstCells, sizeOf, typeInfo, hq, hl, hst]
theorem wpList_copy_raw {P : Program} (w : World) {ops : Array Oper} {rest : List Oper} {o : Oper} {a : Act} {Q : Exit → Act → World → Prop} (hgd : o.guard = none) (d s : Operand) (dT sT elem sz : Nat)
    (ho : o.op = .call { callee := .builtin .copy, args := #[d, s], argTypes := #[dT, sT] }) (hu : P.underlying dT = some (.slice elem)) (hsz : (P.info? elem).map (·.size) = some sz)
    (g n dCap sCap : Nat) (A : Option Addr) (hd : a.eval d = .slice (some ⟨g, 0, none⟩) n dCap) (hs : a.eval s = .slice A n sCap)
    (cur : Array Value) (t : TypeId) (hg : w.heap[g]? = some (.cells cur t (0, 0))) (hcur : cur.size = n * sz) (cs : List Value) (hn : cs.length = n * sz)
    (hsrc : 0 < n → ∃ ad, A = some ad ∧ ∀ j v, cs[j]? = some v → w.cell? (ad.add j) = some v) (h1 : ∀ v ∈ cs, v.oneCell' = true)
    (hK : ∀ w', But w w' g → w'.heap[g]? = some (.cells cs.toArray t (0, 0)) → wpList P ops Q rest (a.put o.dst (goInt n)) w') : wpList P ops Q (o :: rest) a w := by
  refine wpList_plain hgd fun K hK' => ?_
  have hrun := run_copy_raw (P := P) w dT sT o.type elem sz g n dCap sCap A cur t cs hu hsz hg hcur hn hsrc h1
  unfold Oper.wp
  simp [execOp, ho, resolve, invoke, builtin, hd, hs, hrun, Result.andThen]
  exact hK' _ _ (hK _ (But.setRow w g _) (setRow_heap w g cur _ t _ hg))
/-- The cells of packets. -/
def flat : List (Value × Bool) → List Value
  | [] => []
  | p :: t => p.1 :: .bool p.2 :: flat t
theorem flat_length : ∀ l : List (Value × Bool), (flat l).length = l.length * 2
  | [] => rfl
  | p :: t => by simp only [flat, List.length_cons, flat_length t]; omega
theorem flat_even : ∀ (l : List (Value × Bool)) (j : Nat) (h : j < l.length), (flat l)[j * 2]? = some l[j].1
  | p :: t, 0, _ => rfl
  | p :: t, j + 1, h => by
    rw [show (j + 1) * 2 = j * 2 + 2 by omega]
    show (flat t)[j * 2]? = _
    rw [flat_even t j (by simpa using h)]
    rfl
theorem flat_odd : ∀ (l : List (Value × Bool)) (j : Nat) (h : j < l.length), (flat l)[j * 2 + 1]? = some (.bool l[j].2)
  | p :: t, 0, _ => rfl
  | p :: t, j + 1, h => by
    rw [show (j + 1) * 2 + 1 = (j * 2 + 1) + 2 by omega]
    show (flat t)[j * 2 + 1]? = _
    rw [flat_odd t j (by simpa using h)]
    rfl
theorem flat_seg (l : List (Value × Bool)) (j : Nat) (h : j < l.length) : ((flat l).drop (j * 2)).take 2 = [l[j].1, .bool l[j].2] := by
  have hl := flat_length l
  apply List.ext_getElem?
  intro i
  rw [List.getElem?_take]
  by_cases hi : i < 2
  · rw [if_pos hi, List.getElem?_drop]
    have : i = 0 ∨ i = 1 := by omega
    rcases this with rfl | rfl
    · rw [Nat.add_zero, flat_even l j h]
      rfl
    · rw [flat_odd l j h]
      rfl
  · rw [if_neg hi, List.getElem?_eq_none (by simp; omega)]
theorem flat_set1 : ∀ (l : List (Value × Bool)) (j : Nat) (v : Value) (h : j < l.length), (flat l).set (j * 2) v = flat (l.set j (v, l[j].2))
  | p :: t, 0, v, _ => rfl
  | p :: t, j + 1, v, h => by
    rw [show (j + 1) * 2 = j * 2 + 1 + 1 by omega]
    simp only [flat, List.set_cons_succ]
    rw [flat_set1 t j v (by simpa using h)]
    rfl
theorem flat_set2 : ∀ (l : List (Value × Bool)) (j : Nat) (b : Bool) (h : j < l.length), (flat l).set (j * 2 + 1) (.bool b) = flat (l.set j (l[j].1, b))
  | p :: t, 0, v, _ => rfl
  | p :: t, j + 1, v, h => by
    rw [show (j + 1) * 2 + 1 = (j * 2 + 1) + 1 + 1 by omega]
    simp only [flat, List.set_cons_succ]
    rw [flat_set2 t j v (by simpa using h)]
    rfl
theorem flat_append (a b : List (Value × Bool)) : flat (a ++ b) = flat a ++ flat b := by
  induction a with
  | nil => rfl
  | cons p t ih => simp only [List.cons_append, flat, ih]
theorem flat_one (l : List (Value × Bool)) (h : ∀ p ∈ l, p.1.oneCell' = true) : ∀ v ∈ flat l, v.oneCell' = true := by
  induction l with
  | nil => intro v hv; cases hv
  | cons p t ih =>
    intro v hv
    simp only [flat, List.mem_cons] at hv
    rcases hv with rfl | rfl | hv
    · exact h p List.mem_cons_self
    · rfl
    · exact ih (fun q hq => h q (List.mem_cons_of_mem _ hq)) v hv
theorem flat_take (l : List (Value × Bool)) (n : Nat) : (flat l).take (n * 2) = flat (l.take n) := by
  induction l generalizing n with
  | nil => simp [flat]
  | cons p t ih =>
    cases n with
    | zero => rfl
    | succ n =>
      rw [show (n + 1) * 2 = n * 2 + 1 + 1 by omega]
      simp only [flat, List.take_succ_cons]
      rw [ih n]
/-- What a row that is read is made of. -/
theorem src_rows {w : World} {A : Option Addr} {l : List S29} (h : Kd.C k29 w A l.length l) : ∃ rows : List (Value × Bool), rows.length = l.length ∧ (0 < l.length → ∃ ad, A = some ad ∧ ∀ j v, (flat rows)[j]? = some v → w.cell? (ad.add j) = some v) ∧
    ∀ j (h1 : j < rows.length) (h2 : j < l.length), ∃ Aj cj, rows[j] = (.slice Aj l[j].f0.length cj, l[j].f1) ∧ l[j].f0.length ≤ cj ∧ Kd.C (Kd.int .u8) w Aj l[j].f0.length l[j].f0 := by
  have hg : ∀ i : Fin l.length, ∃ p : Value × Bool, (∃ Aj cj, p = (.slice Aj l[i.val].f0.length cj, l[i.val].f1) ∧ l[i.val].f0.length ≤ cj ∧ Kd.C (Kd.int .u8) w Aj l[i.val].f0.length l[i.val].f0) ∧
      ∀ ad, A = some ad → w.cell? (ad.add (i.val * 2)) = some p.1 ∧ w.cell? (ad.add (i.val * 2 + 1)) = some (.bool p.2) := by
    intro i
    have hrd : rd_T29 l (i.val : Int) = l[i.val] := by unfold rd_T29; simp [List.getD_eq_getElem?_getD]
    obtain ⟨ad, A0, c0, e, hx0, hx1, hle, hC⟩ := at_T29 h (i.val : Int) (by omega) (by have := i.isLt; omega)
    rw [hrd] at hx0 hx1 hle hC
    rw [Int.toNat_natCast] at hx0 hx1
    refine ⟨(.slice A0 l[i.val].f0.length c0, l[i.val].f1), ⟨A0, c0, rfl, hle, hC⟩, fun ad' he => ?_⟩
    rw [e] at he
    obtain rfl := Option.some.inj he
    exact ⟨hx0, by rw [add_field _ _ 1 (by omega)]; exact hx1⟩
  classical
  let f : Fin l.length → Value × Bool := fun i => Classical.choose (hg i)
  have hf := fun i => Classical.choose_spec (hg i)
  refine ⟨List.ofFn f, List.length_ofFn, fun hp => ?_, ?_⟩
  · obtain ⟨ad, A0, c0, e, _⟩ := at_T29 h 0 (by omega) (by omega)
    refine ⟨ad, e, fun j v hv => ?_⟩
    have hlen : (List.ofFn f).length = l.length := List.length_ofFn
    have hj : j < l.length * 2 := by
      have := (List.getElem?_eq_some_iff.1 hv).1
      rw [flat_length, hlen] at this
      exact this
    rcases Nat.mod_two_eq_zero_or_one j with hm | hm
    · obtain ⟨q, rfl⟩ : ∃ q, j = q * 2 := ⟨j / 2, by omega⟩
      obtain ⟨c1, c2⟩ := (hf ⟨q, by omega⟩).2 ad e
      rw [flat_even _ _ (by rw [hlen]; omega), List.getElem_ofFn] at hv
      rw [← Option.some.inj hv]
      exact c1
    · obtain ⟨q, rfl⟩ : ∃ q, j = q * 2 + 1 := ⟨j / 2, by omega⟩
      obtain ⟨c1, c2⟩ := (hf ⟨q, by omega⟩).2 ad e
      rw [flat_odd _ _ (by rw [hlen]; omega), List.getElem_ofFn] at hv
      rw [← Option.some.inj hv]
      exact c2
  · intro j h1 h2
    obtain ⟨Aj, cj, e, a, b⟩ := (hf ⟨j, h2⟩).1
    exact ⟨Aj, cj, by rw [List.getElem_ofFn]; exact e, a, b⟩
/-- A row of packets of the call's own, each of which has bytes of its own. -/
theorem S_mk {w : World} {base g cap : Nat} {ok : Nat → Prop} {rows : List (Value × Bool)} {xs : List S29} (f : Nat → Nat) (hlen : rows.length = xs.length) (hown : w.ownsRow base 29 2 (.slice (some ⟨g, 0, none⟩) xs.length cap) xs.length (flat rows)) (hokg : ok g)
    (hel : ∀ j (h1 : j < rows.length) (h2 : j < xs.length), Kd.R (Kd.int .u8) 5 w base (fun k => (ok k ∧ k ≠ g) ∧ f k = j) rows[j].1 xs[j].f0 ∧ rows[j].2 = xs[j].f1) : Kd.S k29 29 w base ok (.slice (some ⟨g, 0, none⟩) xs.length cap) xs := by
  refine ⟨f, fun k hk => ?_, flat rows, ?_, ?_, ?_⟩
  · have : g = k := by simpa [Value.ownBlock] using hk
    rw [← this]
    exact hokg
  · rw [List.length_zipIdx]
    exact hown
  · rw [flat_length, List.length_zipIdx, hlen]
    rfl
  · intro j p hp
    obtain ⟨hj, hjp⟩ := List.getElem?_eq_some_iff.mp hp
    rw [List.length_zipIdx] at hj
    rw [List.getElem_zipIdx, Nat.zero_add] at hjp
    subst hjp
    obtain ⟨hR, hb⟩ := hel j (by omega) hj
    show k29.M w base _ xs[j] (((flat rows).drop (j * 2)).take 2)
    rw [flat_seg rows j (by omega), hb]
    refine k29_mkM w base _ xs[j] (Kd.R_mono hR (fun k hk => ⟨⟨hk.1.1, ?_⟩, hk.2⟩))
    intro he
    exact hk.1.2 (by simpa [Value.ownBlock] using he)
end Go.Proofs.Ytnfgcjeenjomgaa.Given
