/- The walk of least.Met where it adds: the loop, the append, the cut. PRINTED BY gen09met.py -/
import Derived.Test.YtenpchgnjhmaaaaGMetB
import Derived.Test.YtenpchgnjhmaaaaGIterB
namespace Go.Proofs.Ytenpchgnjhmaaaa.Given
open Go.RowKit Go.Shelf Go.Proofs.YtenpchgnjhmaaaaW.PrintWords Go.Proofs.YtenpchgnjhmaaaaW.PrintLast Go.Proofs.YtenpchgnjhmaaaaW.PrintMore Go.Proofs.Ytenpchgnjhmaaaa.S
attribute [local go_sem] Oper.semAt_some
set_option linter.unusedVariables false
set_option linter.unusedSimpArgs false
def flat38 (xs : List S38) : List Value := xs.flatMap (fun p => [.int .i64 p.f0, .int .i64 p.f1])
theorem flat38_snoc (xs : List S38) (p : S38) : flat38 (xs ++ [p]) = flat38 xs ++ [.int .i64 p.f0, .int .i64 p.f1] := by simp [flat38]
theorem flat38_reps (w : World) (base : Nat) (ok : Nat → Prop) (xs : List S38) : Reps (k38.M w base ok) 2 xs (flat38 xs) := by
  have key : ∀ m, m ≤ xs.length → Reps (k38.M w base ok) 2 (xs.take m) (flat38 (xs.take m)) := by
    intro m
    induction m with
    | zero => exact fun _ => Reps.none _ _
    | succ m ih =>
      intro hm
      rw [List.take_succ_eq_append_getElem (by omega), flat38_snoc]
      exact (ih (by omega)).snoc (k38_mkM _ _ _ _) rfl
  have := key xs.length (Nat.le_refl _)
  rwa [List.take_length] at this
theorem own38_R {W : World} {base : Nat} {v : Value} {xs : List S38} (h : W.ownsRow base 38 2 v xs.length (flat38 xs)) : Kd.R k38 38 W base (fun _ => True) v xs := ⟨fun _ _ => trivial, _, h, flat38_reps _ _ _ _⟩
theorem own38_lt {W : World} {base B k : Nat} {v : Value} {xs : List Value} (h : W.ownsRow base 38 2 v k xs) (hB : B < base) : some B ≠ v.ownBlock := fun e => by
  have := own_base h B e.symm
  omega
theorem own38_cells {W : World} {base B k : Nat} {v : Value} {xs : List Value} (h : W.ownsRow base 38 2 v k xs) (e : v.ownBlock = some B) {o : Obj} (ho : W.heap[B]? = some o) : o.isCells = true := by
  rcases h.2 with ⟨rfl, _⟩ | ⟨g, cap, cur, rfl, hb, hg, _⟩
  · simp [Value.ownBlock] at e
  · obtain rfl : g = B := by simpa [Value.ownBlock] using e
    rw [hg] at ho; cases ho; rfl
theorem own38_cap {W : World} {base g k cap : Nat} {xs : List Value} (h : W.ownsRow base 38 2 (.slice (some ⟨g, 0, none⟩) k cap) k xs) : k ≤ cap := by
  rcases h.2 with ⟨h, _⟩ | ⟨g2, cap2, cur, e, hb, hg, hc, _⟩
  · cases h
  · cases e
    exact hc
/-- 'append(s, p)' at points, within a fence. -/
theorem app38 {F : Fence} {n : Nat} (W : World) {ops : Array Oper} {rest : List Oper} {o : Oper} {a : Act} {Q : Exit → Act → World → Prop} (hg : o.guard = none) (s x : Operand) (hop : o.op = Op.call { callee := Callee.builtin Builtin.append, args := #[s, x], argTypes := #[22, 22] })
    (base : Nat) (v : Value) (xs : List S38) (hs : a.eval s = v) (hown : W.ownsRow base 38 2 v xs.length (flat38 xs)) (g : Nat) (p : S38) (hx : a.eval x = .slice (some ⟨g, 0, none⟩) 1 1) (hp : W.heap[g]? = some (.cells #[.int .i64 p.f0, .int .i64 p.f1] 38)) (hl : xs.length ≤ 200) (hb : base ≤ W.heap.size)
    (hK : ∀ g' cap w', w'.ownsRow base 38 2 (.slice (some ⟨g', 0, none⟩) (xs.length + 1) cap) (xs.length + 1) (flat38 (xs ++ [p])) → W.grownBy w' v.ownBlock → wpListIn F n Try.prog ops Q rest (a.put o.dst (.slice (some ⟨g', 0, none⟩) (xs.length + 1) cap)) w') :
    wpListIn F n Try.prog ops Q (o :: rest) a W := by
  obtain ⟨i, hi, he⟩ := Option.map_eq_some_iff.1 info38
  obtain ⟨i1, i2⟩ := Prod.mk.inj he
  obtain ⟨i2, i3⟩ := Prod.mk.inj i2
  refine wpListIn_append_own W hg s x 22 hop base 38 i (.agg #[.int .i64 0, .int .i64 0]) 2 16 Try.underlying22 hi i1 i2 i3 rfl (by decide) v xs.length (flat38 xs) hs hown ⟨g, 0, none⟩ 1 1 [.int .i64 p.f0, .int .i64 p.f1] hx rfl ?_ ?_ (by simp [maxLen]; omega) (by omega) hb ?_
  · intro j u hj
    have e := gblk_cell hp j
    have h0 : (Addr.add ⟨g, 0, none⟩ j) = ⟨g, j, none⟩ := by simp only [Addr.add]; split <;> simp_all
    rw [h0, e]
    simpa using hj
  · intro u hu
    simp only [List.mem_cons, List.not_mem_nil, or_false] at hu
    rcases hu with rfl | rfl <;> rfl
  · intro v' w' ho hgr _
    obtain ⟨g', cap, rfl⟩ := ownsRow_succ ho
    exact hK g' cap w' (by rw [flat38_snoc]; exact ho) hgr
theorem own38_set {W : World} {base B k j : Nat} {v : Value} {xs : List Value} (h : W.ownsRow base 38 2 v k xs) (hB : B < base) (u : Value) : (W.setCell ⟨B, j, none⟩ u).ownsRow base 38 2 v k xs := by
  refine h.kept (row := some B) ⟨rfl, rfl, rfl, by simp, fun k _ hk' => Below.heap_setCell _ _ _ k (fun e => hk' (by rw [e]))⟩ (.inr ?_)
  exact (own38_lt h hB).symm
/-- The cut and the copy behind it. -/
theorem clone_part (V : World) (base g m k cap : Nat) (xs : List S38) (hk : xs.length = k) (hm : m = min k 100) (hl : xs.length ≤ 200) (hc : k ≤ cap) (ho : V.ownsRow base 38 2 (.slice (some ⟨g, 0, none⟩) k cap) k (flat38 xs)) :
    CallsIn Fence.wide 8 Try.prog 19 #[.slice (some ⟨g, 0, none⟩) m cap] V fun e w' => ∃ v0_ : Value, e = .returned v0_ ∧ Kd.R k38 38 w' V.heap.size (fun _ => True) v0_ (xs.take 100) ∧ Below V.heap.size V w' := by
  subst hk
  have hr := Kd.R_take (own38_R ho) (show m ≤ xs.length by omega)
  obtain ⟨h1, h2, h3⟩ := Kd.R_reads' hr
  have h4 : xs.take m = xs.take 100 := by
    rw [hm]
    rcases Nat.le_total xs.length 100 with h | h
    · rw [Nat.min_eq_left h, List.take_length, List.take_of_length_le h]
    · rw [Nat.min_eq_right h]
  rw [h4] at h1 h3
  subst h1
  exact callsIn_wide.2 (api_Point.calls (some ⟨g, 0, none⟩) cap (xs.take 100) (xs.take 100) V h3 h2 (by unfold api_Point.f; rw [if_pos (by rw [List.length_take]; omega)]))
/-- What the loop keeps. -/
structure Inv38 (w W0 : World) (Bo : Nat) (span high n : Int) (pre : List S38) (W : World) : Prop where
  out : ∃ v, W.heap[Bo]? = some (.cells #[.int .i64 span, v, .int .i64 high] 24) ∧ W.ownsRow W0.heap.size 38 2 v (pre.filter (fun p => decide (p.f1 < n))).length (flat38 (pre.filter (fun p => decide (p.f1 < n))))
  rest : ∀ b, b < W0.heap.size → b ≠ Bo → W.heap[b]? = W0.heap[b]?
  size : W0.heap.size ≤ W.heap.size
  below : Below w.heap.size w W
theorem Inv38.grown {w W0 W W' : World} {Bo : Nat} {span high n : Int} {pre : List S38} {row : Option Nat} (h : Inv38 w W0 Bo span high n pre W) (hBo : Bo < W0.heap.size) (hw : w.heap.size ≤ W0.heap.size) (hg : W.grownBy W' row) (hr : ∀ r, row = some r → W0.heap.size ≤ r ∧ ∃ o : Obj, W.heap[r]? = some o ∧ o.isCells = false) : Inv38 w W0 Bo span high n pre W' := by
  obtain ⟨⟨v, h1, h2⟩, h3, h4, h5⟩ := h
  refine ⟨⟨v, gblk_kept h1 hg hr, h2.kept hg ?_⟩, fun b hb hne => ?_, Nat.le_trans h4 hg.size, h5.grown hg (by omega) (fun k e => Nat.le_trans hw (hr k e).1)⟩
  · by_cases c : v.ownBlock = none
    · exact .inl c
    · refine .inr (fun e => ?_)
      obtain ⟨r, hrr⟩ := Option.ne_none_iff_exists'.1 c
      obtain ⟨_, o, ho, hc⟩ := hr r (e ▸ hrr)
      rw [own38_cells h2 hrr ho] at hc
      cases hc
  · exact (hg.block b (by omega) (fun e => by have := (hr b e.symm).1; omega)).trans (h3 b hb hne)
theorem Inv38.alloc {w W0 W : World} {Bo : Nat} {span high n : Int} {pre : List S38} (h : Inv38 w W0 Bo span high n pre W) (hBo : Bo < W0.heap.size) (hw : w.heap.size ≤ W0.heap.size) (o : Obj) : Inv38 w W0 Bo span high n pre (W.alloc o) := h.grown hBo hw (World.grownBy_alloc W o none) (fun r e => by cases e)
/-- The store behind the append. -/
theorem Inv38.step {w W0 W W' : World} {Bo : Nat} {span high n : Int} {pre : List S38} {p : S38} {v : Value} {g' cap : Nat} {o : Obj} (h : Inv38 w W0 Bo span high n pre W) (hBo : Bo < W0.heap.size) (hw : w.heap.size ≤ W0.heap.size) (hwB : w.heap.size ≤ Bo)
    (hv : W.heap[Bo]? = some (.cells #[.int .i64 span, v, .int .i64 high] 24)) (hpn : decide (p.f1 < n) = true) (hown : W'.ownsRow W0.heap.size 38 2 (.slice (some ⟨g', 0, none⟩) ((pre.filter (fun p => decide (p.f1 < n))).length + 1) cap) ((pre.filter (fun p => decide (p.f1 < n))).length + 1) (flat38 (pre.filter (fun p => decide (p.f1 < n)) ++ [p]))) (hg : (W.alloc o).grownBy W' v.ownBlock) :
    Inv38 w W0 Bo span high n (pre ++ [p]) (W'.setCell ⟨Bo, 1, none⟩ (.slice (some ⟨g', 0, none⟩) ((pre.filter (fun p => decide (p.f1 < n))).length + 1) cap)) ∧ KeepsOthers W (W'.setCell ⟨Bo, 1, none⟩ (.slice (some ⟨g', 0, none⟩) ((pre.filter (fun p => decide (p.f1 < n))).length + 1) cap)) := by
  obtain ⟨⟨v0, h1, h2⟩, h3, h4, h5⟩ := h
  obtain rfl : v = v0 := by rw [h1] at hv; simp at hv; exact hv.symm
  have hk : W'.heap[Bo]? = some (.cells #[.int .i64 span, v, .int .i64 high] 24) := (hg.block Bo (by simp; omega) (own38_lt h2 hBo)).trans (gblk_alloc h1 o)
  have hlen : (pre ++ [p]).filter (fun p => decide (p.f1 < n)) = pre.filter (fun p => decide (p.f1 < n)) ++ [p] := by have hp' : p.f1 < n := of_decide_eq_true hpn; rw [List.filter_append]; simp [hp']
  refine ⟨⟨⟨_, gblk_set hk 1 _, ?_⟩, fun b hb hne => ?_, ?_, ?_⟩, ?_⟩
  · rw [hlen, List.length_append]
    refine hown.kept (row := some Bo) ⟨rfl, rfl, rfl, by simp, fun k _ hk' => Below.heap_setCell _ _ _ k (fun e => hk' (by rw [e]))⟩ (.inr ?_)
    exact (own38_lt hown hBo).symm
  · exact (Below.heap_setCell _ _ _ b hne).trans ((hg.block b (by simp; omega) (own38_lt h2 hb)).trans ((World.grownBy_alloc W o none).block b (by omega) (by simp) |>.trans (h3 b hb hne)))
  · have := hg.size
    simp at this ⊢
    omega
  · exact ((h5.alloc (by omega) o).grown hg (by simp; omega) (fun k e => Nat.le_trans hw (own_base h2 k e))).setCell (p := ⟨Bo, 1, none⟩) hwB _
  · refine ((KeepsOthers.alloc W o).trans (KeepsOthers.of_grownBy hg fun j o' ej hj => ?_)).trans (KeepsOthers.setCell _ _ _)
    exact own38_cells (h2.kept (World.grownBy_alloc W o none) (by by_cases c : v.ownBlock = none; exact .inl c; exact .inr c)) ej hj
theorem wpIn_name {c : Code} {F : Fence} {n : Nat} {P : Program} {Q : Exit → Act → World → Prop} {a : Act} {w : World} (h : ∀ a0, a0 = a → c.wpIn F n P Q a0 w) : c.wpIn F n P Q a w := h a rfl
theorem counting_stopsB (n : Nat) (hn : 1 ≤ n) (Bl Ba : Nat) (Q : Nat → Prop) (span high at_ : Int) (A : Option Addr) (cap : Nat) (xs : List S38) (w : World) (hBl : Q Bl) (hBa : Q Ba)
    (h1 : w.cell? ⟨Bl, 0, none⟩ = some (.int .i64 span)) (h2 : w.cell? ⟨Bl, 1, none⟩ = some (.slice A xs.length cap)) (h3 : w.cell? ⟨Ba, 0, none⟩ = some (.int .i64 at_)) (hL : k38.C w A xs.length xs) (hAb : ∀ ad, A = some ad → 0 < xs.length → Q ad.block) :
    SeqStopsK Fence.wide n Try.prog 20 #[.pointer (some ⟨Bl, 0, none⟩), .pointer (some ⟨Ba, 0, none⟩)] (fun x : S38 => #[enc38 x]) (KeptOn Q) (fun ys => ys = cntL span at_ xs) (fun pre => pre <+: cntL span at_ xs) xs.length w := by
  intro l J Jx W hW hJ _ hY h0
  have hB := fun b hb => hW.cell (p := b) hb
  exact counting2_in n hn l Bl Ba Q span high at_ A cap xs J Jx hBl hBa W hJ hY ((hB _ (World.block_lt_of_cell? w _ h1)).trans h1) ((hB _ (World.block_lt_of_cell? w _ h2)).trans h2) ((hB _ (World.block_lt_of_cell? w _ h3)).trans h3) (Kd.C_below hL hW) hAb h0
end Go.Proofs.Ytenpchgnjhmaaaa.Given
