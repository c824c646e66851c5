/- The iterator's contract, for every loop body that keeps a set of blocks. -/
import Derived.Test.YtenpchgnjhmaaaaGIter
namespace Go.Proofs.Ytenpchgnjhmaaaa.Given
open Go.RowKit Go.Shelf Go.Proofs.YtenpchgnjhmaaaaW.PrintWords Go.Proofs.YtenpchgnjhmaaaaW.PrintLast Go.Proofs.YtenpchgnjhmaaaaW.PrintMore Go.Proofs.Ytenpchgnjhmaaaa.S
attribute [local go_sem] Oper.semAt_some
set_option linter.unusedVariables false
set_option linter.unusedSimpArgs false
/-- The blocks of a set stay as they lie. -/
structure KeptOn (Q : Nat → Prop) (W W' : World) : Prop where
  size : W.heap.size ≤ W'.heap.size
  block : ∀ b, Q b → b < W.heap.size → W'.heap[b]? = W.heap[b]?
theorem KeptOn.refl (Q : Nat → Prop) (W : World) : KeptOn Q W W := ⟨Nat.le_refl _, fun _ _ _ => rfl⟩
theorem KeptOn.trans {Q : Nat → Prop} {A B C : World} (h : KeptOn Q A B) (k : KeptOn Q B C) : KeptOn Q A C :=
  ⟨Nat.le_trans h.size k.size, fun b hb hl => (k.block b hb (Nat.lt_of_lt_of_le hl h.size)).trans (h.block b hb hl)⟩
theorem KeptOn.cell {Q : Nat → Prop} {A B : World} (h : KeptOn Q A B) {p : Addr} (hQ : Q p.block) {v : Value} (hv : A.cell? p = some v) : B.cell? p = some v := by
  have hl := World.block_lt_of_cell? A p hv
  rw [← hv]
  unfold World.cell?
  rw [h.block _ hQ hl]
theorem KeptOn.grown {Q : Nat → Prop} {A B C : World} (h : KeptOn Q A B) {row : Option Nat} (hg : B.grownBy C row) (hr : ∀ k, row = some k → ¬ Q k ∨ B.heap.size ≤ k) : KeptOn Q A C :=
  ⟨Nat.le_trans h.size hg.size, fun b hb hl => (hg.block b (Nat.lt_of_lt_of_le hl h.size) (fun e => by
    rcases hr b e.symm with h' | h'
    · exact h' hb
    · have := Nat.lt_of_lt_of_le hl h.size
      omega)).trans (h.block b hb hl)⟩
theorem KeptOn.alloc {Q : Nat → Prop} {A B : World} (h : KeptOn Q A B) (o : Obj) : KeptOn Q A (B.alloc o) := h.grown (World.grownBy_alloc B o none) (fun k e => by cases e)
theorem KeptOn.setCell {Q : Nat → Prop} {A B : World} (h : KeptOn Q A B) {p : Addr} (hp : ¬ Q p.block) (v : Value) : KeptOn Q A (B.setCell p v) :=
  ⟨by simpa using h.size, fun b hb hl => (Below.heap_setCell B p v b (fun e => hp (e ▸ hb))).trans (h.block b hb hl)⟩
theorem KeptOn.below {Q : Nat → Prop} {A B C : World} (h : KeptOn Q A B) (hb : Below B.heap.size B C) : KeptOn Q A C :=
  ⟨Nat.le_trans h.size hb.size, fun b hq hl => (hb.block b (Nat.lt_of_lt_of_le hl h.size)).trans (h.block b hq hl)⟩
set_option maxRecDepth 100000 in
set_option maxHeartbeats 2000000 in
theorem counting2_in (n : Nat) (hn : 1 ≤ n) (l Bl Ba : Nat) (Q : Nat → Prop) (span high at_ : Int) (A : Option Addr) (cap : Nat) (xs : List S38) (J Jx : List S38 → World → Prop) (hBl : Q Bl) (hBa : Q Ba)
    (W : World) (hJ : AbidesFrom W.heap.size J)
    (hY : ∀ pre x W, J pre W → pre.length < xs.length → YieldAt Fence.wide (n - 1) Try.prog l #[enc38 x] W fun e W' =>
      (e = .returned (.bool true) ∧ J (pre ++ [x]) W' ∧ KeptOn Q W W') ∨ (e = .returned (.bool false) ∧ Jx (pre ++ [x]) W'))
    (h1 : W.cell? ⟨Bl, 0, none⟩ = some (.int .i64 span)) (h2 : W.cell? ⟨Bl, 1, none⟩ = some (.slice A xs.length cap)) (h3 : W.cell? ⟨Ba, 0, none⟩ = some (.int .i64 at_)) (hL : k38.C W A xs.length xs) (hAb : ∀ ad, A = some ad → 0 < xs.length → Q ad.block) (h0 : J [] W) :
    CallsIn Fence.wide n Try.prog 20 #[.func (.yield l) #[] #[], .pointer (some ⟨Bl, 0, none⟩), .pointer (some ⟨Ba, 0, none⟩)] W fun e W' => (∃ v, e = .returned v) ∧
      ((∃ ys, ys = cntL span at_ xs ∧ J ys W') ∨ (∃ pre, pre <+: cntL span at_ xs ∧ Jx pre W')) := by
  refine callsIn_of_wp Try.func20 rfl trivial ?_ rfl
  simp only [Try.ntmps20, List.size_toArray, List.length_cons, List.length_nil, Nat.reduceAdd, Nat.reduceSub, Array.replicate_succ, Array.replicate_zero, List.push_toArray, List.append_toArray, List.nil_append, List.cons_append]
  refine wpIn_scope_wide ?_
  have hlen : xs.length ≤ 9223372036854775807 := hL.2.1
  gi_wp2
  refine wpIn_label ?_
  gi_wp2
  gi_loopw [9] (fun i wr => ∃ k : Nat, k ≤ xs.length ∧ i = .int .i64 k ∧ Aside0 (J (cntL span at_ (xs.take k)) wr) ∧ Aside0 (KeptOn Q W wr)) (fun i _ => xs.length - (intOf i).toNat)
  case atStart => exact ⟨0, Nat.zero_le _, rfl, ⟨h0⟩, ⟨KeptOn.refl _ _⟩⟩
  case round =>
    obtain ⟨k, hk, rfl, hJs, hnx⟩ := hrel
    by_cases hlt : k < xs.length
    · obtain ⟨ad, rfl, hp0, hp1⟩ := at_T38 hL (k : Int) (by omega) (by omega)
      have hp : rd_T38 xs (k : Int) = xs[k] := by unfold rd_T38; simp [List.getD_eq_getElem?_getD, hlt]
      rw [Int.toNat_natCast] at hp0 hp1
      have hblk : Q ad.block := hAb ad rfl (by omega)
      have hadd : (ad.add (k * 2)).block = ad.block := by unfold Addr.add; split <;> rfl
      have hq0 := hnx.out.cell (p := ad.add (k * 2)) (by rw [hadd]; exact hblk) hp0
      have hq1 := hnx.out.cell (p := ⟨(ad.add (k * 2)).block, (ad.add (k * 2)).off + 1, none⟩) (by show Q (ad.add (k * 2)).block; rw [hadd]; exact hblk) hp1
      have hb1 := hnx.out.cell (p := ⟨Bl, 0, none⟩) hBl h1
      have hb3 := hnx.out.cell (p := ⟨Ba, 0, none⟩) hBa h3
      have hlen2 : wr.heap.size ≠ Bl ∧ wr.heap.size ≠ Ba := by
        have e1 := World.block_lt_of_cell? wr ⟨Bl, 0, none⟩ hb1
        have e2 := World.block_lt_of_cell? wr ⟨Ba, 0, none⟩ hb3
        simp only at e1 e2
        omega
      have HP := Aside0.mk hp
      clear hp hp0 hp1 hadd
      generalize rd_T38 xs (k : Int) = x at *
      have hBW : Below wr.heap.size wr (wr.alloc (.cells #[.int .i64 x.f0, .int .i64 x.f1] 38)) := (Below.refl _ wr).alloc (Nat.le_refl _) _
      have hb1' := (hBW.cell (World.block_lt_of_cell? wr _ hb1)).trans hb1
      have hb3' := (hBW.cell (World.block_lt_of_cell? wr _ hb3)).trans hb3
      have hJ1 := Aside0.mk (hJ _ wr (wr.alloc (.cells #[.int .i64 x.f0, .int .i64 x.f1] 38)) none hJs.out (World.grownBy_alloc wr _ none) (fun r e => by cases e))
      have hB1 := Aside0.mk (hnx.out.alloc (.cells #[.int .i64 x.f0, .int .i64 x.f1] 38))
      have hstep : Aside0 (cntL span at_ (xs.take (k + 1)) = if span < wrap64 (at_ - x.f0) then cntL span at_ (xs.take k) else cntL span at_ (xs.take k) ++ [x]) := by
        refine ⟨?_⟩
        rw [List.take_succ_eq_append_getElem hlt, ← HP.out]
        unfold cntL
        rw [List.filter_append]
        by_cases c : span < wrap64 (at_ - x.f0) <;> simp [cnts, c]
      have hcl : Aside0 ((cntL span at_ (xs.take k)).length < xs.length) := ⟨by
        have := List.length_filter_le (cnts span at_) (xs.take k)
        unfold cntL
        rw [List.length_take] at this
        omega⟩
      clear hBW hlen2
      by_cases c : span < wrap64 (at_ - x.f0)
      · have cd : decide (span < wrap64 (at_ - x.f0)) = true := decide_eq_true c
        have HS : Aside0 (cntL span at_ (xs.take (k + 1)) = cntL span at_ (xs.take k)) := ⟨by rw [hstep.out, if_pos c]⟩
        clear c hstep
        gi_wp2
        go_roundw
        case rel => exact ⟨k + 1, by omega, by go_num, ⟨by rw [HS.out]; exact hJ1.out⟩, hB1⟩
        case measure => simp [intOf]; omega
      · have cd : decide (span < wrap64 (at_ - x.f0)) = false := decide_eq_false c
        have HS : Aside0 (cntL span at_ (xs.take (k + 1)) = cntL span at_ (xs.take k) ++ [x]) := ⟨by rw [hstep.out, if_neg c]⟩
        clear c hstep
        obtain ⟨fn, tmps, assign, body, hy, hR⟩ := hY _ x _ hJ1.out hcl.out
        unfold enc38 at hy
        gi_wp2
        refine hR.mono ?_
        rintro e W3 (⟨rfl, hJ3, hk3⟩ | ⟨rfl, hJx3⟩)
        · have HJ3 := Aside0.mk hJ3
          have HK3 := Aside0.mk hk3
          clear hJ3 hk3
          gi_wp2
          go_roundw
          case rel => exact ⟨k + 1, by omega, by go_num, ⟨by rw [HS.out]; exact HJ3.out⟩, ⟨hB1.out.trans HK3.out⟩⟩
          case measure => simp [intOf]; omega
        · have HJ3 := Aside0.mk hJx3
          clear hJx3
          gi_wp2
          rw [Exit.noGoto_ret]
          refine bodyPost_ret (results_none rfl _ _ _) rfl ?_
          refine ⟨⟨_, rfl⟩, .inr ⟨_, ?_, HJ3.out⟩⟩
          rw [← HS.out]
          exact (List.take_prefix (k + 1) xs).filter _
    · obtain rfl : k = xs.length := by omega
      gi_wp2
      rw [Exit.noGoto_normal]
      go_end0
      refine ⟨⟨_, rfl⟩, .inl ⟨_, rfl, ?_⟩⟩
      have := hJs.out
      rwa [List.take_length] at this
end Go.Proofs.Ytenpchgnjhmaaaa.Given
