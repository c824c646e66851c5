/- The iterator of the points that count at a time: what it hands on, for every loop body that keeps what lay below a bound. -/
import Derived.RangeFuncNested
import Derived.RangeFuncBound
import Derived.RangeFuncCalls
import Derived.RangeFuncLeaves
import Derived.RangeFuncBox
import Derived.Shelf.Abstract
import Derived.WalkKit
import Derived.OwnWalkIn
import Derived.TacticsInMore
import Derived.LoopNIn
import Derived.LoopIn
import Derived.Maps.AppendAt
import Derived.Scope
import Derived.WalkMore
import Derived.Outline
import Derived.Test.YtenpchgnjhmaaaaSx0
namespace Go.Proofs.Ytenpchgnjhmaaaa.Given
open Go.RowKit Go.Shelf Go.Proofs.YtenpchgnjhmaaaaW.PrintWords Go.Proofs.YtenpchgnjhmaaaaW.PrintLast Go.Proofs.YtenpchgnjhmaaaaW.PrintMore Go.Proofs.Ytenpchgnjhmaaaa.S
attribute [local go_sem] Oper.semAt_some
set_option linter.unusedVariables false
set_option linter.unusedSimpArgs false

theorem wpIn_scope_wide {n : Nat} {P : Program} {Q : Exit → Act → World → Prop} {a : Act} {w : World} {c : Code} (h : c.wpIn Fence.wide n P (Exit.noGoto Q) a w) : (Code.scope c).wpIn Fence.wide n P Q a w :=
  wpIn_wide.2 (wp_scope_straight (wpIn_wide.1 h))

/-- Does a point count at a time? -/
def cnts (span at_ : Int) (p : S38) : Bool := !decide (span < wrap64 (at_ - p.f0))
def cntL (span at_ : Int) (l : List S38) : List S38 := l.filter (cnts span at_)
def enc38 (x : S38) : Value := .agg #[.int .i64 x.f0, .int .i64 x.f1]

set_option maxRecDepth 100000 in
set_option maxHeartbeats 2000000 in
theorem counting1_in (n : Nat) (hn : 1 ≤ n) (l Bl Ba n₀ : Nat) (span high at_ : Int) (A : Option Addr) (cap : Nat) (xs : List S38) (J Jx : List S38 → World → Prop) (hBl : Bl < n₀) (hBa : Ba < n₀)
    (W : World) (hJ : AbidesFrom W.heap.size J) (hn0 : n₀ ≤ W.heap.size)
    (hY : ∀ pre x W, J pre W → pre.length < xs.length → YieldAt Fence.wide (n - 1) Try.prog l #[enc38 x] W fun e W' =>
      (e = .returned (.bool true) ∧ J (pre ++ [x]) W' ∧ Below n₀ W W') ∨ (e = .returned (.bool false) ∧ Jx (pre ++ [x]) W'))
    (h1 : W.cell? ⟨Bl, 0, none⟩ = some (.int .i64 span)) (h2 : W.cell? ⟨Bl, 1, none⟩ = some (.slice A xs.length cap)) (h3 : W.cell? ⟨Ba, 0, none⟩ = some (.int .i64 at_)) (hL : k38.C W A xs.length xs) (hAb : ∀ ad, A = some ad → 0 < xs.length → ad.block < n₀) (h0 : J [] W) :
    CallsIn Fence.wide n Try.prog 20 #[.func (.yield l) #[] #[], .pointer (some ⟨Bl, 0, none⟩), .pointer (some ⟨Ba, 0, none⟩)] W fun e W' => (∃ v, e = .returned v) ∧
      ((∃ ys, ys = cntL span at_ xs ∧ J ys W') ∨ (∃ pre, pre <+: cntL span at_ xs ∧ Jx pre W')) := by
  refine callsIn_of_wp Try.func20 rfl trivial ?_ rfl
  simp only [Try.ntmps20, List.size_toArray, List.length_cons, List.length_nil, Nat.reduceAdd, Nat.reduceSub, Array.replicate_succ, Array.replicate_zero, List.push_toArray, List.append_toArray, List.nil_append, List.cons_append]
  refine wpIn_scope_wide ?_
  have hlen : xs.length ≤ 9223372036854775807 := hL.2.1
  gi_wp2
  refine wpIn_label ?_
  gi_wp2
  gi_loopw [9] (fun i wr => ∃ k : Nat, k ≤ xs.length ∧ i = .int .i64 k ∧ Aside0 (J (cntL span at_ (xs.take k)) wr) ∧ Aside0 (Below n₀ W wr)) (fun i _ => xs.length - (intOf i).toNat)
  case atStart => exact ⟨0, Nat.zero_le _, rfl, ⟨h0⟩, ⟨Below.refl _ _⟩⟩
  case round =>
    obtain ⟨k, hk, rfl, hJs, hnx⟩ := hrel
    by_cases hlt : k < xs.length
    · obtain ⟨ad, rfl, hp0, hp1⟩ := at_T38 hL (k : Int) (by omega) (by omega)
      have hp : rd_T38 xs (k : Int) = xs[k] := by unfold rd_T38; simp [List.getD_eq_getElem?_getD, hlt]
      rw [Int.toNat_natCast] at hp0 hp1
      have hblk : ad.block < n₀ := hAb ad rfl (by omega)
      have hadd : (ad.add (k * 2)).block = ad.block := by unfold Addr.add; split <;> rfl
      have hq0 := (hnx.out.cell (p := ad.add (k * 2)) (by rw [hadd]; exact hblk)).trans hp0
      have hq1 := (hnx.out.cell (p := ⟨(ad.add (k * 2)).block, (ad.add (k * 2)).off + 1, none⟩) (by show (ad.add (k * 2)).block < n₀; rw [hadd]; exact hblk)).trans hp1
      have hb1 := (hnx.out.cell (p := ⟨Bl, 0, none⟩) hBl).trans h1
      have hb3 := (hnx.out.cell (p := ⟨Ba, 0, none⟩) hBa).trans h3
      have hlen2 : wr.heap.size ≠ Bl ∧ wr.heap.size ≠ Ba := by
        have e1 := World.block_lt_of_cell? wr ⟨Bl, 0, none⟩ hb1
        have e2 := World.block_lt_of_cell? wr ⟨Ba, 0, none⟩ hb3
        simp only at e1 e2
        omega
      have HP := Aside0.mk hp
      clear hp hp0 hp1 hadd
      generalize rd_T38 xs (k : Int) = x at *
      have hBW : Below wr.heap.size wr (wr.alloc (.cells #[.int .i64 x.f0, .int .i64 x.f1] 38)) := (Below.refl _ wr).alloc (Nat.le_refl _) _
      have hb1' := (hBW.cell (World.block_lt_of_cell? wr _ hb1)).trans hb1
      have hb3' := (hBW.cell (World.block_lt_of_cell? wr _ hb3)).trans hb3
      have hJ1 := Aside0.mk (hJ _ wr (wr.alloc (.cells #[.int .i64 x.f0, .int .i64 x.f1] 38)) none hJs.out (World.grownBy_alloc wr _ none) (fun r e => by cases e))
      have hB1 := Aside0.mk (hnx.out.alloc (by have := hnx.out.size; omega) (.cells #[.int .i64 x.f0, .int .i64 x.f1] 38))
      have hstep : Aside0 (cntL span at_ (xs.take (k + 1)) = if span < wrap64 (at_ - x.f0) then cntL span at_ (xs.take k) else cntL span at_ (xs.take k) ++ [x]) := by
        refine ⟨?_⟩
        rw [List.take_succ_eq_append_getElem hlt, ← HP.out]
        unfold cntL
        rw [List.filter_append]
        by_cases c : span < wrap64 (at_ - x.f0) <;> simp [cnts, c]
      have hcl : Aside0 ((cntL span at_ (xs.take k)).length < xs.length) := ⟨by
        have := List.length_filter_le (cnts span at_) (xs.take k)
        unfold cntL
        rw [List.length_take] at this
        omega⟩
      clear hBW hlen2
      by_cases c : span < wrap64 (at_ - x.f0)
      · have cd : decide (span < wrap64 (at_ - x.f0)) = true := decide_eq_true c
        have HS : Aside0 (cntL span at_ (xs.take (k + 1)) = cntL span at_ (xs.take k)) := ⟨by rw [hstep.out, if_pos c]⟩
        clear c hstep
        gi_wp2
        go_roundw
        case rel => exact ⟨k + 1, by omega, by go_num, ⟨by rw [HS.out]; exact hJ1.out⟩, hB1⟩
        case measure => simp [intOf]; omega
      · have cd : decide (span < wrap64 (at_ - x.f0)) = false := decide_eq_false c
        have HS : Aside0 (cntL span at_ (xs.take (k + 1)) = cntL span at_ (xs.take k) ++ [x]) := ⟨by rw [hstep.out, if_neg c]⟩
        clear c hstep
        obtain ⟨fn, tmps, assign, body, hy, hR⟩ := hY _ x _ hJ1.out hcl.out
        unfold enc38 at hy
        gi_wp2
        refine hR.mono ?_
        rintro e W3 (⟨rfl, hJ3, hk3⟩ | ⟨rfl, hJx3⟩)
        · have HJ3 := Aside0.mk hJ3
          have HK3 := Aside0.mk hk3
          clear hJ3 hk3
          gi_wp2
          go_roundw
          case rel => exact ⟨k + 1, by omega, by go_num, ⟨by rw [HS.out]; exact HJ3.out⟩, ⟨hB1.out.trans HK3.out⟩⟩
          case measure => simp [intOf]; omega
        · have HJ3 := Aside0.mk hJx3
          clear hJx3
          gi_wp2
          rw [Exit.noGoto_ret]
          refine bodyPost_ret (results_none rfl _ _ _) rfl ?_
          refine ⟨⟨_, rfl⟩, .inr ⟨_, ?_, HJ3.out⟩⟩
          rw [← HS.out]
          exact (List.take_prefix (k + 1) xs).filter _
    · obtain rfl : k = xs.length := by omega
      gi_wp2
      rw [Exit.noGoto_normal]
      go_end0
      refine ⟨⟨_, rfl⟩, .inl ⟨_, rfl, ?_⟩⟩
      have := hJs.out
      rwa [List.take_length] at this
end Go.Proofs.Ytenpchgnjhmaaaa.Given
