/- The walk of least.Of: the least point that counts, by the iterator's contract. -/
import Derived.Test.YtenpchgnjhmaaaaGIter
import Derived.Test.YtenpchgnjhmaaaaSx2
import Derived.Laws.ResultCell
namespace Go.Proofs.Ytenpchgnjhmaaaa.Given
open Go.RowKit Go.Shelf Go.Proofs.YtenpchgnjhmaaaaW.PrintWords Go.Proofs.YtenpchgnjhmaaaaW.PrintLast Go.Proofs.YtenpchgnjhmaaaaW.PrintMore Go.Proofs.Ytenpchgnjhmaaaa.S
attribute [local go_sem] Oper.semAt_some
set_option linter.unusedVariables false
set_option linter.unusedSimpArgs false

/-- least.counting: the two boxes, and the function value over them. -/
theorem counting_in (n : Nat) (span high at_ : Int) (A : Option Addr) (m cap : Nat) (w : World) :
    CallsIn Fence.wide n Try.prog 18 #[.agg #[.int .i64 span, .slice A m cap, .int .i64 high], .int .i64 at_] w fun e w' =>
      e = .returned (.func (.func 20) #[] #[.pointer (some ⟨w.heap.size, 0, none⟩), .pointer (some ⟨w.heap.size + 1, 0, none⟩)]) ∧ w' = (w.alloc (.cells #[.int .i64 span, .slice A m cap, .int .i64 high] 24)).alloc (.cells #[.int .i64 at_] 3) := by
  refine callsIn_wide.2 ?_
  go_enter Try.func18, Try.ntmps18
  go_wp2
  go_ret
  exact ⟨rfl, rfl⟩

/-- What the iterator hands on: a contract for a loop's law. -/
theorem counting_stops (n : Nat) (hn : 1 ≤ n) (Bl Ba n₀ : Nat) (span high at_ : Int) (A : Option Addr) (cap : Nat) (xs : List S38) (w : World) (hBl : Bl < n₀) (hBa : Ba < n₀) (hn₀ : n₀ ≤ w.heap.size)
    (h1 : w.cell? ⟨Bl, 0, none⟩ = some (.int .i64 span)) (h2 : w.cell? ⟨Bl, 1, none⟩ = some (.slice A xs.length cap)) (h3 : w.cell? ⟨Ba, 0, none⟩ = some (.int .i64 at_)) (hL : k38.C w A xs.length xs) (hAb : ∀ ad, A = some ad → 0 < xs.length → ad.block < n₀) :
    SeqStopsK Fence.wide n Try.prog 20 #[.pointer (some ⟨Bl, 0, none⟩), .pointer (some ⟨Ba, 0, none⟩)] (fun x : S38 => #[enc38 x]) (Below n₀) (fun ys => ys = cntL span at_ xs) (fun pre => pre <+: cntL span at_ xs) xs.length w := by
  intro l J Jx W hW hJ _ hY h0
  have hB := fun b hb => hW.cell (p := b) hb
  exact counting1_in n hn l Bl Ba n₀ span high at_ A cap xs J Jx hBl hBa W hJ (Nat.le_trans hn₀ hW.size) hY ((hB _ (by simp; omega)).trans h1) ((hB _ (by simp; omega)).trans h2) ((hB _ (by simp; omega)).trans h3) (Kd.C_below hL hW) hAb h0

def ofL (span at_ : Int) (l : List S38) : Int × Bool := match cntL span at_ l with
  | [] => (0, false)
  | p :: _ => (p.f1, true)
def inB (a lo hi : Int) : Bool := decide (lo ≤ a) && decide (a ≤ hi)
theorem in_eq (a lo hi : Int) : least_in.f a lo hi = some (inB a lo hi) := by
  unfold least_in.f inB
  by_cases h : a ≥ lo
  · rw [if_pos h, decide_eq_true h]; simp
  · rw [if_neg h, decide_eq_false h]; simp
/-- A block of cells stays where what turns is no cells. -/
theorem gblk_kept {W W' : World} {B D : Nat} {vs : Array Value} {ty : TypeId} {m : Nat × Nat} {row : Option Nat} (h : W.heap[B]? = some (.cells vs ty m)) (hg : W.grownBy W' row) (hr : ∀ r, row = some r → D ≤ r ∧ ∃ o : Obj, W.heap[r]? = some o ∧ o.isCells = false) :
    W'.heap[B]? = some (.cells vs ty m) := by
  refine (hg.block B (Array.getElem?_eq_some_iff.1 h).1 (fun e => ?_)).trans h
  obtain ⟨_, o, ho, hc⟩ := hr B e.symm
  rw [h] at ho
  cases ho
  cases hc
theorem gblk_alloc {W : World} {B : Nat} {o : Obj} (h : W.heap[B]? = some o) (o' : Obj) : (W.alloc o').heap[B]? = some o := by
  show (W.heap.push o')[B]? = _
  rw [Array.getElem?_push_lt (Array.getElem?_eq_some_iff.1 h).1]
  exact (Array.getElem?_eq_getElem _).symm.trans h
theorem gblk_new (W : World) (o : Obj) : (W.alloc o).heap[W.heap.size]? = some o := by
  show (W.heap.push o)[W.heap.size]? = _
  exact Array.getElem?_push_size
theorem gblk_lt {W : World} {B : Nat} {o : Obj} (h : W.heap[B]? = some o) : B < W.heap.size := (Array.getElem?_eq_some_iff.1 h).1
theorem gblk_cell {W : World} {B : Nat} {vs : Array Value} {ty : TypeId} {m : Nat × Nat} (h : W.heap[B]? = some (.cells vs ty m)) (j : Nat) : W.cell? ⟨B, j, none⟩ = vs[j]? := by simp [World.cell?, h]
theorem gblk_free {W : World} {B : Nat} {vs : Array Value} {ty : TypeId} (h : W.heap[B]? = some (.cells vs ty (0, 0))) (j : Nat) : W.frozen? ⟨B, j, none⟩ = false := by simp [World.frozen?, h]
theorem gblk_set {W : World} {B : Nat} {vs : Array Value} {ty : TypeId} {m : Nat × Nat} (h : W.heap[B]? = some (.cells vs ty m)) (j : Nat) (v : Value) : (W.setCell ⟨B, j, none⟩ v).heap[B]? = some (.cells (vs.setIfInBounds j v) ty m) := by
  obtain ⟨hlt, hk⟩ := Array.getElem?_eq_some_iff.1 h
  show (W.heap.modify B _)[B]? = _
  rw [Array.getElem?_eq_getElem (by rw [Array.size_modify]; exact hlt), Array.getElem_modify_self, hk]
  rfl
theorem gblk_other {W : World} {B C : Nat} {o : Obj} (h : W.heap[B]? = some o) (j : Nat) (v : Value) (hne : B ≠ C) : (W.setCell ⟨C, j, none⟩ v).heap[B]? = some o := (Below.heap_setCell _ _ _ B hne).trans h
theorem gblk_put {W : World} {B l : Nat} {vs : Array Value} {ty : TypeId} {m : Nat × Nat} {o : Obj} (h : W.heap[B]? = some (.cells vs ty m)) (o' : Obj) (hl : W.heap[l]? = some o) (ho : o.isCells = false) : (W.putObj l o').heap[B]? = some (.cells vs ty m) :=
  gblk_kept (D := 0) h (grownBy_putObj' W l o') (fun r e => by cases e; exact ⟨Nat.zero_le _, o, hl, ho⟩)
theorem boxes_kept {w w1 : World} {x y z : Value} (hb1 : Below (((w.alloc (.cells #[x, y, z] 24)).alloc (.cells #[.int .i64 0] 3)).alloc (.cells #[.bool false] 4)).heap.size (((w.alloc (.cells #[x, y, z] 24)).alloc (.cells #[.int .i64 0] 3)).alloc (.cells #[.bool false] 4)) w1) :
    w1.heap[w.heap.size]? = some (.cells #[x, y, z] 24) ∧ w1.heap[w.heap.size + 1]? = some (.cells #[.int .i64 0] 3) ∧ w1.heap[w.heap.size + 1 + 1]? = some (.cells #[.bool false] 4) ∧ w.heap.size + 2 < w1.heap.size := by
  have hs := hb1.size
  simp only [World.size_alloc] at hs
  refine ⟨(hb1.block _ (by simp; omega)).trans (gblk_alloc (gblk_alloc (gblk_new w _) _) _), (hb1.block _ (by simp)).trans (gblk_alloc ?_ _), (hb1.block _ (by simp)).trans ?_, by omega⟩
  · have := gblk_new (w.alloc (.cells #[x, y, z] 24)) (.cells #[.int .i64 0] 3)
    rwa [World.size_alloc] at this
  · have := gblk_new ((w.alloc (.cells #[x, y, z] 24)).alloc (.cells #[.int .i64 0] 3)) (.cells #[.bool false] 4)
    rwa [World.size_alloc, World.size_alloc] at this
theorem res13 (w : World) (tmps : Array Value) (B1 B2 : Nat) (x : Int) (b : Bool) (t4 : tmps[4]?.getD undef = .pointer (some ⟨B1, 0, none⟩)) (t5 : tmps[5]?.getD undef = .pointer (some ⟨B2, 0, none⟩)) (h1 : w.cell? ⟨B1, 0, none⟩ = some (.int .i64 x)) (h2 : w.cell? ⟨B2, 0, none⟩ = some (.bool b)) :
    (results Try.f13 tmps).run Try.prog w = .ok (.tuple #[.int .i64 x, .bool b]) w := by
  simp [results, Try.results13, go_sem, t4, t5, h1, h2]
theorem leave_plain {n : Nat} {P : Program} {fn : Func} {R : Ending → World → Prop} {tmps : Array Value} {w : World} {v : Value} (h : (results fn tmps).run P w = .ok v w) (hR : R (.returned v) w) :
    bodyPostM Fence.wide n P fn R .ret { tmps := tmps, defers := [] } w := ⟨v, h, hR⟩
theorem leave_mark {n D : Nat} {P : Program} {fn : Func} {R : Ending → World → Prop} {tmps : Array Value} {w : World} {v : Value} (hK : w.heap[D]? = some (.deferred (some []))) (h : (results fn tmps).run P (w.putObj D (.deferred none)) = .ok v (w.putObj D (.deferred none))) (hR : R (.returned v) (w.putObj D (.deferred none))) :
    bodyPostM Fence.wide n P fn R .ret { tmps := tmps, defers := [{ target := .collected D, args := #[] }] } w := ⟨by simp, .inl ⟨_, _, rfl, run_takeDeferred hK, ⟨v, h, hR⟩⟩⟩
def least_Of.f (a0_0 : Int) (l0_1 : List S38) (a0_2 : Int) (a1 : Int) : Option (Int × Bool) :=
  (least_May.f 110 a0_0 l0_1 a0_2).bind fun m => if m = true then (if inB a1 0 1152921504606846976 = true then some (ofL a0_0 a1 l0_1) else some (0, false)) else some (0, false)
set_option maxRecDepth 100000 in
set_option maxHeartbeats 2000000 in
theorem least_Of.calls (a0_0 : Int) (A0_1 : Option Addr) (c0_1 : Nat) (l0_1 : List S38) (a0_2 : Int) (a1 : Int) (r1 : Int) (r2 : Bool) (w : World) (hr0_1 : Kd.C k38 w A0_1 l0_1.length l0_1) (hc0_1 : l0_1.length ≤ c0_1) (h : least_Of.f a0_0 l0_1 a0_2 a1 = some (r1, r2)) :
    Calls Try.prog 13 #[.agg #[.int .i64 a0_0, .slice A0_1 l0_1.length c0_1, .int .i64 a0_2], .int .i64 a1] w fun e w' => e = .returned (.tuple #[.int .i64 r1, .bool r2]) ∧ Below w.heap.size w w' := by
  unfold least_Of.f at h
  obtain ⟨m, hm, h⟩ := Option.bind_eq_some_iff.mp h
  have HM := Aside0.mk hm
  have HR := Aside0.mk hr0_1
  have HC := Aside0.mk hc0_1
  clear hm hr0_1 hc0_1
  refine (callsIn_wide (n := 9)).1 (callsIn_of_wp_marks Try.func13 rfl trivial ?_ rfl)
  simp only [Try.ntmps13, List.size_toArray, List.length_cons, List.length_nil, Nat.reduceAdd, Nat.reduceSub, Array.replicate_succ, Array.replicate_zero, List.push_toArray, List.append_toArray, List.nil_append, List.cons_append]
  have hMay : ∀ W : World, Below w.heap.size w W → CallsIn Fence.wide 8 Try.prog 15 #[.agg #[.int .i64 a0_0, .slice A0_1 l0_1.length c0_1, .int .i64 a0_2]] W fun e w' => e = .returned (.bool m) ∧ Below W.heap.size W w' :=
    fun W hW => callsIn_wide.2 (least_May.calls 110 a0_0 A0_1 c0_1 l0_1 a0_2 m W (Kd.C_below HR.out hW) HC.out HM.out)
  have hIn : ∀ W : World, CallsIn Fence.wide 8 Try.prog 17 #[.int .i64 a1, .int .i64 0, .int .i64 1152921504606846976] W fun e w' => e = .returned (.bool (inB a1 0 1152921504606846976)) ∧ Drawn0 W w' :=
    fun W => callsIn_wide.2 (least_in.calls a1 0 1152921504606846976 _ W (in_eq _ _ _))
  have hB3 : Below w.heap.size w (((w.alloc (.cells #[.int .i64 a0_0, .slice A0_1 l0_1.length c0_1, .int .i64 a0_2] 24)).alloc (.cells #[.int .i64 0] 3)).alloc (.cells #[.bool false] 4)) := ((((Below.refl _ w).alloc (Nat.le_refl _) _).alloc (by simp) _).alloc (by simp; omega) _)
  have hM1 := hMay _ hB3
  have HB3 := Aside0.mk hB3
  clear hMay hB3
  by_cases cm : m = true
  · rw [if_pos cm] at h
    subst cm
    by_cases ci : inB a1 0 1152921504606846976 = true
    · rw [if_pos ci] at h
      rw [ci] at hIn
      have HRR := Aside0.mk (Option.some.inj h)
      clear h
      gi_wp2_with (first | (refine ⟨trivial, ?_⟩; gi_at_call 15; refine hM1.mono ?_; clear hM1; rintro e w1 ⟨rfl, hb1⟩; obtain ⟨k0, k1, k2, ks⟩ := boxes_kept hb1; have c00 := gblk_cell k0 0; have c01 := gblk_cell k0 1; have c02 := gblk_cell k0 2; have c1 := gblk_cell k1 0; have c2 := gblk_cell k2 0; have f1 := gblk_free k1 0; have f2 := gblk_free k2 0; have K0 := Aside0.mk k0; have K1 := Aside0.mk k1; have K2 := Aside0.mk k2; have HB1 := Aside0.mk hb1; clear k0 k1 k2 hb1; simp only [List.getElem?_toArray, List.getElem?_cons_zero, List.getElem?_cons_succ] at c00 c01 c02 c1 c2) | (refine ⟨trivial, ?_⟩; gi_at_call 17; refine (hIn _).mono ?_; rintro e w2 ⟨rfl, ⟨nd, rfl⟩⟩) | (refine ⟨trivial, ?_⟩; gi_at_call 18; refine (counting_in 8 a0_0 a0_2 a1 A0_1 l0_1.length c0_1 _).mono ?_; rintro e w3 ⟨rfl, rfl⟩))
      clear c00 c01 c02 c1 c2 f1 f2
      have hbw : Below w.heap.size w (w1.drewN nd) := pw_below_drewN (below_step HB3.out HB1.out) nd
      have kk1 : (w1.drewN nd).heap[w.heap.size + 1]? = some (.cells #[.int .i64 0] 3) := K1.out
      have kk2 : (w1.drewN nd).heap[w.heap.size + 1 + 1]? = some (.cells #[.bool false] 4) := K2.out
      have kss : w.heap.size + 2 < (w1.drewN nd).heap.size := ks
      have hs12 : (w1.drewN nd).heap.size = w1.heap.size := rfl
      generalize w1.drewN nd = w2 at *
      rw [← hs12]
      have hC2 : k38.C w2 A0_1 l0_1.length l0_1 := Kd.C_below HR.out hbw
      have kl := gblk_new w2 (.cells #[.int .i64 a0_0, .slice A0_1 l0_1.length c0_1, .int .i64 a0_2] 24)
      have ka := gblk_new (w2.alloc (.cells #[.int .i64 a0_0, .slice A0_1 l0_1.length c0_1, .int .i64 a0_2] 24)) (.cells #[.int .i64 a1] 3)
      rw [World.size_alloc] at ka
      replace kl := gblk_alloc kl (.cells #[.int .i64 a1] 3)
      have kb1 := gblk_alloc (gblk_alloc kk1 (.cells #[.int .i64 a0_0, .slice A0_1 l0_1.length c0_1, .int .i64 a0_2] 24)) (.cells #[.int .i64 a1] 3)
      have kb2 := gblk_alloc (gblk_alloc kk2 (.cells #[.int .i64 a0_0, .slice A0_1 l0_1.length c0_1, .int .i64 a0_2] 24)) (.cells #[.int .i64 a1] 3)
      have hbB : Below w.heap.size w ((w2.alloc (.cells #[.int .i64 a0_0, .slice A0_1 l0_1.length c0_1, .int .i64 a0_2] 24)).alloc (.cells #[.int .i64 a1] 3)) := below_alloc (below_alloc hbw _) _
      have hCC : k38.C ((w2.alloc (.cells #[.int .i64 a0_0, .slice A0_1 l0_1.length c0_1, .int .i64 a0_2] 24)).alloc (.cells #[.int .i64 a1] 3)) A0_1 l0_1.length l0_1 := Kd.C_alloc (Kd.C_alloc hC2 _) _
      have hsz : ((w2.alloc (.cells #[.int .i64 a0_0, .slice A0_1 l0_1.length c0_1, .int .i64 a0_2] 24)).alloc (.cells #[.int .i64 a1] 3)).heap.size = w2.heap.size + 2 := by simp
      have hAb : ∀ ad, A0_1 = some ad → 0 < l0_1.length → ad.block < w2.heap.size + 2 := by
        intro ad e hp
        obtain ⟨ad', e', hc, _⟩ := at_T38 hC2 0 (by omega) (by omega)
        have := World.block_lt_of_cell? w2 _ hc
        rw [e] at e'
        cases e'
        have h2 : (ad.add ((0 : Int).toNat * 2)).block = ad.block := by unfold Addr.add; split <;> rfl
        rw [h2] at this
        omega
      generalize hW0 : ((w2.alloc (.cells #[.int .i64 a0_0, .slice A0_1 l0_1.length c0_1, .int .i64 a0_2] 24)).alloc (.cells #[.int .i64 a1] 3)) = W0 at *
      have hstops := counting_stops 8 (by omega) w2.heap.size (w2.heap.size + 1) (w2.heap.size + 2) a0_0 a0_2 a1 A0_1 c0_1 l0_1 W0 (by omega) (by omega) (by omega) (gblk_cell kl 0) (gblk_cell kl 1) (gblk_cell ka 0) hCC hAb
      have HSZ := Aside0.mk hsz
      clear hsz hW0 hs12 ks
      refine wpIn_rangeFunc_ownH rfl (by omega) (gf := 20) (lb := #[.pointer (some ⟨w2.heap.size, 0, none⟩), .pointer (some ⟨w2.heap.size + 1, 0, none⟩)]) rfl trivial (enters_of Try.func20 (by kernel_rfl) rfl) hstops belowK_t (belowK_b (by have := HSZ.out; omega)) (Below.refl _ _) (fun _ => rfl)
        (fun pre W => pre = [] ∧ W.heap[w.heap.size + 1]? = some (.cells #[.int .i64 0] 3) ∧ W.heap[w.heap.size + 1 + 1]? = some (.cells #[.bool false] 4) ∧ Below w.heap.size w W ∧ w2.heap.size + 2 ≤ W.heap.size)
        (fun c ys W => c = .ret ∧ ∃ x : S38, ys = [x] ∧ W.heap[w.heap.size + 1]? = some (.cells #[.int .i64 x.f1] 3) ∧ W.heap[w.heap.size + 1 + 1]? = some (.cells #[.bool true] 4) ∧ Below w.heap.size w W)
        (fun s W W' row hs hg hr => ⟨hs.1, gblk_kept hs.2.1 hg hr, gblk_kept hs.2.2.1 hg hr, ownFrom_below (β := Unit) (B := W0.heap.size) (Nat.le_refl _) (by have := HSZ.out; omega) () W W' row hs.2.2.2.1 hg hr, Nat.le_trans hs.2.2.2.2 hg.size⟩)
        (fun c s W W' row hs hg hr => by
          obtain ⟨e, x, e2, k1, k2, kb⟩ := hs
          exact ⟨e, x, e2, gblk_kept k1 hg hr, gblk_kept k2 hg hr, ownFrom_below (β := Unit) (B := W0.heap.size) (Nat.le_refl _) (by have := HSZ.out; omega) () W W' row kb hg hr⟩)
        ⟨rfl, kb1, kb2, hbB, by have := HSZ.out; omega⟩
        (fun x a' W => ∃ Bx : Nat, w.heap.size + 2 < Bx ∧ W.heap[Bx]? = some (.cells #[.int .i64 x.f0, .int .i64 x.f1] 38) ∧ a' = { tmps := #[.agg #[.int .i64 a0_0, .slice A0_1 l0_1.length c0_1, .int .i64 a0_2], .int .i64 a1, .pointer (some ⟨w.heap.size, 0, none⟩), undef, .pointer (some ⟨w.heap.size + 1, 0, none⟩), .pointer (some ⟨w.heap.size + 1 + 1, 0, none⟩), .pointer (some ⟨Bx, 0, none⟩), .agg #[.int .i64 a0_0, .slice A0_1 l0_1.length c0_1, .int .i64 a0_2], .bool true, .bool false, .bool false, .int .i64 a1, .bool true, .bool false, .bool false, .agg #[.int .i64 a0_0, .slice A0_1 l0_1.length c0_1, .int .i64 a0_2], .int .i64 a1, .func (.func 20) #[] #[.pointer (some ⟨w2.heap.size, 0, none⟩), .pointer (some ⟨w2.heap.size + 1, 0, none⟩)], .agg #[.int .i64 x.f0, .int .i64 x.f1], undef, undef], defers := [] })
        (fun x a' _ W W' row hs hg hr => by
          obtain ⟨Bx, hl, hb, e⟩ := hs
          exact ⟨Bx, hl, gblk_kept hb hg hr, e⟩) ?assign ?body ?done ?stop
      case assign =>
        rintro l pre x W K ⟨hp, h1, h2, h3, h4⟩ hK
        have hl2 := gblk_lt h2
        unfold enc38
        gi_wp2
        exact hK _ _ ((KeepsOthers.alloc _ _).from _) ((Below.refl _ W).alloc h4 _) ⟨hp, gblk_alloc h1 _, gblk_alloc h2 _, below_alloc h3 _, by simp; omega⟩ ⟨W.heap.size, by omega, gblk_new _ _, rfl⟩
      case body =>
        rintro l pre x a' W hl hr ⟨rfl, h1, h2, h3, h4⟩ ⟨Bx, hbx, hx, rfl⟩ hlt
        have x1 := gblk_cell hx 1
        have y1 := gblk_cell h1 0
        have y2 := gblk_cell h2 0
        have z1 := gblk_free h1 0
        have z2 := gblk_free h2 0
        simp only [List.getElem?_toArray, List.getElem?_cons_zero, List.getElem?_cons_succ] at x1 y1 y2
        gi_wp2
        exact ⟨((KeepsOthers.setCell _ _ _).trans (KeepsOthers.setCell _ _ _)).from _, rfl, x, rfl, gblk_other (gblk_set h1 0 (.int .i64 x.f1)) 0 _ (by omega), gblk_set (gblk_other h2 0 _ (by omega)) 0 (.bool true), (h3.setCell (p := ⟨w.heap.size + 1, 0, none⟩) (by simp) _).setCell (p := ⟨w.heap.size + 1 + 1, 0, none⟩) (by simp; omega) _⟩
      case done =>
        rintro D xs W hD rfl ⟨he, h1, h2, h3, h4⟩ hK
        have y1 := gblk_cell h1 0
        have y2 := gblk_cell h2 0
        have z1 := gblk_free h1 0
        have z2 := gblk_free h2 0
        simp only [List.getElem?_toArray, List.getElem?_cons_zero, List.getElem?_cons_succ] at y1 y2
        gi_wp2
        have k1 := gblk_other (gblk_set h1 0 (.int .i64 0)) 0 (.bool false) (show w.heap.size + 1 ≠ w.heap.size + 1 + 1 by omega)
        have k2 := gblk_set (gblk_other h2 0 (.int .i64 0) (show w.heap.size + 1 + 1 ≠ w.heap.size + 1 by omega)) 0 (.bool false)
        have kD := ((KeepsOthers.setCell _ _ _).trans (KeepsOthers.setCell (W.setCell ⟨w.heap.size + 1, 0, none⟩ (.int .i64 0)) ⟨w.heap.size + 1 + 1, 0, none⟩ (.bool false))).same D _ hK rfl
        have hof : ofL a0_0 a1 l0_1 = (0, false) := by unfold ofL; rw [he]
        obtain ⟨rfl, rfl⟩ := Prod.mk.inj (hof.symm.trans HRR.out)
        refine leave_mark kD (res13 _ _ (w.heap.size + 1) (w.heap.size + 1 + 1) 0 false rfl rfl ?_ ?_) ⟨rfl, ?_⟩
        · exact gblk_cell (gblk_put k1 _ kD rfl) 0
        · exact gblk_cell (gblk_put k2 _ kD rfl) 0
        · exact ((h3.setCell (p := ⟨w.heap.size + 1, 0, none⟩) (by simp) _).setCell (p := ⟨w.heap.size + 1 + 1, 0, none⟩) (by simp; omega) _).trans (belowK_b (w := w) (Nat.le_refl _) _ D _ _ (by have := HSZ.out; have := hbw.size; omega) kD rfl rfl)
      case stop =>
        rintro D c pre W hD hpre ⟨rfl, x, rfl, h1, h2, h3⟩ hK
        gi_wp2
        have hof : ofL a0_0 a1 l0_1 = (x.f1, true) := by
          obtain ⟨rest, hr⟩ := hpre
          unfold ofL
          rw [← hr]
          rfl
        obtain ⟨rfl, rfl⟩ := Prod.mk.inj (hof.symm.trans HRR.out)
        refine leave_mark hK (res13 _ _ (w.heap.size + 1) (w.heap.size + 1 + 1) x.f1 true rfl rfl ?_ ?_) ⟨rfl, ?_⟩
        · exact gblk_cell (gblk_put h1 _ hK rfl) 0
        · exact gblk_cell (gblk_put h2 _ hK rfl) 0
        · exact h3.trans (belowK_b (w := w) (Nat.le_refl _) _ D _ _ (by have := HSZ.out; have := hbw.size; omega) hK rfl rfl)
    · rw [if_neg ci] at h
      have ci' : inB a1 0 1152921504606846976 = false := by simpa using ci
      rw [ci'] at hIn
      have HRR := Aside0.mk (Option.some.inj h)
      clear h
      gi_wp2_with (first | (refine ⟨trivial, ?_⟩; gi_at_call 15; refine hM1.mono ?_; clear hM1; rintro e w1 ⟨rfl, hb1⟩; obtain ⟨k0, k1, k2, ks⟩ := boxes_kept hb1; have c00 := gblk_cell k0 0; have c01 := gblk_cell k0 1; have c02 := gblk_cell k0 2; have c1 := gblk_cell k1 0; have c2 := gblk_cell k2 0; have f1 := gblk_free k1 0; have f2 := gblk_free k2 0; have K0 := Aside0.mk k0; have K1 := Aside0.mk k1; have K2 := Aside0.mk k2; have HB1 := Aside0.mk hb1; clear k0 k1 k2 hb1; simp only [List.getElem?_toArray, List.getElem?_cons_zero, List.getElem?_cons_succ] at c00 c01 c02 c1 c2) | (refine ⟨trivial, ?_⟩; gi_at_call 17; refine (hIn _).mono ?_; rintro e w2 ⟨rfl, ⟨nd, rfl⟩⟩))
      obtain ⟨rfl, rfl⟩ := Prod.mk.inj HRR.out
      refine leave_plain (res13 _ _ (w.heap.size + 1) (w.heap.size + 1 + 1) 0 false rfl rfl ?_ ?_) ⟨rfl, ?_⟩
      · go_simp
      · go_simp
      · exact (((pw_below_drewN (below_step HB3.out HB1.out) nd).setCell (p := ⟨w.heap.size + 1, 0, none⟩) (by simp) _).setCell (p := ⟨w.heap.size + 1 + 1, 0, none⟩) (by simp; omega) _)
  · rw [if_neg cm] at h
    obtain rfl : m = false := by simpa using cm
    have HRR := Aside0.mk (Option.some.inj h)
    clear h
    gi_wp2_with (first | (refine ⟨trivial, ?_⟩; gi_at_call 15; refine hM1.mono ?_; clear hM1; rintro e w1 ⟨rfl, hb1⟩; obtain ⟨k0, k1, k2, ks⟩ := boxes_kept hb1; have c00 := gblk_cell k0 0; have c01 := gblk_cell k0 1; have c02 := gblk_cell k0 2; have c1 := gblk_cell k1 0; have c2 := gblk_cell k2 0; have f1 := gblk_free k1 0; have f2 := gblk_free k2 0; have K0 := Aside0.mk k0; have K1 := Aside0.mk k1; have K2 := Aside0.mk k2; have HB1 := Aside0.mk hb1; clear k0 k1 k2 hb1; simp only [List.getElem?_toArray, List.getElem?_cons_zero, List.getElem?_cons_succ] at c00 c01 c02 c1 c2))
    refine ⟨trivial, ?_⟩
    gi_wp2
    obtain ⟨rfl, rfl⟩ := Prod.mk.inj HRR.out
    refine leave_plain (res13 _ _ (w.heap.size + 1) (w.heap.size + 1 + 1) 0 false rfl rfl ?_ ?_) ⟨rfl, ?_⟩
    · go_simp
    · go_simp
    · exact (((below_step HB3.out HB1.out).setCell (p := ⟨w.heap.size + 1, 0, none⟩) (by simp) _).setCell (p := ⟨w.heap.size + 1 + 1, 0, none⟩) (by simp; omega) _)
end Go.Proofs.Ytenpchgnjhmaaaa.Given
