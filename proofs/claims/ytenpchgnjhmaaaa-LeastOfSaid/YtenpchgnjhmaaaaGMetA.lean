/- The walk of least.Met where it refuses, and where it begins anew. -/
import Derived.Test.YtenpchgnjhmaaaaGOf
import Derived.Test.YtenpchgnjhmaaaaGClone
import Derived.Outline
import Derived.RegionTactic
import Derived.BigRegion
import Derived.ChangeAlike
namespace Go.Proofs.Ytenpchgnjhmaaaa.Given
open Go.RowKit Go.Shelf Go.Proofs.YtenpchgnjhmaaaaW.PrintWords Go.Proofs.YtenpchgnjhmaaaaW.PrintLast Go.Proofs.YtenpchgnjhmaaaaW.PrintMore Go.Proofs.Ytenpchgnjhmaaaa.S
set_option linter.unusedVariables false
set_option linter.unusedSimpArgs false
/-- Is a time ahead of the last point's? -/
def ahead (l : List S38) (a : Int) : Bool := decide (0 < l.length) && decide (a < (rd_T38 l ((l.length : Int) - 1)).f0)
def metOK (m : Bool) (l : List S38) (a n : Int) : Bool := m && inB a 0 1152921504606846976 && inB n 0 1152921504606846976 && !ahead l a
def farB (span at_ n : Int) (l : List S38) : Bool := (ofL span at_ l).2 && decide (wrap64 (2 * (ofL span at_ l).1) < n)
def highM (span at_ n high : Int) (l : List S38) : Int := if farB span at_ n l = true then wrap64 (high + 1) else 0
def moreL (span at_ n : Int) (l : List S38) : List S38 := (cntL span at_ l).filter (fun p => decide (p.f1 < n)) ++ [⟨at_, n⟩]
def least_Met.f (a0_0 : Int) (l0_1 : List S38) (a0_2 : Int) (a1 : Int) (a2 : Int) : Option (Int × List S38 × Int × Bool × Int) :=
  (least_May.f 110 a0_0 l0_1 a0_2).bind fun m => if metOK m l0_1 a1 a2 = true then
    (if l0_1.length ≤ 100 then (if highM a0_0 a1 a2 a0_2 l0_1 = 8 then some (a0_0, [⟨a1, a2⟩], 0, true, 0) else some (a0_0, (moreL a0_0 a1 a2 l0_1).take 100, highM a0_0 a1 a2 a0_2 l0_1, false, 0)) else none)
  else some (0, [], 0, false, 1)

/-- What is kept of the call's own three blocks behind a call. -/
theorem boxes3 {w w1 : World} {x y z n : Value} (hb1 : Below (((w.alloc (.cells #[x, y, z] 24)).alloc (.cells #[n] 3)).alloc (.cells #[.int .i64 0, .slice none 0 0, .int .i64 0] 24)).heap.size (((w.alloc (.cells #[x, y, z] 24)).alloc (.cells #[n] 3)).alloc (.cells #[.int .i64 0, .slice none 0 0, .int .i64 0] 24)) w1) :
    w1.heap[w.heap.size]? = some (.cells #[x, y, z] 24) ∧ w1.heap[w.heap.size + 1]? = some (.cells #[n] 3) ∧ w1.heap[w.heap.size + 1 + 1]? = some (.cells #[.int .i64 0, .slice none 0 0, .int .i64 0] 24) ∧ w.heap.size + 2 < w1.heap.size := by
  have hs := hb1.size
  simp only [World.size_alloc] at hs
  refine ⟨(hb1.block _ (by simp; omega)).trans (gblk_alloc (gblk_alloc (gblk_new w _) _) _), (hb1.block _ (by simp)).trans (gblk_alloc ?_ _), (hb1.block _ (by simp)).trans ?_, by omega⟩
  · have := gblk_new (w.alloc (.cells #[x, y, z] 24)) (.cells #[n] 3)
    rwa [World.size_alloc] at this
  · have := gblk_new ((w.alloc (.cells #[x, y, z] 24)).alloc (.cells #[n] 3)) (.cells #[.int .i64 0, .slice none 0 0, .int .i64 0] 24)
    rwa [World.size_alloc, World.size_alloc] at this
theorem res10 (w : World) (tmps : Array Value) (B : Nat) (x y z : Value) (b e : Value) (t6 : tmps[6]?.getD undef = .pointer (some ⟨B, 0, none⟩)) (t7 : tmps[7]?.getD undef = b) (t8 : tmps[8]?.getD undef = e) (h0 : w.cell? ⟨B, 0, none⟩ = some x) (h1 : w.cell? ⟨B, 1, none⟩ = some y) (h2 : w.cell? ⟨B, 2, none⟩ = some z) :
    (results Try.f10 tmps).run Try.prog w = .ok (.tuple #[.agg #[x, y, z], b, e]) w := by
  simp [results, Try.results10, go_sem, t6, t7, t8, h0, h1, h2]
set_option maxRecDepth 100000 in
set_option maxHeartbeats 2000000 in
theorem met_wrong (a0_0 : Int) (A0_1 : Option Addr) (c0_1 : Nat) (l0_1 : List S38) (a0_2 : Int) (a1 a2 : Int) (m : Bool) (w : World) (hr0_1 : Kd.C k38 w A0_1 l0_1.length l0_1) (hc0_1 : l0_1.length ≤ c0_1) (hm : least_May.f 110 a0_0 l0_1 a0_2 = some m) (hno : metOK m l0_1 a1 a2 = false) :
    Calls Try.prog 10 #[.agg #[.int .i64 a0_0, .slice A0_1 l0_1.length c0_1, .int .i64 a0_2], .int .i64 a1, .int .i64 a2] w fun e w' => ∃ v1_ : Value, e = .returned (.tuple #[.agg #[.int .i64 0, v1_, .int .i64 0], .bool false, .int .i64 1]) ∧ Kd.R k38 38 w' w.heap.size (fun _ => True) v1_ [] ∧ Below w.heap.size w w' := by
  have HM := Aside0.mk hm
  have HR := Aside0.mk hr0_1
  have HC := Aside0.mk hc0_1
  have hMay : ∀ W : World, Below w.heap.size w W → Calls Try.prog 15 #[.agg #[.int .i64 a0_0, .slice A0_1 l0_1.length c0_1, .int .i64 a0_2]] W fun e w' => e = .returned (.bool m) ∧ Below W.heap.size W w' :=
    fun W hW => least_May.calls 110 a0_0 A0_1 c0_1 l0_1 a0_2 m W (Kd.C_below HR.out hW) HC.out HM.out
  have hIn1 : ∀ W : World, Calls Try.prog 17 #[.int .i64 a1, .int .i64 0, .int .i64 1152921504606846976] W fun e w' => e = .returned (.bool (inB a1 0 1152921504606846976)) ∧ Drawn0 W w' :=
    fun W => least_in.calls a1 0 1152921504606846976 _ W (in_eq _ _ _)
  have hIn2 : ∀ W : World, Calls Try.prog 17 #[.int .i64 a2, .int .i64 0, .int .i64 1152921504606846976] W fun e w' => e = .returned (.bool (inB a2 0 1152921504606846976)) ∧ Drawn0 W w' :=
    fun W => least_in.calls a2 0 1152921504606846976 _ W (in_eq _ _ _)
  have hB3 : Below w.heap.size w (((w.alloc (.cells #[.int .i64 a0_0, .slice A0_1 l0_1.length c0_1, .int .i64 a0_2] 24)).alloc (.cells #[.int .i64 a2] 3)).alloc (.cells #[.int .i64 0, .slice none 0 0, .int .i64 0] 24)) := ((((Below.refl _ w).alloc (Nat.le_refl _) _).alloc (by simp) _).alloc (by simp; omega) _)
  have hM1 := hMay _ hB3
  have HB3 := Aside0.mk hB3
  clear hMay hB3 hm hr0_1 hc0_1
  cases m with
  | false =>
    clear hno
    go_enter Try.func10, Try.ntmps10
    go_wp2_with (first | (go_at_call 15; (with_reducible refine hM1.mono ?_); clear hM1; rintro e w1 ⟨rfl, hb1⟩; obtain ⟨k0, k1, k2, ks⟩ := boxes3 hb1; have c00 := gblk_cell k0 0; have c01 := gblk_cell k0 1; have c02 := gblk_cell k0 2; have c1 := gblk_cell k1 0; have c20 := gblk_cell k2 0; have c21 := gblk_cell k2 1; have c22 := gblk_cell k2 2; have f20 := gblk_free k2 0; have f21 := gblk_free k2 1; have f22 := gblk_free k2 2; have K2 := Aside0.mk k2; have HB1 := Aside0.mk hb1; clear k0 k1 k2 hb1; simp only [List.getElem?_toArray, List.getElem?_cons_zero, List.getElem?_cons_succ] at c00 c01 c02 c1 c20 c21 c22))
    refine bodyPost_ret (v := .tuple #[.agg #[.int .i64 0, .slice none 0 0, .int .i64 0], .bool false, .int .i64 1]) (res10 _ _ (w.heap.size + 1 + 1) _ _ _ _ _ rfl rfl rfl ?_ ?_ ?_) rfl ⟨_, rfl, Kd.R_nil _ _ _ _ _, ?_⟩
    · exact gblk_cell (gblk_set (gblk_set (gblk_set K2.out 0 _) 1 _) 2 _) 0
    · exact gblk_cell (gblk_set (gblk_set (gblk_set K2.out 0 _) 1 _) 2 _) 1
    · exact gblk_cell (gblk_set (gblk_set (gblk_set K2.out 0 _) 1 _) 2 _) 2
    · exact ((((below_step HB3.out HB1.out)).setCell (p := ⟨w.heap.size + 1 + 1, 0, none⟩) (by simp; omega) _).setCell (p := ⟨w.heap.size + 1 + 1, 1, none⟩) (by simp; omega) _).setCell (p := ⟨w.heap.size + 1 + 1, 2, none⟩) (by simp; omega) _
  | true =>
    by_cases ca : inB a1 0 1152921504606846976 = true
    · rw [ca] at hIn1
      by_cases cb : inB a2 0 1152921504606846976 = true
      · rw [cb] at hIn2
        have hah : ahead l0_1 a1 = true := by
          unfold metOK at hno
          rw [ca, cb] at hno
          simpa using hno
        unfold ahead at hah
        simp only [Bool.and_eq_true, decide_eq_true_eq] at hah
        obtain ⟨hpos, hlast⟩ := hah
        obtain ⟨ad, rfl, hp0, _⟩ := at_T38 HR.out ((l0_1.length : Int) - 1) (by omega) (by omega)
        rw [show ((l0_1.length : Int) - 1).toNat = l0_1.length - 1 by omega] at hp0
        generalize rd_T38 l0_1 ((l0_1.length : Int) - 1) = x at *
        have hlen : l0_1.length ≤ 9223372036854775807 := HR.out.2.1
        have hblk := World.block_lt_of_cell? w _ hp0
        have hq0 := Aside0.mk ((HB3.out.cell (p := ad.add ((l0_1.length - 1) * 2)) hblk).trans hp0)
        have hblk3 := World.block_lt_of_cell? _ _ hq0.out
        have HBK := Aside0.mk hblk3
        clear hno ca cb hp0 hblk hblk3
        go_enter Try.func10, Try.ntmps10
        go_wp2_with (first | (go_at_call 15; (with_reducible refine hM1.mono ?_); clear hM1; rintro e w1 ⟨rfl, hb1⟩; obtain ⟨k0, k1, k2, ks⟩ := boxes3 hb1; have c00 := gblk_cell k0 0; have c01 := gblk_cell k0 1; have c02 := gblk_cell k0 2; have c1 := gblk_cell k1 0; have c20 := gblk_cell k2 0; have c21 := gblk_cell k2 1; have c22 := gblk_cell k2 2; have f20 := gblk_free k2 0; have f21 := gblk_free k2 1; have f22 := gblk_free k2 2; have K2 := Aside0.mk k2; have HB1 := Aside0.mk hb1; clear k0 k1 k2 hb1; simp only [List.getElem?_toArray, List.getElem?_cons_zero, List.getElem?_cons_succ] at c00 c01 c02 c1 c20 c21 c22; have e0 := (HB1.out.cell (p := ad.add ((l0_1.length - 1) * 2)) HBK.out).trans hq0.out) | (go_at_call 17; (with_reducible refine (hIn1 _).mono ?_); rintro e w2 ⟨rfl, ⟨nd, rfl⟩⟩) | (go_at_call 17; (with_reducible refine (hIn2 _).mono ?_); rintro e w3 ⟨rfl, ⟨nd2, rfl⟩⟩))
        refine bodyPost_ret (v := .tuple #[.agg #[.int .i64 0, .slice none 0 0, .int .i64 0], .bool false, .int .i64 1]) (res10 _ _ (w.heap.size + 1 + 1) _ _ _ _ _ rfl rfl rfl ?_ ?_ ?_) rfl ⟨_, rfl, Kd.R_nil _ _ _ _ _, ?_⟩
        · exact gblk_cell (gblk_set (gblk_set (gblk_set K2.out 0 _) 1 _) 2 _) 0
        · exact gblk_cell (gblk_set (gblk_set (gblk_set K2.out 0 _) 1 _) 2 _) 1
        · exact gblk_cell (gblk_set (gblk_set (gblk_set K2.out 0 _) 1 _) 2 _) 2
        · exact ((((pw_below_drewN (below_step HB3.out HB1.out) _)).setCell (p := ⟨w.heap.size + 1 + 1, 0, none⟩) (by simp; omega) _).setCell (p := ⟨w.heap.size + 1 + 1, 1, none⟩) (by simp; omega) _).setCell (p := ⟨w.heap.size + 1 + 1, 2, none⟩) (by simp; omega) _
      · have cb' : inB a2 0 1152921504606846976 = false := by simpa using cb
        rw [cb'] at hIn2
        clear hno ca cb cb'
        go_enter Try.func10, Try.ntmps10
        go_wp2_with (first | (go_at_call 15; (with_reducible refine hM1.mono ?_); clear hM1; rintro e w1 ⟨rfl, hb1⟩; obtain ⟨k0, k1, k2, ks⟩ := boxes3 hb1; have c00 := gblk_cell k0 0; have c01 := gblk_cell k0 1; have c02 := gblk_cell k0 2; have c1 := gblk_cell k1 0; have c20 := gblk_cell k2 0; have c21 := gblk_cell k2 1; have c22 := gblk_cell k2 2; have f20 := gblk_free k2 0; have f21 := gblk_free k2 1; have f22 := gblk_free k2 2; have K2 := Aside0.mk k2; have HB1 := Aside0.mk hb1; clear k0 k1 k2 hb1; simp only [List.getElem?_toArray, List.getElem?_cons_zero, List.getElem?_cons_succ] at c00 c01 c02 c1 c20 c21 c22) | (go_at_call 17; (with_reducible refine (hIn1 _).mono ?_); rintro e w2 ⟨rfl, ⟨nd, rfl⟩⟩) | (go_at_call 17; (with_reducible refine (hIn2 _).mono ?_); rintro e w3 ⟨rfl, ⟨nd2, rfl⟩⟩))
        refine bodyPost_ret (v := .tuple #[.agg #[.int .i64 0, .slice none 0 0, .int .i64 0], .bool false, .int .i64 1]) (res10 _ _ (w.heap.size + 1 + 1) _ _ _ _ _ rfl rfl rfl ?_ ?_ ?_) rfl ⟨_, rfl, Kd.R_nil _ _ _ _ _, ?_⟩
        · exact gblk_cell (gblk_set (gblk_set (gblk_set K2.out 0 _) 1 _) 2 _) 0
        · exact gblk_cell (gblk_set (gblk_set (gblk_set K2.out 0 _) 1 _) 2 _) 1
        · exact gblk_cell (gblk_set (gblk_set (gblk_set K2.out 0 _) 1 _) 2 _) 2
        · exact ((((pw_below_drewN (below_step HB3.out HB1.out) _)).setCell (p := ⟨w.heap.size + 1 + 1, 0, none⟩) (by simp; omega) _).setCell (p := ⟨w.heap.size + 1 + 1, 1, none⟩) (by simp; omega) _).setCell (p := ⟨w.heap.size + 1 + 1, 2, none⟩) (by simp; omega) _
    · have ca' : inB a1 0 1152921504606846976 = false := by simpa using ca
      rw [ca'] at hIn1
      clear hno ca ca'
      go_enter Try.func10, Try.ntmps10
      go_wp2_with (first | (go_at_call 15; (with_reducible refine hM1.mono ?_); clear hM1; rintro e w1 ⟨rfl, hb1⟩; obtain ⟨k0, k1, k2, ks⟩ := boxes3 hb1; have c00 := gblk_cell k0 0; have c01 := gblk_cell k0 1; have c02 := gblk_cell k0 2; have c1 := gblk_cell k1 0; have c20 := gblk_cell k2 0; have c21 := gblk_cell k2 1; have c22 := gblk_cell k2 2; have f20 := gblk_free k2 0; have f21 := gblk_free k2 1; have f22 := gblk_free k2 2; have K2 := Aside0.mk k2; have HB1 := Aside0.mk hb1; clear k0 k1 k2 hb1; simp only [List.getElem?_toArray, List.getElem?_cons_zero, List.getElem?_cons_succ] at c00 c01 c02 c1 c20 c21 c22) | (go_at_call 17; (with_reducible refine (hIn1 _).mono ?_); rintro e w2 ⟨rfl, ⟨nd, rfl⟩⟩))
      refine bodyPost_ret (v := .tuple #[.agg #[.int .i64 0, .slice none 0 0, .int .i64 0], .bool false, .int .i64 1]) (res10 _ _ (w.heap.size + 1 + 1) _ _ _ _ _ rfl rfl rfl ?_ ?_ ?_) rfl ⟨_, rfl, Kd.R_nil _ _ _ _ _, ?_⟩
      · exact gblk_cell (gblk_set (gblk_set (gblk_set K2.out 0 _) 1 _) 2 _) 0
      · exact gblk_cell (gblk_set (gblk_set (gblk_set K2.out 0 _) 1 _) 2 _) 1
      · exact gblk_cell (gblk_set (gblk_set (gblk_set K2.out 0 _) 1 _) 2 _) 2
      · exact ((((pw_below_drewN (below_step HB3.out HB1.out) nd)).setCell (p := ⟨w.heap.size + 1 + 1, 0, none⟩) (by simp; omega) _).setCell (p := ⟨w.heap.size + 1 + 1, 1, none⟩) (by simp; omega) _).setCell (p := ⟨w.heap.size + 1 + 1, 2, none⟩) (by simp; omega) _
end Go.Proofs.Ytenpchgnjhmaaaa.Given
