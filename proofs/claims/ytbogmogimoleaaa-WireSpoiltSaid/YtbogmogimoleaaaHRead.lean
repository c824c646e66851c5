/- The walk of reader.read. -/
import Derived.Test.YtbogmogimoleaaaHSt
import Derived.Deep.RegionLaw
namespace Go.Proofs.Ytbogmogimoleaaa.Given
open Go.RowKit Go.Proofs.YtbogmogimoleaaaW.PrintWords Go.Proofs.YtbogmogimoleaaaW.PrintLast Go.Proofs.YtbogmogimoleaaaW.PrintMore Go.Proofs.Ytbogmogimoleaaa.W
set_option linter.unusedVariables false
set_option linter.unusedSimpArgs false
/-- The record behind the first numbers and j of four. -/
def rec1 (bs : List Int) (q1 q2 q3 : Int) (j : Nat) : Array Value := #[.int .i64 (q1 / 16), .int .i64 (q1 % 16), .bool (bits BinOp.and IntKind.i64 q2 1 != 0), .bool (bits BinOp.and IntKind.i64 q2 2 != 0), .int .u32 (if 0 < j then num bs 4 4 else 0), .int .u32 (if 1 < j then num bs 8 4 else 0), .int .u32 (if 2 < j then num bs 12 4 else 0), .int .u32 (if 3 < j then num bs 16 4 else 0), .int .i64 q3, .int .i64 (q2 / 4), .int .u32 0, .int .u32 0, .int .u32 0, .slice none 0 0, .slice none 0 0]
theorem rec1_step (bs : List Int) (q1 q2 q3 : Int) (j : Nat) (hj : j < 4) : (rec1 bs q1 q2 q3 j).setIfInBounds (4 + j) (.int .u32 (num bs (4 + 4 * j) 4)) = rec1 bs q1 q2 q3 (j + 1) := by
  have h : j = 0 ∨ j = 1 ∨ j = 2 ∨ j = 3 := by omega
  rcases h with rfl | rfl | rfl | rfl <;> rfl
/-- Are there bytes enough? -/
def enough (bs : List Int) : Prop := 32 + 8 * (num bs 31 1).toNat ≤ bs.length
/-- The record behind all numbers, with some spans. -/
def rec2 (bs : List Int) (q1 q2 q3 q5 q6 q7 : Int) (v : Value) : Array Value := #[.int .i64 (q1 / 16), .int .i64 (q1 % 16), .bool (bits BinOp.and IntKind.i64 q2 1 != 0), .bool (bits BinOp.and IntKind.i64 q2 2 != 0), .int .u32 (num bs 4 4), .int .u32 (num bs 8 4), .int .u32 (num bs 12 4), .int .u32 (num bs 16 4), .int .i64 q3, .int .i64 (q2 / 4), .int .u32 q5, .int .u32 q6, .int .u32 q7, v, .slice none 0 0]
def sacksB (bs : List Int) (j : Nat) : List S58 := (List.range j).map (fun i => ⟨num bs (32 + 8 * i) 4, num bs (32 + 8 * i + 4) 4⟩)
theorem sacksB_len (bs : List Int) (j : Nat) : (sacksB bs j).length = j := by simp [sacksB]
theorem sacksB_step (bs : List Int) (j : Nat) : sacksB bs (j + 1) = sacksB bs j ++ [⟨num bs (32 + 8 * j) 4, num bs (32 + 8 * j + 4) 4⟩] := by simp [sacksB, List.range_succ]
theorem St.cell13 {w0 W : World} {g h : Nat} {bs : List Int} {k : Nat} {q1 q2 q3 q5 q6 q7 : Int} {v : Value} (s : St w0 W g h bs k (rec2 bs q1 q2 q3 q5 q6 q7 v)) : W.cell? ⟨h, 13, none⟩ = some v := by
  rw [blk_cell s.rc]; rfl
def readV (bs : List Int) (A13 : Option Addr) (l13 c13 : Nat) (A14 : Option Addr) (l14 c14 : Nat) : Array Value := #[.int .i64 (num bs 0 1 / 16), .int .i64 (num bs 0 1 % 16), .bool (bits BinOp.and IntKind.i64 (num bs 1 1) 1 != 0), .bool (bits BinOp.and IntKind.i64 (num bs 1 1) 2 != 0), .int .u32 (num bs 4 4), .int .u32 (num bs 8 4), .int .u32 (num bs 12 4), .int .u32 (num bs 16 4), .int .i64 (num bs 2 2), .int .i64 (num bs 1 1 / 4), .int .u32 (num bs 20 3), .int .u32 (num bs 23 4), .int .u32 (num bs 27 4), .slice A13 l13 c13, .slice A14 l14 c14]
theorem St.all {w0 W : World} {g h : Nat} {bs : List Int} {k : Nat} {q1 q2 q3 q5 q6 q7 : Int} {v : Value} (s : St w0 W g h bs k (rec2 bs q1 q2 q3 q5 q6 q7 v)) :
    W.cell? ⟨h, 0, none⟩ = some (.int .i64 (q1 / 16)) ∧ W.cell? ⟨h, 1, none⟩ = some (.int .i64 (q1 % 16)) ∧ W.cell? ⟨h, 2, none⟩ = some (.bool (bits BinOp.and IntKind.i64 q2 1 != 0)) ∧ W.cell? ⟨h, 3, none⟩ = some (.bool (bits BinOp.and IntKind.i64 q2 2 != 0)) ∧
    W.cell? ⟨h, 4, none⟩ = some (.int .u32 (num bs 4 4)) ∧ W.cell? ⟨h, 5, none⟩ = some (.int .u32 (num bs 8 4)) ∧ W.cell? ⟨h, 6, none⟩ = some (.int .u32 (num bs 12 4)) ∧ W.cell? ⟨h, 7, none⟩ = some (.int .u32 (num bs 16 4)) ∧
    W.cell? ⟨h, 8, none⟩ = some (.int .i64 q3) ∧ W.cell? ⟨h, 9, none⟩ = some (.int .i64 (q2 / 4)) ∧ W.cell? ⟨h, 10, none⟩ = some (.int .u32 q5) ∧ W.cell? ⟨h, 11, none⟩ = some (.int .u32 q6) ∧ W.cell? ⟨h, 12, none⟩ = some (.int .u32 q7) ∧
    W.cell? ⟨h, 13, none⟩ = some v ∧ W.cell? ⟨h, 14, none⟩ = some (.slice none 0 0) := by
  refine ⟨?_, ?_, ?_, ?_, ?_, ?_, ?_, ?_, ?_, ?_, ?_, ?_, ?_, ?_, ?_⟩ <;> (rw [blk_cell s.rc]; rfl)
theorem R_but {α : Type} {d : Kd α} {e : Nat} {W W1 : World} {g b : Nat} {v : Value} {xs : List α} (h : Kd.R d e W b (fun _ => True) v xs) (hb : But W W1 g) (hg : g < b) : Kd.R d e W1 b (fun _ => True) v xs :=
  Kd.R_mono (Kd.R_step (Kd.R_bound h) (fun k hk _ => hb.block k (by have := hk.2.1; omega))) (fun _ _ => trivial)
/-- The four pointers. -/
def ptrs (h : Nat) : Array Value := #[.pointer (some ⟨h, 4, none⟩), .pointer (some ⟨h, 5, none⟩), .pointer (some ⟨h, 6, none⟩), .pointer (some ⟨h, 7, none⟩)]
def Ptrs (W : World) (b h : Nat) : Prop := W.heap[b]? = some (.cells (ptrs h) 71 (0, 0))
theorem Ptrs.cell {W : World} {b h : Nat} (p : Ptrs W b h) (j : Nat) (hj : j < 4) : W.cell? ⟨b, j, none⟩ = some (.pointer (some ⟨h, 4 + j, none⟩)) := by
  rw [blk_cell p]
  have h : j = 0 ∨ j = 1 ∨ j = 2 ∨ j = 3 := by omega
  rcases h with rfl | rfl | rfl | rfl <;> rfl
set_option maxHeartbeats 4000000 in
set_option maxRecDepth 100000 in
theorem read_calls (w0 w : World) (g : Nat) (bs : List Int) (h : RD w0 w g bs) (hlen : bs.length < 140737488355328) (Q : Ending → World → Prop) (hQ : ∀ W, ¬ enough bs → Below w0.heap.size w0 W → Q (.panicked short) W)
    (hQ2 : ∀ W A13 c13 A14 c14, enough bs → Kd.R k58 58 W w.heap.size (fun _ => True) (.slice A13 (sacksB bs (num bs 31 1).toNat).length c13) (sacksB bs (num bs 31 1).toNat) → Kd.R (Kd.int .u8) 5 W w.heap.size (fun _ => True) (.slice A14 (bs.drop (32 + 8 * (num bs 31 1).toNat)).length c14) (bs.drop (32 + 8 * (num bs 31 1).toNat)) → Below w0.heap.size w0 W → Q (.returned (.agg (readV bs A13 (sacksB bs (num bs 31 1).toNat).length c13 A14 (bs.drop (32 + 8 * (num bs 31 1).toNat)).length c14))) W) :
    Calls Try.prog 43 #[.pointer (some ⟨g, 0, none⟩)] w Q := by
  have HS0 := Aside0.mk (St.start h)
  have hgw := h.lt
  clear h
  go_enter Try.func43, Try.ntmps43
  go_wp2_with (first
    | (go_at_call 44; (with_reducible refine (num_calls (((((HS2.out.set _ _).set _ _).set _ _).set _ _).set _ _) 2 2 65536 rfl (by omega) (by omega) (by decide)).mono ?_); rintro e w3 (⟨hs, rfl, hpb⟩ | ⟨q3, hq3, h03, h13, hl3, rfl, HS3, hbut3⟩); (exact ⟨rfl, hQ _ (by unfold enough; omega) hpb.out⟩); obtain ⟨⟨v3_8, c3_8⟩, f3_8⟩ := HS3.out.cell 8 (by omega))
    | (go_at_call 44; (with_reducible refine (num_calls HS1.out 1 1 256 rfl (by omega) (by omega) (by decide)).mono ?_); rintro e w2 (⟨hs, rfl, hpb⟩ | ⟨q2, hq2, h02, h12, hl2, rfl, HS2, hbut2⟩); (exact ⟨rfl, hQ _ (by unfold enough; omega) hpb.out⟩); obtain ⟨⟨v2_0, c2_0⟩, f2_0⟩ := HS2.out.cell 0 (by omega); obtain ⟨⟨v2_1, c2_1⟩, f2_1⟩ := HS2.out.cell 1 (by omega); obtain ⟨⟨v2_2, c2_2⟩, f2_2⟩ := HS2.out.cell 2 (by omega); obtain ⟨⟨v2_3, c2_3⟩, f2_3⟩ := HS2.out.cell 3 (by omega); obtain ⟨⟨v2_9, c2_9⟩, f2_9⟩ := HS2.out.cell 9 (by omega))
    | (go_at_call 44; (with_reducible refine (num_calls HS0.out 1 1 256 rfl (by omega) (by omega) (by decide)).mono ?_); rintro e w1 (⟨hs, rfl, hpb⟩ | ⟨q1, hq1, h01, h11, hl1, rfl, HS1, hbut1⟩); (exact ⟨rfl, hQ _ (by unfold enough; omega) hpb.out⟩)))
  have HS := Aside0.mk ((HS3.out.set 8 (.int .i64 q3)).alloc (.cells (ptrs w.heap.size) 71))
  have hb3 : w.heap.size < w3.heap.size := by have := (Array.getElem?_eq_some_iff.1 HS3.out.rc).1; exact this
  have hsz3 : (w3.setCell ⟨w.heap.size, 8, none⟩ (.int .i64 q3)).heap.size = w3.heap.size := (But.setCell w3 w.heap.size 8 (.int .i64 q3)).size
  have HP : Aside0 (Ptrs ((w3.setCell ⟨w.heap.size, 8, none⟩ (.int .i64 q3)).alloc (.cells (ptrs w.heap.size) 71)) w3.heap.size w.heap.size) := ⟨by
    rw [← hsz3]
    show (Array.push _ _)[_]? = _
    exact Array.getElem?_push_size⟩
  generalize hh : w.heap.size = h at *
  generalize hbl : w3.heap.size = b at *
  clear hsz3 hbl HS0 HS1 hbut1 HS2 hbut2 HS3 hbut3 c2_0 f2_0 c2_1 f2_1 c2_2 f2_2 c2_3 f2_3 c2_9 f2_9 c3_8 f3_8
  go_loopw [38] (fun v38 wr => ∃ j : Nat, j ≤ 4 ∧ v38 = .int .i64 j ∧ Aside0 (St w0 wr g h bs (4 + 4 * j) (rec1 bs q1 q2 q3 j)) ∧ Aside0 (Ptrs wr b h)) (fun v38 _ => 4 - (intOf v38).toNat)
  case atStart => exact ⟨0, Nat.zero_le _, rfl, HS, HP⟩
  case round =>
    obtain ⟨j, hj, rfl, HSJ, HPJ⟩ := hrel
    by_cases hjt : j < 4
    · have hcp := HPJ.out.cell j hjt
      go_wp2_with (go_at_call 44; (with_reducible refine (num_calls HSJ.out 4 4 4294967296 rfl (by omega) (by omega) (by decide)).mono ?_); rintro e wj (⟨hs, rfl, hpb⟩ | ⟨qj, hqj, h0j, h1j, hlj, rfl, HSK, hbutj⟩); (exact ⟨rfl, hQ _ (by unfold enough; omega) hpb.out⟩); obtain ⟨⟨vj, cj⟩, fj⟩ := HSK.out.cell (4 + j) (by omega))
      have hst := HSK.out.set (4 + j) (.int .u32 qj)
      rw [hqj.out, rec1_step _ _ _ _ _ hjt, ← hqj.out] at hst
      refine ⟨⟨j + 1, by omega, rfl, ⟨(show 4 + 4 * j + 4 = 4 + 4 * (j + 1) by omega) ▸ hst⟩, ⟨?_⟩⟩, by simp [intOf]; omega⟩
      have hp1 : Ptrs wj b h := (hbutj.out.block b (by omega)).trans HPJ.out
      exact ((But.setCell wj h (4 + j) (.int .u32 qj)).block b (by omega)).trans hp1
    · obtain rfl : j = 4 := by omega
      have HS4 := HSJ
      clear HSJ HPJ
      obtain ⟨⟨v4_10, c4_10⟩, f4_10⟩ := HS4.out.cell 10 (by omega)
      clear c4_10 f4_10
      go_wp2_with (first
        | (go_at_call 44; (with_reducible refine (num_calls ((HS7.out.set _ _).set _ _) 1 1 256 rfl (by omega) (by omega) (by decide)).mono ?_); rintro e w8 (⟨hs, rfl, hpb⟩ | ⟨q8, hq8, h08, h18, hl8, rfl, HS8, hbut8⟩); (exact ⟨rfl, hQ _ (by unfold enough; omega) hpb.out⟩))
        | (go_at_call 44; (with_reducible refine (num_calls HS6.out 4 4 4294967296 rfl (by omega) (by omega) (by decide)).mono ?_); rintro e w7 (⟨hs, rfl, hpb⟩ | ⟨q7, hq7, h07, h17, hl7, rfl, HS7, hbut7⟩); (exact ⟨rfl, hQ _ (by unfold enough; omega) hpb.out⟩); obtain ⟨⟨v7_11, c7_11⟩, f7_11⟩ := HS7.out.cell 11 (by omega); obtain ⟨⟨v7_12, c7_12⟩, f7_12⟩ := HS7.out.cell 12 (by omega))
        | (go_at_call 44; (with_reducible refine (num_calls (HS5.out.set _ _) 4 4 4294967296 rfl (by omega) (by omega) (by decide)).mono ?_); rintro e w6 (⟨hs, rfl, hpb⟩ | ⟨q6, hq6, h06, h16, hl6, rfl, HS6, hbut6⟩); (exact ⟨rfl, hQ _ (by unfold enough; omega) hpb.out⟩))
        | (go_at_call 44; (with_reducible refine (num_calls HS4.out 3 3 16777216 rfl (by omega) (by omega) (by decide)).mono ?_); rintro e w5 (⟨hs, rfl, hpb⟩ | ⟨q5, hq5, h05, h15, hl5, rfl, HS5, hbut5⟩); (exact ⟨rfl, hQ _ (by unfold enough; omega) hpb.out⟩); obtain ⟨⟨v5_10, c5_10⟩, f5_10⟩ := HS5.out.cell 10 (by omega)))
      have HS9 : Aside0 (St w0 w8 g h bs 32 (rec2 bs q1 q2 q3 q5 q6 q7 (.slice none 0 0))) := ⟨HS8.out⟩
      have HW8 : Aside0 (w8.heap.size = w8.heap.size) := ⟨rfl⟩
      have hh8 : h < w8.heap.size := (Array.getElem?_eq_some_iff.1 HS9.out.rc).1
      have hq31 : q8 = num bs 31 1 := hq8.out
      have HQ8 := Aside0.mk hq31
      have hl8' : 32 ≤ bs.length := hl8.out
      have HR9 := Aside0.mk (Kd.R_nil k58 58 w8 w8.heap.size (fun _ => True))
      generalize hb2 : w8.heap.size = b2 at *
      have HZ9 : Aside0 (b2 ≤ w8.heap.size) := ⟨Nat.le_of_eq hb2.symm⟩
      clear hq31 hb2 HW8 HS8 hq8 hl8 HS4 hbut5 hbut6 hbut7 hbut8 HS5 HS6 HS7 c5_10 f5_10 c7_11 f7_11 c7_12 f7_12
      go_loopw [62] (fun v62 wr => ∃ j : Nat, j ≤ q8.toNat ∧ v62 = .int .i64 j ∧ ∃ v, Aside0 (St w0 wr g h bs (32 + 8 * j) (rec2 bs q1 q2 q3 q5 q6 q7 v)) ∧ Aside0 (Kd.R k58 58 wr b2 (fun _ => True) v (sacksB bs j)) ∧ Aside0 (b2 ≤ wr.heap.size)) (fun v62 _ => q8.toNat - (intOf v62).toNat)
      case atStart => exact ⟨0, Nat.zero_le _, rfl, _, HS9, HR9, HZ9⟩
      case round =>
        clear HS9 HR9 HZ9
        obtain ⟨j, hj, rfl, v, HSJ, HRJ, HZJ⟩ := hrel
        by_cases hjt : j < q8.toNat
        · have hjq : (j : Int) < q8 := by omega
          go_wp2_with (go_at_call 44; (with_reducible refine (num_calls HSJ.out 4 4 4294967296 rfl (by omega) (by omega) (by decide)).mono ?_); rintro e wj (⟨hs, rfl, hpb⟩ | ⟨qj, hqj, h0j, h1j, hlj, rfl, HSK, hbutj⟩); (exact ⟨rfl, hQ _ (by unfold enough; rw [← HQ8.out]; omega) hpb.out⟩))
          have hc13 := HSK.out.cell13
          have hf13 := (HSK.out.cell 13 (by omega)).2
          have HRK := Aside0.mk (R_but HRJ.out hbutj.out (by omega))
          have hzk : b2 ≤ wj.heap.size := by rw [hbutj.out.size]; exact HZJ.out
          have HSD := Aside0.mk (HSK.out.below (below_drew (Below.refl _ _)))
          have hwj : IntKind.u32.wrap qj = qj := by rw [IntKind.wrap_u32]; omega
          go_region_law (first
            | (go_simp; go_at_call 44; (with_reducible refine (num_calls HSD.out 4 4 4294967296 rfl (by omega) (by omega) (by decide)).mono ?_); rintro e wk (⟨hs, rfl, hpb⟩ | ⟨qk, hqk, h0k, h1k, hlk, rfl, HSL, hbutk⟩); (exact ⟨rfl, hQ _ (by unfold enough; rw [← HQ8.out]; omega) hpb.out⟩); have hc13k := HSL.out.cell13; have hc13a := fun o => (HSL.out.alloc o).cell13; have hf13k := (HSL.out.cell 13 (by omega)).2; have HRL := Aside0.mk (R_but (W := wj.drew) HRK.out hbutk.out (by omega)); have hwk : IntKind.u32.wrap qk = qk := (by rw [IntKind.wrap_u32]; omega); have hszk : b2 ≤ wk.heap.size := by have h2 := hbutk.out.size; have h3 : wj.drew.heap.size = wj.heap.size := rfl; omega)
            | (refine Kd.R_append_step k58 (w0 := wk) b2 (by rfl) (.tmp 67) (.tmp 74) 39 58 (.agg #[.int .u32 0, .int .u32 0]) 8 rfl Try.underlying39 info58 rfl (by decide) (by omega) v (sacksB bs j) (⟨qj, qk⟩ : S58) [.int .u32 qj, .int .u32 qk] (fun _ => True) (fun _ => False) (by simp [Act.eval, Act.put]) (by simp [Act.eval, Act.put]) (k58_mkM _ _ _ _) (fun _ hk => hk.elim) (fun _ _ => trivial) HRL.out (Below.refl _ _) hszk (by rw [sacksB_len]; omega) ?_; intro v1 w2_ hr1 hb1 hg1 hat1; obtain ⟨A1, c1, rfl⟩ := Kd.R_slice hr1; have hc13l := (hb1.cell (p := ⟨h, 13, none⟩) hh8).trans hc13k; have hf13l := (hb1.frozen (p := ⟨h, 13, none⟩) hh8).trans hf13k; have HB1 := Aside0.mk hb1; have HR1 := Aside0.mk hr1; clear hb1 hr1 hg1 hat1))
          all_goals
            go_wp2
            have hlen1 : (sacksB bs j).length + 1 = (sacksB bs (j + 1)).length := by rw [sacksB_len, sacksB_len]
            have hs1 := (HSL.out.belowB HB1.out hh8 (by omega) (by have := HSL.out.base; omega)).set 13 (.slice A1 ((sacksB bs j).length + 1) c1)
            have hr2 := R_but HR1.out (But.setCell w2_ h 13 (.slice A1 ((sacksB bs j).length + 1) c1)) hh8
            have e1 : (⟨qj, qk⟩ : S58) = ⟨num bs (32 + 8 * j) 4, num bs (32 + 8 * j + 4) 4⟩ := by rw [hqj.out, hqk.out]
            rw [e1, ← sacksB_step] at hr2
            rw [← hlen1] at hr2
            refine ⟨⟨j + 1, by omega, rfl, _, ⟨(show 32 + 8 * j + 4 + 4 = 32 + 8 * (j + 1) by omega) ▸ hs1⟩, ⟨hr2⟩, ⟨?_⟩⟩, by simp [intOf]; omega⟩
            rw [(But.setCell w2_ h 13 _).size]
            exact Nat.le_trans hszk HB1.out.size
        · obtain rfl : j = q8.toNat := by omega
          obtain ⟨A13, c13, rfl⟩ := Kd.R_slice HRJ.out
          obtain ⟨A, c, k1, k2, k3, k4, k5, k6⟩ := HSJ.out.rd
          have e0 := (one_cell (j := 0) k1 (by simp)).1
          simp only [List.getElem_toArray, List.getElem_cons_zero] at e0
          have hcl := bytes_Clone.calls A c (bs.drop (32 + 8 * q8.toNat)) _ wr (Kd.C_below k2 k4) k3 (if_pos (by rw [List.length_drop]; omega))
          clear k1 k2 k3 k4 k5 k6
          obtain ⟨rest, hrest⟩ : ∃ rest, rest = bs.drop (32 + 8 * q8.toNat) := ⟨_, rfl⟩
          rw [← hrest] at hcl e0
          have HRE := Aside0.mk hrest
          have HCL := Aside0.mk hcl
          clear hcl hrest
          go_wp2_with (go_at_call 35; (with_reducible refine HCL.out.mono ?_); rintro e wc ⟨vb, rfl, hrb, hbb⟩; obtain ⟨Ab, cb, rfl⟩ := Kd.R_slice hrb; have HRB := Aside0.mk hrb; have HBB := Aside0.mk hbb; have HSC := Aside0.mk (HSJ.out.below hbb); obtain ⟨z0, z1, z2, z3, z4, z5, z6, z7, z8, z9, z10, z11, z12, z13, z14⟩ := HSC.out.all; have y0 := (HSC.out.cell 0 (by omega)).2; have y1 := (HSC.out.cell 1 (by omega)).2; have y2 := (HSC.out.cell 2 (by omega)).2; have y3 := (HSC.out.cell 3 (by omega)).2; have y4 := (HSC.out.cell 4 (by omega)).2; have y5 := (HSC.out.cell 5 (by omega)).2; have y6 := (HSC.out.cell 6 (by omega)).2; have y7 := (HSC.out.cell 7 (by omega)).2; have y8 := (HSC.out.cell 8 (by omega)).2; have y9 := (HSC.out.cell 9 (by omega)).2; have y10 := (HSC.out.cell 10 (by omega)).2; have y11 := (HSC.out.cell 11 (by omega)).2; have y12 := (HSC.out.cell 12 (by omega)).2; have y13 := (HSC.out.cell 13 (by omega)).2; have y14 := (HSC.out.cell 14 (by omega)).2; clear hrb hbb)
          have hrc := fill16 (b14 := .slice Ab rest.length cb) (b0 := .int .i64 (q1 / 16)) (b1 := .int .i64 (q1 % 16)) (b2 := .bool (bits BinOp.and IntKind.i64 q2 1 != 0)) (b3 := .bool (bits BinOp.and IntKind.i64 q2 2 != 0)) (b4 := .int .u32 (num bs 4 4)) (b5 := .int .u32 (num bs 8 4)) (b6 := .int .u32 (num bs 12 4)) (b7 := .int .u32 (num bs 16 4)) (b8 := .int .i64 q3) (b9 := .int .i64 (q2 / 4)) (b10 := .int .u32 q5) (b11 := .int .u32 q6) (b12 := .int .u32 q7) (b13 := .slice A13 (sacksB bs q8.toNat).length c13) HSC.out.rc
          refine bodyPost_ret (results_single (r := .cell 2 41) rfl (.cell h 41 #[.int .i64 (q1 / 16), .int .i64 (q1 % 16), .bool (bits BinOp.and IntKind.i64 q2 1 != 0), .bool (bits BinOp.and IntKind.i64 q2 2 != 0), .int .u32 (num bs 4 4), .int .u32 (num bs 8 4), .int .u32 (num bs 12 4), .int .u32 (num bs 16 4), .int .i64 q3, .int .i64 (q2 / 4), .int .u32 q5, .int .u32 q6, .int .u32 q7, .slice A13 (sacksB bs q8.toNat).length c13, .slice Ab rest.length cb] (0, 0) _ rfl (hrc) Try.underlying41 rfl (by kernel_rfl) .nil)) rfl ?_
          have hbt := fill16_but (W := wc) (h := h) (b14 := .slice Ab rest.length cb) (b0 := .int .i64 (q1 / 16)) (b1 := .int .i64 (q1 % 16)) (b2 := .bool (bits BinOp.and IntKind.i64 q2 1 != 0)) (b3 := .bool (bits BinOp.and IntKind.i64 q2 2 != 0)) (b4 := .int .u32 (num bs 4 4)) (b5 := .int .u32 (num bs 8 4)) (b6 := .int .u32 (num bs 12 4)) (b7 := .int .u32 (num bs 16 4)) (b8 := .int .i64 q3) (b9 := .int .i64 (q2 / 4)) (b10 := .int .u32 q5) (b11 := .int .u32 q6) (b12 := .int .u32 q7) (b13 := .slice A13 (sacksB bs q8.toNat).length c13)
          clear hrc
          revert hbt
          generalize (World.setCell _ ⟨h, 14, none⟩ (.slice Ab rest.length cb)) = WE
          intro hbt
          have hx : h < wr.heap.size := (Array.getElem?_eq_some_iff.1 HSJ.out.rc).1
          have hR13 := Kd.R_lower (R_but (Kd.R_below HRJ.out HBB.out) hbt hh8) (Nat.le_of_lt hh8)
          have hR14 := Kd.R_lower (R_but HRB.out hbt hx) (Nat.le_of_lt hx)
          have hBW := HSC.out.below0.trans (hbt.below HSJ.out.base)
          have hen : enough bs := by unfold enough; rw [← HQ8.out]; exact HSJ.out.le
          have er := HRE.out
          have e8 := HQ8.out
          have e1 := hq1.out; have e2 := hq2.out; have e3 := hq3.out; have e5 := hq5.out; have e6 := hq6.out; have e7 := hq7.out
          clear HSJ HRJ HSC HRB HBB HRE HQ8 hbt HCL
          subst er e8 e1 e2 e3 e5 e6 e7
          exact hQ2 WE A13 c13 Ab cb hen hR13 hR14 hBW
end Go.Proofs.Ytbogmogimoleaaa.Given
