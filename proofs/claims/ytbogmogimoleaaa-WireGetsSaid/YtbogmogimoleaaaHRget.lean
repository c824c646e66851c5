/- The walk of the document's Get. -/
import Derived.Test.YtbogmogimoleaaaHPlainB
import Derived.Deep.RegionLaw
import Derived.Deep.RegionHeld
import Derived.Deep.RegionHeldLaw
import Derived.Deep.Cut
namespace Go.Proofs.Ytbogmogimoleaaa.Given
open Go.RowKit Go.Proofs.YtbogmogimoleaaaW.PrintWords Go.Proofs.YtbogmogimoleaaaW.PrintLast Go.Proofs.YtbogmogimoleaaaW.PrintMore Go.Proofs.Ytbogmogimoleaaa.W Go.Proofs.Ytbogmogimoleaaa.Plain7
set_option linter.unusedVariables false
set_option linter.unusedSimpArgs false
theorem fillG {W : World} {h : Nat} {c0 c1 c2 c3 c4 c5 c6 c7 c8 c9 c10 c11 c12 c13 c14 b2 b3 b4 b5 b6 b7 b10 b11 b12 : Value} {m4 m5 m6 m7 m10 m11 m12 : Nat} (r : Rec W h #[c0, c1, c2, c3, c4, c5, c6, c7, c8, c9, c10, c11, c12, c13, c14]) : Rec ((((((((((((((((W.setCell ⟨h, 2, none⟩ b2).setCell ⟨h, 3, none⟩ b3).drewN m4).setCell ⟨h, 4, none⟩ b4).drewN m5).setCell ⟨h, 5, none⟩ b5).drewN m6).setCell ⟨h, 6, none⟩ b6).drewN m7).setCell ⟨h, 7, none⟩ b7).drewN m10).setCell ⟨h, 10, none⟩ b10).drewN m11).setCell ⟨h, 11, none⟩ b11).drewN m12).setCell ⟨h, 12, none⟩ b12) h #[c0, c1, b2, b3, b4, b5, b6, b7, c8, c9, b10, b11, b12, c13, c14] := by
  have r1 : Rec (W.setCell ⟨h, 2, none⟩ b2) h #[c0, c1, b2, c3, c4, c5, c6, c7, c8, c9, c10, c11, c12, c13, c14] := blk_put (cs := #[c0, c1, c2, c3, c4, c5, c6, c7, c8, c9, c10, c11, c12, c13, c14]) r 2 b2 (by simp only [List.setIfInBounds_toArray, List.set_cons_zero, List.set_cons_succ])
  generalize hW1 : W.setCell ⟨h, 2, none⟩ b2 = W1 at *
  have r2 : Rec (W1.setCell ⟨h, 3, none⟩ b3) h #[c0, c1, b2, b3, c4, c5, c6, c7, c8, c9, c10, c11, c12, c13, c14] := blk_put (cs := #[c0, c1, b2, c3, c4, c5, c6, c7, c8, c9, c10, c11, c12, c13, c14]) r1 3 b3 (by simp only [List.setIfInBounds_toArray, List.set_cons_zero, List.set_cons_succ])
  generalize hW2 : W1.setCell ⟨h, 3, none⟩ b3 = W2 at *
  have r3 : Rec (W2.drewN m4) h #[c0, c1, b2, b3, c4, c5, c6, c7, c8, c9, c10, c11, c12, c13, c14] := blk_drewN r2 m4
  generalize hW3 : W2.drewN m4 = W3 at *
  have r4 : Rec (W3.setCell ⟨h, 4, none⟩ b4) h #[c0, c1, b2, b3, b4, c5, c6, c7, c8, c9, c10, c11, c12, c13, c14] := blk_put (cs := #[c0, c1, b2, b3, c4, c5, c6, c7, c8, c9, c10, c11, c12, c13, c14]) r3 4 b4 (by simp only [List.setIfInBounds_toArray, List.set_cons_zero, List.set_cons_succ])
  generalize hW4 : W3.setCell ⟨h, 4, none⟩ b4 = W4 at *
  have r5 : Rec (W4.drewN m5) h #[c0, c1, b2, b3, b4, c5, c6, c7, c8, c9, c10, c11, c12, c13, c14] := blk_drewN r4 m5
  generalize hW5 : W4.drewN m5 = W5 at *
  have r6 : Rec (W5.setCell ⟨h, 5, none⟩ b5) h #[c0, c1, b2, b3, b4, b5, c6, c7, c8, c9, c10, c11, c12, c13, c14] := blk_put (cs := #[c0, c1, b2, b3, b4, c5, c6, c7, c8, c9, c10, c11, c12, c13, c14]) r5 5 b5 (by simp only [List.setIfInBounds_toArray, List.set_cons_zero, List.set_cons_succ])
  generalize hW6 : W5.setCell ⟨h, 5, none⟩ b5 = W6 at *
  have r7 : Rec (W6.drewN m6) h #[c0, c1, b2, b3, b4, b5, c6, c7, c8, c9, c10, c11, c12, c13, c14] := blk_drewN r6 m6
  generalize hW7 : W6.drewN m6 = W7 at *
  have r8 : Rec (W7.setCell ⟨h, 6, none⟩ b6) h #[c0, c1, b2, b3, b4, b5, b6, c7, c8, c9, c10, c11, c12, c13, c14] := blk_put (cs := #[c0, c1, b2, b3, b4, b5, c6, c7, c8, c9, c10, c11, c12, c13, c14]) r7 6 b6 (by simp only [List.setIfInBounds_toArray, List.set_cons_zero, List.set_cons_succ])
  generalize hW8 : W7.setCell ⟨h, 6, none⟩ b6 = W8 at *
  have r9 : Rec (W8.drewN m7) h #[c0, c1, b2, b3, b4, b5, b6, c7, c8, c9, c10, c11, c12, c13, c14] := blk_drewN r8 m7
  generalize hW9 : W8.drewN m7 = W9 at *
  have r10 : Rec (W9.setCell ⟨h, 7, none⟩ b7) h #[c0, c1, b2, b3, b4, b5, b6, b7, c8, c9, c10, c11, c12, c13, c14] := blk_put (cs := #[c0, c1, b2, b3, b4, b5, b6, c7, c8, c9, c10, c11, c12, c13, c14]) r9 7 b7 (by simp only [List.setIfInBounds_toArray, List.set_cons_zero, List.set_cons_succ])
  generalize hW10 : W9.setCell ⟨h, 7, none⟩ b7 = W10 at *
  have r11 : Rec (W10.drewN m10) h #[c0, c1, b2, b3, b4, b5, b6, b7, c8, c9, c10, c11, c12, c13, c14] := blk_drewN r10 m10
  generalize hW11 : W10.drewN m10 = W11 at *
  have r12 : Rec (W11.setCell ⟨h, 10, none⟩ b10) h #[c0, c1, b2, b3, b4, b5, b6, b7, c8, c9, b10, c11, c12, c13, c14] := blk_put (cs := #[c0, c1, b2, b3, b4, b5, b6, b7, c8, c9, c10, c11, c12, c13, c14]) r11 10 b10 (by simp only [List.setIfInBounds_toArray, List.set_cons_zero, List.set_cons_succ])
  generalize hW12 : W11.setCell ⟨h, 10, none⟩ b10 = W12 at *
  have r13 : Rec (W12.drewN m11) h #[c0, c1, b2, b3, b4, b5, b6, b7, c8, c9, b10, c11, c12, c13, c14] := blk_drewN r12 m11
  generalize hW13 : W12.drewN m11 = W13 at *
  have r14 : Rec (W13.setCell ⟨h, 11, none⟩ b11) h #[c0, c1, b2, b3, b4, b5, b6, b7, c8, c9, b10, b11, c12, c13, c14] := blk_put (cs := #[c0, c1, b2, b3, b4, b5, b6, b7, c8, c9, b10, c11, c12, c13, c14]) r13 11 b11 (by simp only [List.setIfInBounds_toArray, List.set_cons_zero, List.set_cons_succ])
  generalize hW14 : W13.setCell ⟨h, 11, none⟩ b11 = W14 at *
  have r15 : Rec (W14.drewN m12) h #[c0, c1, b2, b3, b4, b5, b6, b7, c8, c9, b10, b11, c12, c13, c14] := blk_drewN r14 m12
  generalize hW15 : W14.drewN m12 = W15 at *
  have r16 : Rec (W15.setCell ⟨h, 12, none⟩ b12) h #[c0, c1, b2, b3, b4, b5, b6, b7, c8, c9, b10, b11, b12, c13, c14] := blk_put (cs := #[c0, c1, b2, b3, b4, b5, b6, b7, c8, c9, b10, b11, c12, c13, c14]) r15 12 b12 (by simp only [List.setIfInBounds_toArray, List.set_cons_zero, List.set_cons_succ])
  generalize hW16 : W15.setCell ⟨h, 12, none⟩ b12 = W16 at *
  exact r16
theorem own_cells {w : World} {A : Option Addr} {c : Nat} {l : List Int} (h : By w A c l) (hl : 32 ≤ l.length) : ∃ ad : Addr, A = some ad ∧ w.cell? ⟨ad.block, ad.off + 31, none⟩ = some (.int .u8 (num l 31 1)) ∧ w.cell? ad = some (.int .u8 (num l 0 1)) ∧ w.cell? ⟨ad.block, ad.off + 1, none⟩ = some (.int .u8 (num l 1 1)) := by
  obtain ⟨ad, e, h31⟩ := Kd.at_int h.1 31 (by omega) (by omega)
  obtain ⟨ad0, e0, h0⟩ := Kd.at_int h.1 0 (by omega) (by omega)
  obtain ⟨ad1, e1, h1⟩ := Kd.at_int h.1 1 (by omega) (by omega)
  rw [e] at e0 e1
  cases e0
  cases e1
  rw [show rd l 31 = num l 31 1 by rw [num_one l 31 (by omega)]; exact rd_get l 31 (by omega)] at h31
  rw [show rd l 0 = num l 0 1 by rw [num_one l 0 (by omega)]; exact rd_get l 0 (by omega)] at h0
  rw [show rd l 1 = num l 1 1 by rw [num_one l 1 (by omega)]; exact rd_get l 1 (by omega)] at h1
  exact ⟨ad, e, h31, h0, h1⟩
def wz (w : World) : World := (w.alloc (.cells zeros 41)).alloc (.cells zeros 41)
theorem wz_size (w : World) : (wz w).heap.size = w.heap.size + 1 + 1 := by
  show ((w.heap.push _).push _).size = _
  rw [Array.size_push, Array.size_push]
theorem wz_below (w : World) : Below w.heap.size w (wz w) := below_alloc (below_alloc (Below.refl _ _) _) _
theorem wz_one (w : World) : Rec (wz w) w.heap.size zeros := blk_alloc (blk_new w (.cells zeros 41)) _
theorem wz_two (w : World) : Rec (wz w) (w.heap.size + 1) zeros := by
  have h := blk_new (w.alloc (.cells zeros 41)) (.cells zeros 41)
  rw [show (w.alloc (.cells zeros 41)).heap.size = w.heap.size + 1 from Array.size_push _] at h
  exact h
set_option maxHeartbeats 4000000 in
set_option maxRecDepth 100000 in
theorem rget_bad (b own : List Int) (err : Int) (ho : opnd b = (own, err)) (herr : err ≠ 0) (hb : Byt b) (hn : b.length ≤ 1000000) (A : Option Addr) (c : Nat) (w : World) (h : By w A c b) :
    Calls Try.prog 31 #[.slice A b.length c] w fun e w' => e = .returned (.tuple #[.agg zeros, .int .i64 err]) ∧ Below w.heap.size w w' := by
  have HOP : Aside0 (Calls Try.prog 17 #[.slice A b.length c] ((w.alloc (.cells #[.int .i64 0, .int .i64 0, .bool false, .bool false, .int .u32 0, .int .u32 0, .int .u32 0, .int .u32 0, .int .i64 0, .int .i64 0, .int .u32 0, .int .u32 0, .int .u32 0, .slice none 0 0, .slice none 0 0] 41)).alloc (.cells #[.int .i64 0, .int .i64 0, .bool false, .bool false, .int .u32 0, .int .u32 0, .int .u32 0, .int .u32 0, .int .i64 0, .int .i64 0, .int .u32 0, .int .u32 0, .int .u32 0, .slice none 0 0, .slice none 0 0] 41)) fun e w' => ∃ (A2 : Option Addr) (c2 : Nat), e = .returned (.tuple #[.slice A2 own.length c2, .int .i64 err]) ∧ Aside0 (By w' A2 c2 own) ∧ Aside0 (Below (wz w).heap.size (wz w) w')) := ⟨k_ropen ho hb hn (h.later (wz_below w))⟩
  have hne : (err == 0) = false := by rw [beq_eq_false_iff_ne]; exact herr
  clear h ho herr
  go_enter Try.func31, Try.ntmps31
  go_wp2_with (go_at_call 17; (with_reducible refine HOP.out.mono ?_); rintro e w1 ⟨A2, c2, rfl, hby, hbl⟩; have hrec := Aside0.mk (show Rec w1 w.heap.size zeros from blk_below (wz_one w) hbl.out); have hrec2 := Aside0.mk (show Rec w1 (w.heap.size + 1) zeros from blk_below (wz_two w) hbl.out); obtain ⟨z0, z1, z2, z3, z4, z5, z6, z7, z8, z9, z10, z11, z12, z13, z14⟩ := hrec.out.all; have zf0 := (hrec.out).frozen 0; have zf1 := (hrec.out).frozen 1; have zf2 := (hrec.out).frozen 2; have zf3 := (hrec.out).frozen 3; have zf4 := (hrec.out).frozen 4; have zf5 := (hrec.out).frozen 5; have zf6 := (hrec.out).frozen 6; have zf7 := (hrec.out).frozen 7; have zf8 := (hrec.out).frozen 8; have zf9 := (hrec.out).frozen 9; have zf10 := (hrec.out).frozen 10; have zf11 := (hrec.out).frozen 11; have zf12 := (hrec.out).frozen 12; have zf13 := (hrec.out).frozen 13; have zf14 := (hrec.out).frozen 14; obtain ⟨y0, y1, y2, y3, y4, y5, y6, y7, y8, y9, y10, y11, y12, y13, y14⟩ := hrec2.out.all)
  have h6 := fill15 (b0 := .int .i64 0) (b1 := .int .i64 0) (b2 := .bool false) (b3 := .bool false) (b4 := .int .u32 0) (b5 := .int .u32 0) (b6 := .int .u32 0) (b7 := .int .u32 0) (b8 := .int .i64 0) (b9 := .int .i64 0) (b10 := .int .u32 0) (b11 := .int .u32 0) (b12 := .int .u32 0) (b13 := .slice none 0 0) (b14 := .slice none 0 0) hrec.out
  have h6b := fill15_but (W := w1) (h := w.heap.size) (b0 := .int .i64 0) (b1 := .int .i64 0) (b2 := .bool false) (b3 := .bool false) (b4 := .int .u32 0) (b5 := .int .u32 0) (b6 := .int .u32 0) (b7 := .int .u32 0) (b8 := .int .i64 0) (b9 := .int .i64 0) (b10 := .int .u32 0) (b11 := .int .u32 0) (b12 := .int .u32 0) (b13 := .slice none 0 0) (b14 := .slice none 0 0)
  refine bodyPost_ret (results_list (rs := [.cell 2 41, .tmp 3]) rfl (by simp) (.cell w.heap.size 41 zeros (0, 0) _ rfl h6 Try.underlying41 rfl (by kernel_rfl) (.tmp .nil))) rfl ?_
  exact ⟨rfl, ((wz_below w).trans (hbl.out.mono (wz_below w).size)).trans (h6b.below (Nat.le_refl _))⟩
set_option maxHeartbeats 4000000 in
set_option maxRecDepth 100000 in
theorem rget_few (b own : List Int) (ho : opnd b = (own, 0)) (hfew : own.length < 32) (hb : Byt b) (hn : b.length ≤ 1000000) (A : Option Addr) (c : Nat) (w : World) (h : By w A c b) :
    Calls Try.prog 31 #[.slice A b.length c] w fun e w' => e = .returned (.tuple #[.agg zeros, .int .i64 7]) ∧ Below w.heap.size w w' := by
  have HOP : Aside0 (Calls Try.prog 17 #[.slice A b.length c] ((w.alloc (.cells #[.int .i64 0, .int .i64 0, .bool false, .bool false, .int .u32 0, .int .u32 0, .int .u32 0, .int .u32 0, .int .i64 0, .int .i64 0, .int .u32 0, .int .u32 0, .int .u32 0, .slice none 0 0, .slice none 0 0] 41)).alloc (.cells #[.int .i64 0, .int .i64 0, .bool false, .bool false, .int .u32 0, .int .u32 0, .int .u32 0, .int .u32 0, .int .i64 0, .int .i64 0, .int .u32 0, .int .u32 0, .int .u32 0, .slice none 0 0, .slice none 0 0] 41)) fun e w' => ∃ (A2 : Option Addr) (c2 : Nat), e = .returned (.tuple #[.slice A2 own.length c2, .int .i64 0]) ∧ Aside0 (By w' A2 c2 own) ∧ Aside0 (Below (wz w).heap.size (wz w) w')) := ⟨k_ropen ho hb hn (h.later (wz_below w))⟩
  have hd : decide ((own.length : Int) < 32) = true := decide_eq_true (by omega)
  clear h ho hfew
  go_enter Try.func31, Try.ntmps31
  go_wp2_with (go_at_call 17; (with_reducible refine HOP.out.mono ?_); rintro e w1 ⟨A2, c2, rfl, hby, hbl⟩; have hrec := Aside0.mk (show Rec w1 w.heap.size zeros from blk_below (wz_one w) hbl.out); have hrec2 := Aside0.mk (show Rec w1 (w.heap.size + 1) zeros from blk_below (wz_two w) hbl.out); obtain ⟨z0, z1, z2, z3, z4, z5, z6, z7, z8, z9, z10, z11, z12, z13, z14⟩ := hrec.out.all; have zf0 := (hrec.out).frozen 0; have zf1 := (hrec.out).frozen 1; have zf2 := (hrec.out).frozen 2; have zf3 := (hrec.out).frozen 3; have zf4 := (hrec.out).frozen 4; have zf5 := (hrec.out).frozen 5; have zf6 := (hrec.out).frozen 6; have zf7 := (hrec.out).frozen 7; have zf8 := (hrec.out).frozen 8; have zf9 := (hrec.out).frozen 9; have zf10 := (hrec.out).frozen 10; have zf11 := (hrec.out).frozen 11; have zf12 := (hrec.out).frozen 12; have zf13 := (hrec.out).frozen 13; have zf14 := (hrec.out).frozen 14; obtain ⟨y0, y1, y2, y3, y4, y5, y6, y7, y8, y9, y10, y11, y12, y13, y14⟩ := hrec2.out.all)
  have h6 := fill15 (b0 := .int .i64 0) (b1 := .int .i64 0) (b2 := .bool false) (b3 := .bool false) (b4 := .int .u32 0) (b5 := .int .u32 0) (b6 := .int .u32 0) (b7 := .int .u32 0) (b8 := .int .i64 0) (b9 := .int .i64 0) (b10 := .int .u32 0) (b11 := .int .u32 0) (b12 := .int .u32 0) (b13 := .slice none 0 0) (b14 := .slice none 0 0) hrec.out
  have h6b := fill15_but (W := w1) (h := w.heap.size) (b0 := .int .i64 0) (b1 := .int .i64 0) (b2 := .bool false) (b3 := .bool false) (b4 := .int .u32 0) (b5 := .int .u32 0) (b6 := .int .u32 0) (b7 := .int .u32 0) (b8 := .int .i64 0) (b9 := .int .i64 0) (b10 := .int .u32 0) (b11 := .int .u32 0) (b12 := .int .u32 0) (b13 := .slice none 0 0) (b14 := .slice none 0 0)
  refine bodyPost_ret (results_list (rs := [.cell 2 41, .tmp 3]) rfl (by simp) (.cell w.heap.size 41 zeros (0, 0) _ rfl h6 Try.underlying41 rfl (by kernel_rfl) (.tmp .nil))) rfl ?_
  exact ⟨rfl, ((wz_below w).trans (hbl.out.mono (wz_below w).size)).trans (h6b.below (Nat.le_refl _))⟩
set_option maxHeartbeats 4000000 in
set_option maxRecDepth 100000 in
theorem rget_less (b own : List Int) (ho : opnd b = (own, 0)) (hob : Byt own) (hfew : 32 ≤ own.length) (hlen : own.length ≤ 1000000) (hno : ¬ enough own) (hb : Byt b) (hn : b.length ≤ 1000000) (A : Option Addr) (c : Nat) (w : World) (h : By w A c b) :
    Calls Try.prog 31 #[.slice A b.length c] w fun e w' => e = .returned (.tuple #[.agg zeros, .int .i64 7]) ∧ Below w.heap.size w w' := by
  have HOP : Aside0 (Calls Try.prog 17 #[.slice A b.length c] ((w.alloc (.cells #[.int .i64 0, .int .i64 0, .bool false, .bool false, .int .u32 0, .int .u32 0, .int .u32 0, .int .u32 0, .int .i64 0, .int .i64 0, .int .u32 0, .int .u32 0, .int .u32 0, .slice none 0 0, .slice none 0 0] 41)).alloc (.cells #[.int .i64 0, .int .i64 0, .bool false, .bool false, .int .u32 0, .int .u32 0, .int .u32 0, .int .u32 0, .int .i64 0, .int .i64 0, .int .u32 0, .int .u32 0, .int .u32 0, .slice none 0 0, .slice none 0 0] 41)) fun e w' => ∃ (A2 : Option Addr) (c2 : Nat), e = .returned (.tuple #[.slice A2 own.length c2, .int .i64 0]) ∧ Aside0 (By w' A2 c2 own) ∧ Aside0 (Below (wz w).heap.size (wz w) w')) := ⟨k_ropen ho hb hn (h.later (wz_below w))⟩
  have hd : decide ((own.length : Int) < 32) = false := decide_eq_false (by omega)
  obtain ⟨q0, q1⟩ := num_bd own hob 31 1 (by omega)
  unfold enough at hno
  have HLE := Aside0.mk hfew
  have hle : (31 : Int) < (own.length : Int) := by omega
  obtain ⟨q, hq⟩ : ∃ q, q = num own 31 1 := ⟨_, rfl⟩
  rw [← hq] at hno q0 q1
  have hq1 : q < 256 := by omega
  have hd2 : decide ((own.length : Int) < 32 + 8 * q) = true := decide_eq_true (by omega)
  have HQ := Aside0.mk hq
  clear h ho hfew hno hq q1
  go_enter Try.func31, Try.ntmps31
  go_wp2_with (go_at_call 17; (with_reducible refine HOP.out.mono ?_); rintro e w1 ⟨A2, c2, rfl, hby, hbl⟩; obtain ⟨ad, e31, z31, _, _⟩ := own_cells hby.out HLE.out; subst e31; rw [← HQ.out] at z31; have hrec := Aside0.mk (show Rec w1 w.heap.size zeros from blk_below (wz_one w) hbl.out); have hrec2 := Aside0.mk (show Rec w1 (w.heap.size + 1) zeros from blk_below (wz_two w) hbl.out); obtain ⟨z0, z1, z2, z3, z4, z5, z6, z7, z8, z9, z10, z11, z12, z13, z14⟩ := hrec.out.all; have zf0 := (hrec.out).frozen 0; have zf1 := (hrec.out).frozen 1; have zf2 := (hrec.out).frozen 2; have zf3 := (hrec.out).frozen 3; have zf4 := (hrec.out).frozen 4; have zf5 := (hrec.out).frozen 5; have zf6 := (hrec.out).frozen 6; have zf7 := (hrec.out).frozen 7; have zf8 := (hrec.out).frozen 8; have zf9 := (hrec.out).frozen 9; have zf10 := (hrec.out).frozen 10; have zf11 := (hrec.out).frozen 11; have zf12 := (hrec.out).frozen 12; have zf13 := (hrec.out).frozen 13; have zf14 := (hrec.out).frozen 14; obtain ⟨y0, y1, y2, y3, y4, y5, y6, y7, y8, y9, y10, y11, y12, y13, y14⟩ := hrec2.out.all)
  have h6 := fill15 (b0 := .int .i64 0) (b1 := .int .i64 0) (b2 := .bool false) (b3 := .bool false) (b4 := .int .u32 0) (b5 := .int .u32 0) (b6 := .int .u32 0) (b7 := .int .u32 0) (b8 := .int .i64 0) (b9 := .int .i64 0) (b10 := .int .u32 0) (b11 := .int .u32 0) (b12 := .int .u32 0) (b13 := .slice none 0 0) (b14 := .slice none 0 0) hrec.out
  have h6b := fill15_but (W := w1) (h := w.heap.size) (b0 := .int .i64 0) (b1 := .int .i64 0) (b2 := .bool false) (b3 := .bool false) (b4 := .int .u32 0) (b5 := .int .u32 0) (b6 := .int .u32 0) (b7 := .int .u32 0) (b8 := .int .i64 0) (b9 := .int .i64 0) (b10 := .int .u32 0) (b11 := .int .u32 0) (b12 := .int .u32 0) (b13 := .slice none 0 0) (b14 := .slice none 0 0)
  refine bodyPost_ret (results_list (rs := [.cell 2 41, .tmp 3]) rfl (by simp) (.cell w.heap.size 41 zeros (0, 0) _ rfl h6 Try.underlying41 rfl (by kernel_rfl) (.tmp .nil))) rfl ?_
  exact ⟨rfl, ((wz_below w).trans (hbl.out.mono (wz_below w).size)).trans (h6b.below (Nat.le_refl _))⟩
set_option maxHeartbeats 8000000 in
set_option maxRecDepth 100000 in
theorem rget_enough (b own : List Int) (ho : opnd b = (own, 0)) (hen : enough own) (a0 : Int) (a1 : Int) (a2 : Bool) (a3 : Bool) (a4 : Int) (a5 : Int) (a6 : Int) (a7 : Int) (a8 : Int) (a9 : Int) (a10 : Int) (a11 : Int) (a12 : Int) (l13 : List S58) (l14 : List Int) (hs : segOf own = ⟨a0, a1, a2, a3, a4, a5, a6, a7, a8, a9, a10, a11, a12, l13, l14⟩) (m : Bool) (hm : mayB ⟨a0, a1, a2, a3, a4, a5, a6, a7, a8, a9, a10, a11, a12, l13, l14⟩ = m) (hob : Byt own) (hol : own.length ≤ 1000000) (hb : Byt b) (hn : b.length ≤ 1000000) (A : Option Addr) (c : Nat) (w : World) (h : By w A c b) :
    Calls Try.prog 31 #[.slice A b.length c] w fun e w' => ∃ A13 c13 A14 c14, ((m = true ∧ e = .returned (.tuple #[.agg #[.int .i64 a0, .int .i64 a1, .bool a2, .bool a3, .int .u32 a4, .int .u32 a5, .int .u32 a6, .int .u32 a7, .int .i64 a8, .int .i64 a9, .int .u32 a10, .int .u32 a11, .int .u32 a12, .slice A13 l13.length c13, .slice A14 l14.length c14], .int .i64 0])) ∨ (m = false ∧ e = .returned (.tuple #[.agg zeros, .int .i64 7]))) ∧ Sk w' A13 c13 l13 ∧ By w' A14 c14 l14 ∧ Below w.heap.size w w' := by
  have HOP : Aside0 (Calls Try.prog 17 #[.slice A b.length c] ((w.alloc (.cells #[.int .i64 0, .int .i64 0, .bool false, .bool false, .int .u32 0, .int .u32 0, .int .u32 0, .int .u32 0, .int .i64 0, .int .i64 0, .int .u32 0, .int .u32 0, .int .u32 0, .slice none 0 0, .slice none 0 0] 41)).alloc (.cells #[.int .i64 0, .int .i64 0, .bool false, .bool false, .int .u32 0, .int .u32 0, .int .u32 0, .int .u32 0, .int .i64 0, .int .i64 0, .int .u32 0, .int .u32 0, .int .u32 0, .slice none 0 0, .slice none 0 0] 41)) fun e w' => ∃ (A2 : Option Addr) (c2 : Nat), e = .returned (.tuple #[.slice A2 own.length c2, .int .i64 0]) ∧ Aside0 (By w' A2 c2 own) ∧ Aside0 (Below (wz w).heap.size (wz w) w')) := ⟨k_ropen ho hb hn (h.later (wz_below w))⟩
  unfold enough at hen
  have hd : decide ((own.length : Int) < 32) = false := decide_eq_false (by omega)
  have hle : (31 : Int) < (own.length : Int) := by omega
  have HLE := Aside0.mk (show 32 ≤ own.length by omega)
  have hL0 : 0 < own.length := by omega
  have hL1 : 1 < own.length := by omega
  have hL2 : (0 : Int) < (own.length : Int) := by omega
  have hL3 : (1 : Int) < (own.length : Int) := by omega
  obtain ⟨x0, x1⟩ := num_bd own hob 31 1 (by omega)
  obtain ⟨y0, y1⟩ := num_bd own hob 0 1 (by omega)
  obtain ⟨u0, u1⟩ := num_bd own hob 1 1 (by omega)
  obtain ⟨q, hq⟩ : ∃ q, q = num own 31 1 := ⟨_, rfl⟩
  obtain ⟨q0, hq0⟩ : ∃ q, q = num own 0 1 := ⟨_, rfl⟩
  obtain ⟨q1, hq1⟩ : ∃ q, q = num own 1 1 := ⟨_, rfl⟩
  rw [← hq] at hen x0 x1
  rw [← hq0] at y0 y1
  rw [← hq1] at u0 u1
  have hx1 : q < 256 := by omega
  have hy1 : q0 < 256 := by omega
  have hu1 : q1 < 256 := by omega
  have hd2 : decide ((own.length : Int) < 32 + 8 * q) = false := decide_eq_false (by omega)
  have hand := and_eq u0 hu1
  unfold segOf at hs
  rw [← hq, ← hq0, ← hq1, hand.1, hand.2] at hs
  injection hs with s0 s1 s2 s3 s4 s5 s6 s7 s8 s9 s10 s11 s12 s13 s14
  have b4 := num_bd4 own hob 4 4 (by omega); have b5 := num_bd4 own hob 8 4 (by omega); have b6 := num_bd4 own hob 12 4 (by omega); have b7 := num_bd4 own hob 16 4 (by omega)
  have b10 := num_bd4 own hob 20 3 (by omega); have b11 := num_bd4 own hob 23 4 (by omega); have b12 := num_bd4 own hob 27 4 (by omega)
  rw [s4] at b4; rw [s5] at b5; rw [s6] at b6; rw [s7] at b7; rw [s10] at b10; rw [s11] at b11; rw [s12] at b12
  obtain ⟨b4, c4⟩ := b4; obtain ⟨b5, c5⟩ := b5; obtain ⟨b6, c6⟩ := b6; obtain ⟨b7, c7⟩ := b7; obtain ⟨b10, c10⟩ := b10; obtain ⟨b11, c11⟩ := b11; obtain ⟨b12, c12⟩ := b12
  have S4 := Aside0.mk s4; have S5 := Aside0.mk s5; have S6 := Aside0.mk s6; have S7 := Aside0.mk s7; have S8 := Aside0.mk s8; have S10 := Aside0.mk s10; have S11 := Aside0.mk s11; have S12 := Aside0.mk s12; have S13 := Aside0.mk s13; have S14 := Aside0.mk s14
  have HQ := Aside0.mk hq; have HQ0 := Aside0.mk hq0; have HQ1 := Aside0.mk hq1
  have HEN := Aside0.mk hen; have HOB := Aside0.mk hob; have HOL := Aside0.mk hol; have HM := Aside0.mk hm
  clear h ho hen hq hq0 hq1 hand s4 s5 s6 s7 s8 s10 s11 s12 s13 s14 x1 y1 u1 hob hm
  go_enter Try.func31, Try.ntmps31
  go_wp2_with (go_at_call 17; (with_reducible refine HOP.out.mono ?_); rintro e w1 ⟨A2, c2, rfl, hby, hbl⟩; obtain ⟨ad, e31, z31, z0, z1⟩ := own_cells hby.out HLE.out; subst e31; rw [← HQ.out] at z31; rw [← HQ0.out] at z0; rw [← HQ1.out] at z1)
  have HBD := Aside0.mk (hby.out.later (below_drew (Below.refl w1.heap.size w1)))
  go_cut [8] (fun v8 wc => ∃ g8, v8 = .pointer (some ⟨g8, 0, none⟩) ∧ Aside0 (w1.heap.size ≤ g8) ∧ Aside0 (Rec wc g8 #[.int .i64 a0, .int .i64 a1, .bool false, .bool false, .int .u32 0, .int .u32 0, .int .u32 0, .int .u32 0, .int .i64 a8, .int .i64 a9, .int .u32 0, .int .u32 0, .int .u32 0, .slice none 0 0, .slice none 0 0]) ∧ Aside0 (Below w1.heap.size w1 wc))
  case first =>
    have hal8 : ∀ n, Below w1.heap.size w1 ((w1.drewN n).alloc (.cells #[.int .i64 0, .int .i64 0, .bool false, .bool false, .int .u32 0, .int .u32 0, .int .u32 0, .int .u32 0, .int .i64 0, .int .i64 0, .int .u32 0, .int .u32 0, .int .u32 0, .slice none 0 0, .slice none 0 0] 41)) := fun n => below_alloc (pw_below_drewN (Below.refl _ _) n) _
    have HBA : Aside0 (∀ n, By ((w1.drewN n).alloc (.cells #[.int .i64 0, .int .i64 0, .bool false, .bool false, .int .u32 0, .int .u32 0, .int .u32 0, .int .u32 0, .int .i64 0, .int .i64 0, .int .u32 0, .int .u32 0, .int .u32 0, .slice none 0 0, .slice none 0 0] 41)) (some ad) c2 own) := ⟨fun n => hby.out.later (hal8 n)⟩
    have HBN : Aside0 (∀ n, By (w1.drewN n) (some ad) c2 own) := ⟨fun n => hby.out.later (pw_below_drewN (Below.refl _ _) n)⟩
    have k0 := fun n => ((hal8 n).cell (World.block_lt_of_cell? w1 _ z0)).trans z0
    have k1 := fun n => ((hal8 n).cell (World.block_lt_of_cell? w1 _ z1)).trans z1
    have hnew : ∀ n, Rec ((w1.drewN n).alloc (.cells #[.int .i64 0, .int .i64 0, .bool false, .bool false, .int .u32 0, .int .u32 0, .int .u32 0, .int .u32 0, .int .i64 0, .int .i64 0, .int .u32 0, .int .u32 0, .int .u32 0, .slice none 0 0, .slice none 0 0] 41)) w1.heap.size zeros := fun n => blk_new (w1.drewN n) _
    have n0 : ∀ n, ((w1.drewN n).alloc (.cells #[.int .i64 0, .int .i64 0, .bool false, .bool false, .int .u32 0, .int .u32 0, .int .u32 0, .int .u32 0, .int .i64 0, .int .i64 0, .int .u32 0, .int .u32 0, .int .u32 0, .slice none 0 0, .slice none 0 0] 41)).cell? ⟨w1.heap.size, 0, none⟩ = some (.int .i64 0) := fun n => by rw [blk_cell (hnew n)]; rfl
    have nf0 := fun n => (hnew n).frozen 0
    have n1 : ∀ n, ((w1.drewN n).alloc (.cells #[.int .i64 0, .int .i64 0, .bool false, .bool false, .int .u32 0, .int .u32 0, .int .u32 0, .int .u32 0, .int .i64 0, .int .i64 0, .int .u32 0, .int .u32 0, .int .u32 0, .slice none 0 0, .slice none 0 0] 41)).cell? ⟨w1.heap.size, 1, none⟩ = some (.int .i64 0) := fun n => by rw [blk_cell (hnew n)]; rfl
    have nf1 := fun n => (hnew n).frozen 1
    have n2 : ∀ n, ((w1.drewN n).alloc (.cells #[.int .i64 0, .int .i64 0, .bool false, .bool false, .int .u32 0, .int .u32 0, .int .u32 0, .int .u32 0, .int .i64 0, .int .i64 0, .int .u32 0, .int .u32 0, .int .u32 0, .slice none 0 0, .slice none 0 0] 41)).cell? ⟨w1.heap.size, 2, none⟩ = some (.bool false) := fun n => by rw [blk_cell (hnew n)]; rfl
    have nf2 := fun n => (hnew n).frozen 2
    have n3 : ∀ n, ((w1.drewN n).alloc (.cells #[.int .i64 0, .int .i64 0, .bool false, .bool false, .int .u32 0, .int .u32 0, .int .u32 0, .int .u32 0, .int .i64 0, .int .i64 0, .int .u32 0, .int .u32 0, .int .u32 0, .slice none 0 0, .slice none 0 0] 41)).cell? ⟨w1.heap.size, 3, none⟩ = some (.bool false) := fun n => by rw [blk_cell (hnew n)]; rfl
    have nf3 := fun n => (hnew n).frozen 3
    have n4 : ∀ n, ((w1.drewN n).alloc (.cells #[.int .i64 0, .int .i64 0, .bool false, .bool false, .int .u32 0, .int .u32 0, .int .u32 0, .int .u32 0, .int .i64 0, .int .i64 0, .int .u32 0, .int .u32 0, .int .u32 0, .slice none 0 0, .slice none 0 0] 41)).cell? ⟨w1.heap.size, 4, none⟩ = some (.int .u32 0) := fun n => by rw [blk_cell (hnew n)]; rfl
    have nf4 := fun n => (hnew n).frozen 4
    have n5 : ∀ n, ((w1.drewN n).alloc (.cells #[.int .i64 0, .int .i64 0, .bool false, .bool false, .int .u32 0, .int .u32 0, .int .u32 0, .int .u32 0, .int .i64 0, .int .i64 0, .int .u32 0, .int .u32 0, .int .u32 0, .slice none 0 0, .slice none 0 0] 41)).cell? ⟨w1.heap.size, 5, none⟩ = some (.int .u32 0) := fun n => by rw [blk_cell (hnew n)]; rfl
    have nf5 := fun n => (hnew n).frozen 5
    have n6 : ∀ n, ((w1.drewN n).alloc (.cells #[.int .i64 0, .int .i64 0, .bool false, .bool false, .int .u32 0, .int .u32 0, .int .u32 0, .int .u32 0, .int .i64 0, .int .i64 0, .int .u32 0, .int .u32 0, .int .u32 0, .slice none 0 0, .slice none 0 0] 41)).cell? ⟨w1.heap.size, 6, none⟩ = some (.int .u32 0) := fun n => by rw [blk_cell (hnew n)]; rfl
    have nf6 := fun n => (hnew n).frozen 6
    have n7 : ∀ n, ((w1.drewN n).alloc (.cells #[.int .i64 0, .int .i64 0, .bool false, .bool false, .int .u32 0, .int .u32 0, .int .u32 0, .int .u32 0, .int .i64 0, .int .i64 0, .int .u32 0, .int .u32 0, .int .u32 0, .slice none 0 0, .slice none 0 0] 41)).cell? ⟨w1.heap.size, 7, none⟩ = some (.int .u32 0) := fun n => by rw [blk_cell (hnew n)]; rfl
    have nf7 := fun n => (hnew n).frozen 7
    have n8 : ∀ n, ((w1.drewN n).alloc (.cells #[.int .i64 0, .int .i64 0, .bool false, .bool false, .int .u32 0, .int .u32 0, .int .u32 0, .int .u32 0, .int .i64 0, .int .i64 0, .int .u32 0, .int .u32 0, .int .u32 0, .slice none 0 0, .slice none 0 0] 41)).cell? ⟨w1.heap.size, 8, none⟩ = some (.int .i64 0) := fun n => by rw [blk_cell (hnew n)]; rfl
    have nf8 := fun n => (hnew n).frozen 8
    have n9 : ∀ n, ((w1.drewN n).alloc (.cells #[.int .i64 0, .int .i64 0, .bool false, .bool false, .int .u32 0, .int .u32 0, .int .u32 0, .int .u32 0, .int .i64 0, .int .i64 0, .int .u32 0, .int .u32 0, .int .u32 0, .slice none 0 0, .slice none 0 0] 41)).cell? ⟨w1.heap.size, 9, none⟩ = some (.int .i64 0) := fun n => by rw [blk_cell (hnew n)]; rfl
    have nf9 := fun n => (hnew n).frozen 9
    have n10 : ∀ n, ((w1.drewN n).alloc (.cells #[.int .i64 0, .int .i64 0, .bool false, .bool false, .int .u32 0, .int .u32 0, .int .u32 0, .int .u32 0, .int .i64 0, .int .i64 0, .int .u32 0, .int .u32 0, .int .u32 0, .slice none 0 0, .slice none 0 0] 41)).cell? ⟨w1.heap.size, 10, none⟩ = some (.int .u32 0) := fun n => by rw [blk_cell (hnew n)]; rfl
    have nf10 := fun n => (hnew n).frozen 10
    have n11 : ∀ n, ((w1.drewN n).alloc (.cells #[.int .i64 0, .int .i64 0, .bool false, .bool false, .int .u32 0, .int .u32 0, .int .u32 0, .int .u32 0, .int .i64 0, .int .i64 0, .int .u32 0, .int .u32 0, .int .u32 0, .slice none 0 0, .slice none 0 0] 41)).cell? ⟨w1.heap.size, 11, none⟩ = some (.int .u32 0) := fun n => by rw [blk_cell (hnew n)]; rfl
    have nf11 := fun n => (hnew n).frozen 11
    have n12 : ∀ n, ((w1.drewN n).alloc (.cells #[.int .i64 0, .int .i64 0, .bool false, .bool false, .int .u32 0, .int .u32 0, .int .u32 0, .int .u32 0, .int .i64 0, .int .i64 0, .int .u32 0, .int .u32 0, .int .u32 0, .slice none 0 0, .slice none 0 0] 41)).cell? ⟨w1.heap.size, 12, none⟩ = some (.int .u32 0) := fun n => by rw [blk_cell (hnew n)]; rfl
    have nf12 := fun n => (hnew n).frozen 12
    have n13 : ∀ n, ((w1.drewN n).alloc (.cells #[.int .i64 0, .int .i64 0, .bool false, .bool false, .int .u32 0, .int .u32 0, .int .u32 0, .int .u32 0, .int .i64 0, .int .i64 0, .int .u32 0, .int .u32 0, .int .u32 0, .slice none 0 0, .slice none 0 0] 41)).cell? ⟨w1.heap.size, 13, none⟩ = some (.slice none 0 0) := fun n => by rw [blk_cell (hnew n)]; rfl
    have nf13 := fun n => (hnew n).frozen 13
    have n14 : ∀ n, ((w1.drewN n).alloc (.cells #[.int .i64 0, .int .i64 0, .bool false, .bool false, .int .u32 0, .int .u32 0, .int .u32 0, .int .u32 0, .int .i64 0, .int .i64 0, .int .u32 0, .int .u32 0, .int .u32 0, .slice none 0 0, .slice none 0 0] 41)).cell? ⟨w1.heap.size, 14, none⟩ = some (.slice none 0 0) := fun n => by rw [blk_cell (hnew n)]; rfl
    have nf14 := fun n => (hnew n).frozen 14
    have v0 : IntKind.i64.wrap q0 = q0 := by rw [IntKind.wrap_i64]; omega
    have v1 : IntKind.i64.wrap q1 = q1 := by rw [IntKind.wrap_i64]; omega
    have v2 : q0.tdiv 16 = a0 := by rw [Int.tdiv_eq_ediv_of_nonneg y0]; exact s0
    have v3 : q0.tmod 16 = a1 := by rw [Int.tmod_eq_emod_of_nonneg y0]; exact s1
    have v4 : q1.tdiv 4 = a9 := by rw [Int.tdiv_eq_ediv_of_nonneg u0]; exact s9
    have v5 : IntKind.i64.wrap a0 = a0 := by rw [IntKind.wrap_i64]; omega
    have v6 : IntKind.i64.wrap a9 = a9 := by rw [IntKind.wrap_i64]; omega
    have hal9 : Below w1.heap.size w1 (w1.alloc (.cells #[.int .i64 0, .int .i64 0, .bool false, .bool false, .int .u32 0, .int .u32 0, .int .u32 0, .int .u32 0, .int .i64 0, .int .i64 0, .int .u32 0, .int .u32 0, .int .u32 0, .slice none 0 0, .slice none 0 0] 41)) := below_alloc (Below.refl _ _) _
    have k0' := (hal9.cell (World.block_lt_of_cell? w1 _ z0)).trans z0
    have k1' := (hal9.cell (World.block_lt_of_cell? w1 _ z1)).trans z1
    have hnew' : Rec (w1.alloc (.cells #[.int .i64 0, .int .i64 0, .bool false, .bool false, .int .u32 0, .int .u32 0, .int .u32 0, .int .u32 0, .int .i64 0, .int .i64 0, .int .u32 0, .int .u32 0, .int .u32 0, .slice none 0 0, .slice none 0 0] 41)) w1.heap.size zeros := blk_new w1 _
    have p0 : (w1.alloc (.cells #[.int .i64 0, .int .i64 0, .bool false, .bool false, .int .u32 0, .int .u32 0, .int .u32 0, .int .u32 0, .int .i64 0, .int .i64 0, .int .u32 0, .int .u32 0, .int .u32 0, .slice none 0 0, .slice none 0 0] 41)).cell? ⟨w1.heap.size, 0, none⟩ = some (.int .i64 0) := by rw [blk_cell hnew']; rfl
    have pf0 := hnew'.frozen 0
    have p1 : (w1.alloc (.cells #[.int .i64 0, .int .i64 0, .bool false, .bool false, .int .u32 0, .int .u32 0, .int .u32 0, .int .u32 0, .int .i64 0, .int .i64 0, .int .u32 0, .int .u32 0, .int .u32 0, .slice none 0 0, .slice none 0 0] 41)).cell? ⟨w1.heap.size, 1, none⟩ = some (.int .i64 0) := by rw [blk_cell hnew']; rfl
    have pf1 := hnew'.frozen 1
    have p2 : (w1.alloc (.cells #[.int .i64 0, .int .i64 0, .bool false, .bool false, .int .u32 0, .int .u32 0, .int .u32 0, .int .u32 0, .int .i64 0, .int .i64 0, .int .u32 0, .int .u32 0, .int .u32 0, .slice none 0 0, .slice none 0 0] 41)).cell? ⟨w1.heap.size, 2, none⟩ = some (.bool false) := by rw [blk_cell hnew']; rfl
    have pf2 := hnew'.frozen 2
    have p3 : (w1.alloc (.cells #[.int .i64 0, .int .i64 0, .bool false, .bool false, .int .u32 0, .int .u32 0, .int .u32 0, .int .u32 0, .int .i64 0, .int .i64 0, .int .u32 0, .int .u32 0, .int .u32 0, .slice none 0 0, .slice none 0 0] 41)).cell? ⟨w1.heap.size, 3, none⟩ = some (.bool false) := by rw [blk_cell hnew']; rfl
    have pf3 := hnew'.frozen 3
    have p4 : (w1.alloc (.cells #[.int .i64 0, .int .i64 0, .bool false, .bool false, .int .u32 0, .int .u32 0, .int .u32 0, .int .u32 0, .int .i64 0, .int .i64 0, .int .u32 0, .int .u32 0, .int .u32 0, .slice none 0 0, .slice none 0 0] 41)).cell? ⟨w1.heap.size, 4, none⟩ = some (.int .u32 0) := by rw [blk_cell hnew']; rfl
    have pf4 := hnew'.frozen 4
    have p5 : (w1.alloc (.cells #[.int .i64 0, .int .i64 0, .bool false, .bool false, .int .u32 0, .int .u32 0, .int .u32 0, .int .u32 0, .int .i64 0, .int .i64 0, .int .u32 0, .int .u32 0, .int .u32 0, .slice none 0 0, .slice none 0 0] 41)).cell? ⟨w1.heap.size, 5, none⟩ = some (.int .u32 0) := by rw [blk_cell hnew']; rfl
    have pf5 := hnew'.frozen 5
    have p6 : (w1.alloc (.cells #[.int .i64 0, .int .i64 0, .bool false, .bool false, .int .u32 0, .int .u32 0, .int .u32 0, .int .u32 0, .int .i64 0, .int .i64 0, .int .u32 0, .int .u32 0, .int .u32 0, .slice none 0 0, .slice none 0 0] 41)).cell? ⟨w1.heap.size, 6, none⟩ = some (.int .u32 0) := by rw [blk_cell hnew']; rfl
    have pf6 := hnew'.frozen 6
    have p7 : (w1.alloc (.cells #[.int .i64 0, .int .i64 0, .bool false, .bool false, .int .u32 0, .int .u32 0, .int .u32 0, .int .u32 0, .int .i64 0, .int .i64 0, .int .u32 0, .int .u32 0, .int .u32 0, .slice none 0 0, .slice none 0 0] 41)).cell? ⟨w1.heap.size, 7, none⟩ = some (.int .u32 0) := by rw [blk_cell hnew']; rfl
    have pf7 := hnew'.frozen 7
    have p8 : (w1.alloc (.cells #[.int .i64 0, .int .i64 0, .bool false, .bool false, .int .u32 0, .int .u32 0, .int .u32 0, .int .u32 0, .int .i64 0, .int .i64 0, .int .u32 0, .int .u32 0, .int .u32 0, .slice none 0 0, .slice none 0 0] 41)).cell? ⟨w1.heap.size, 8, none⟩ = some (.int .i64 0) := by rw [blk_cell hnew']; rfl
    have pf8 := hnew'.frozen 8
    have p9 : (w1.alloc (.cells #[.int .i64 0, .int .i64 0, .bool false, .bool false, .int .u32 0, .int .u32 0, .int .u32 0, .int .u32 0, .int .i64 0, .int .i64 0, .int .u32 0, .int .u32 0, .int .u32 0, .slice none 0 0, .slice none 0 0] 41)).cell? ⟨w1.heap.size, 9, none⟩ = some (.int .i64 0) := by rw [blk_cell hnew']; rfl
    have pf9 := hnew'.frozen 9
    have p10 : (w1.alloc (.cells #[.int .i64 0, .int .i64 0, .bool false, .bool false, .int .u32 0, .int .u32 0, .int .u32 0, .int .u32 0, .int .i64 0, .int .i64 0, .int .u32 0, .int .u32 0, .int .u32 0, .slice none 0 0, .slice none 0 0] 41)).cell? ⟨w1.heap.size, 10, none⟩ = some (.int .u32 0) := by rw [blk_cell hnew']; rfl
    have pf10 := hnew'.frozen 10
    have p11 : (w1.alloc (.cells #[.int .i64 0, .int .i64 0, .bool false, .bool false, .int .u32 0, .int .u32 0, .int .u32 0, .int .u32 0, .int .i64 0, .int .i64 0, .int .u32 0, .int .u32 0, .int .u32 0, .slice none 0 0, .slice none 0 0] 41)).cell? ⟨w1.heap.size, 11, none⟩ = some (.int .u32 0) := by rw [blk_cell hnew']; rfl
    have pf11 := hnew'.frozen 11
    have p12 : (w1.alloc (.cells #[.int .i64 0, .int .i64 0, .bool false, .bool false, .int .u32 0, .int .u32 0, .int .u32 0, .int .u32 0, .int .i64 0, .int .i64 0, .int .u32 0, .int .u32 0, .int .u32 0, .slice none 0 0, .slice none 0 0] 41)).cell? ⟨w1.heap.size, 12, none⟩ = some (.int .u32 0) := by rw [blk_cell hnew']; rfl
    have pf12 := hnew'.frozen 12
    have p13 : (w1.alloc (.cells #[.int .i64 0, .int .i64 0, .bool false, .bool false, .int .u32 0, .int .u32 0, .int .u32 0, .int .u32 0, .int .i64 0, .int .i64 0, .int .u32 0, .int .u32 0, .int .u32 0, .slice none 0 0, .slice none 0 0] 41)).cell? ⟨w1.heap.size, 13, none⟩ = some (.slice none 0 0) := by rw [blk_cell hnew']; rfl
    have pf13 := hnew'.frozen 13
    have p14 : (w1.alloc (.cells #[.int .i64 0, .int .i64 0, .bool false, .bool false, .int .u32 0, .int .u32 0, .int .u32 0, .int .u32 0, .int .i64 0, .int .i64 0, .int .u32 0, .int .u32 0, .int .u32 0, .slice none 0 0, .slice none 0 0] 41)).cell? ⟨w1.heap.size, 14, none⟩ = some (.slice none 0 0) := by rw [blk_cell hnew']; rfl
    have pf14 := hnew'.frozen 14
    have HNEW := Aside0.mk hnew
    have HNEW' := Aside0.mk hnew'
    clear hal8 hnew hal9 hnew'
    have HK : Aside0 (∀ W : World, Below w1.heap.size w1 W → Below w1.heap.size w1 W ∧ W.cell? ad = some (.int .u8 q0) ∧ W.cell? ⟨ad.block, ad.off + 1, none⟩ = some (.int .u8 q1)) := ⟨fun W hW => ⟨hW, (hW.cell (World.block_lt_of_cell? w1 _ z0)).trans z0, (hW.cell (World.block_lt_of_cell? w1 _ z1)).trans z1⟩⟩
    go_region_held (fun w' => Below w1.heap.size w1 w' ∧ w'.cell? ad = some (.int .u8 q0) ∧ w'.cell? ⟨ad.block, ad.off + 1, none⟩ = some (.int .u8 q1)) ((refine HK.out _ ?_; repeat (first | (with_reducible exact Below.refl _ _) | (with_reducible apply below_alloc) | (with_reducible apply pw_below_drewN) | (with_reducible apply below_drew) | (with_reducible refine below_set ?_ (Nat.le_refl _))))) (first
      | (go_at_call 41; (with_reducible refine (k_number (A := some ad) (c := c2) HOB.out HOL.out 2 2 2 2 a8 rfl rfl S8.out.symm (by omega) (by omega) (hby.out.later (by repeat (first | (with_reducible exact Below.refl _ _) | (with_reducible apply below_alloc) | (with_reducible apply pw_below_drewN) | (with_reducible apply below_drew))))).mono ?_); rintro e wk ⟨rfl, mm, rfl⟩))
    all_goals
      go_wp2
      go_meet
      case rel => exact ⟨w1.heap.size, rfl, ⟨Nat.le_refl _⟩, ⟨by first | exact fill15 (HNEW.out _) | exact blk_drewN (fill15 HNEW'.out) _ | exact fill15 (blk_drewN HNEW'.out _)⟩, ⟨by repeat (first | (with_reducible exact Below.refl _ _) | (with_reducible apply below_alloc) | (with_reducible apply pw_below_drewN) | (with_reducible apply below_drew) | (with_reducible refine below_set ?_ (Nat.le_refl _)))⟩⟩
  case rest =>
    obtain ⟨g8, rfl, HG8, HR8, HB8⟩ := hcut
    obtain ⟨t0, t1, t2, t3, t4, t5, t6, t7, t8, t9, t10, t11, t12, t13, t14⟩ := HR8.out.all
    have tf0 := (HR8.out).frozen 0
    have tf1 := (HR8.out).frozen 1
    have tf2 := (HR8.out).frozen 2
    have tf3 := (HR8.out).frozen 3
    have tf4 := (HR8.out).frozen 4
    have tf5 := (HR8.out).frozen 5
    have tf6 := (HR8.out).frozen 6
    have tf7 := (HR8.out).frozen 7
    have tf8 := (HR8.out).frozen 8
    have tf9 := (HR8.out).frozen 9
    have tf10 := (HR8.out).frozen 10
    have tf11 := (HR8.out).frozen 11
    have tf12 := (HR8.out).frozen 12
    have tf13 := (HR8.out).frozen 13
    have tf14 := (HR8.out).frozen 14
    have k1 := (HB8.out.cell (World.block_lt_of_cell? w1 _ z1)).trans z1
    have k1s := ((HB8.out.setCell (p := ⟨g8, 2, none⟩) HG8.out (.bool a2)).cell (World.block_lt_of_cell? w1 _ z1)).trans z1
    go_wp2_with (first
      | (go_at_call 41; (with_reducible refine (k_number (A := some ad) (c := c2) HOB.out HOL.out 4 4 4 4 a4 rfl rfl S4.out.symm (by omega) (by have := HLE.out; omega) (hby.out.later (by repeat (first | (with_reducible exact HB8.out) | (with_reducible exact Below.refl _ _) | (with_reducible apply below_alloc) | (with_reducible apply pw_below_drewN) | (with_reducible apply below_drew) | (with_reducible refine below_set ?_ HG8.out) | (with_reducible refine below_set ?_ (Nat.le_refl _)))))).mono ?_); rintro e wk ⟨rfl, m4, rfl⟩)
      | (go_at_call 41; (with_reducible refine (k_number (A := some ad) (c := c2) HOB.out HOL.out 8 4 8 4 a5 rfl rfl S5.out.symm (by omega) (by have := HLE.out; omega) (hby.out.later (by repeat (first | (with_reducible exact HB8.out) | (with_reducible exact Below.refl _ _) | (with_reducible apply below_alloc) | (with_reducible apply pw_below_drewN) | (with_reducible apply below_drew) | (with_reducible refine below_set ?_ HG8.out) | (with_reducible refine below_set ?_ (Nat.le_refl _)))))).mono ?_); rintro e wk ⟨rfl, m5, rfl⟩)
      | (go_at_call 41; (with_reducible refine (k_number (A := some ad) (c := c2) HOB.out HOL.out 12 4 12 4 a6 rfl rfl S6.out.symm (by omega) (by have := HLE.out; omega) (hby.out.later (by repeat (first | (with_reducible exact HB8.out) | (with_reducible exact Below.refl _ _) | (with_reducible apply below_alloc) | (with_reducible apply pw_below_drewN) | (with_reducible apply below_drew) | (with_reducible refine below_set ?_ HG8.out) | (with_reducible refine below_set ?_ (Nat.le_refl _)))))).mono ?_); rintro e wk ⟨rfl, m6, rfl⟩)
      | (go_at_call 41; (with_reducible refine (k_number (A := some ad) (c := c2) HOB.out HOL.out 16 4 16 4 a7 rfl rfl S7.out.symm (by omega) (by have := HLE.out; omega) (hby.out.later (by repeat (first | (with_reducible exact HB8.out) | (with_reducible exact Below.refl _ _) | (with_reducible apply below_alloc) | (with_reducible apply pw_below_drewN) | (with_reducible apply below_drew) | (with_reducible refine below_set ?_ HG8.out) | (with_reducible refine below_set ?_ (Nat.le_refl _)))))).mono ?_); rintro e wk ⟨rfl, m7, rfl⟩)
      | (go_at_call 41; (with_reducible refine (k_number (A := some ad) (c := c2) HOB.out HOL.out 20 3 20 3 a10 rfl rfl S10.out.symm (by omega) (by have := HLE.out; omega) (hby.out.later (by repeat (first | (with_reducible exact HB8.out) | (with_reducible exact Below.refl _ _) | (with_reducible apply below_alloc) | (with_reducible apply pw_below_drewN) | (with_reducible apply below_drew) | (with_reducible refine below_set ?_ HG8.out) | (with_reducible refine below_set ?_ (Nat.le_refl _)))))).mono ?_); rintro e wk ⟨rfl, m10, rfl⟩)
      | (go_at_call 41; (with_reducible refine (k_number (A := some ad) (c := c2) HOB.out HOL.out 23 4 23 4 a11 rfl rfl S11.out.symm (by omega) (by have := HLE.out; omega) (hby.out.later (by repeat (first | (with_reducible exact HB8.out) | (with_reducible exact Below.refl _ _) | (with_reducible apply below_alloc) | (with_reducible apply pw_below_drewN) | (with_reducible apply below_drew) | (with_reducible refine below_set ?_ HG8.out) | (with_reducible refine below_set ?_ (Nat.le_refl _)))))).mono ?_); rintro e wk ⟨rfl, m11, rfl⟩)
      | (go_at_call 41; (with_reducible refine (k_number (A := some ad) (c := c2) HOB.out HOL.out 27 4 27 4 a12 rfl rfl S12.out.symm (by omega) (by have := HLE.out; omega) (hby.out.later (by repeat (first | (with_reducible exact HB8.out) | (with_reducible exact Below.refl _ _) | (with_reducible apply below_alloc) | (with_reducible apply pw_below_drewN) | (with_reducible apply below_drew) | (with_reducible refine below_set ?_ HG8.out) | (with_reducible refine below_set ?_ (Nat.le_refl _)))))).mono ?_); rintro e wk ⟨rfl, m12, rfl⟩))
    have hRL := fillG (m4 := m4) (m5 := m5) (m6 := m6) (m7 := m7) (m10 := m10) (m11 := m11) (m12 := m12) (b2 := .bool a2) (b3 := .bool a3) (b4 := .int .u32 a4) (b5 := .int .u32 a5) (b6 := .int .u32 a6) (b7 := .int .u32 a7) (b10 := .int .u32 a10) (b11 := .int .u32 a11) (b12 := .int .u32 a12) HR8.out
    have hBL : Below w1.heap.size w1 (((((((((((((((((wc.setCell ⟨g8, 2, none⟩ (.bool a2)).setCell ⟨g8, 3, none⟩ (.bool a3)).drewN m4).setCell ⟨g8, 4, none⟩ (.int .u32 a4)).drewN m5).setCell ⟨g8, 5, none⟩ (.int .u32 a5)).drewN m6).setCell ⟨g8, 6, none⟩ (.int .u32 a6)).drewN m7).setCell ⟨g8, 7, none⟩ (.int .u32 a7)).drewN m10).setCell ⟨g8, 10, none⟩ (.int .u32 a10)).drewN m11).setCell ⟨g8, 11, none⟩ (.int .u32 a11)).drewN m12).setCell ⟨g8, 12, none⟩ (.int .u32 a12))) := by repeat (first | (with_reducible exact HB8.out) | (with_reducible exact Below.refl _ _) | (with_reducible apply below_alloc) | (with_reducible apply pw_below_drewN) | (with_reducible apply below_drew) | (with_reducible refine below_set ?_ HG8.out) | (with_reducible refine below_set ?_ (Nat.le_refl _)))
    revert hRL hBL
    generalize (World.setCell _ ⟨g8, 12, none⟩ (.int .u32 a12)) = WL
    intro hRL hBL
    have hgL : g8 < WL.heap.size := (Array.getElem?_eq_some_iff.1 hRL).1
    have HRL := Aside0.mk hRL
    have HBL := Aside0.mk hBL
    have HRN := Aside0.mk (Kd.R_nil k58 58 WL WL.heap.size (fun _ => True))
    obtain ⟨B, hBe⟩ : ∃ B, B = WL.heap.size := ⟨_, rfl⟩
    rw [← hBe] at hgL HRN
    have HZL : Aside0 (B ≤ WL.heap.size) := ⟨Nat.le_of_eq hBe⟩
    clear hRL hBL hBe t0 t1 t2 t3 t4 t5 t6 t7 t8 t9 t10 t11 t12 t13 t14 k1 k1s HR8 HB8
    go_loopw [9] (fun v9 wr => ∃ j : Nat, j ≤ q.toNat ∧ v9 = .int .i64 j ∧ ∃ v, Aside0 (Rec wr g8 #[.int .i64 a0, .int .i64 a1, .bool a2, .bool a3, .int .u32 a4, .int .u32 a5, .int .u32 a6, .int .u32 a7, .int .i64 a8, .int .i64 a9, .int .u32 a10, .int .u32 a11, .int .u32 a12, v, .slice none 0 0]) ∧ Aside0 (Kd.R k58 58 wr B (fun _ => True) v (sacksB own j)) ∧ Aside0 (Below w1.heap.size w1 wr) ∧ Aside0 (B ≤ wr.heap.size)) (fun v9 _ => q.toNat - (intOf v9).toNat)
    case atStart => exact ⟨0, Nat.zero_le _, rfl, _, HRL, HRN, HBL, HZL⟩
    case round =>
      clear HRL HRN HBL HZL
      obtain ⟨j, hj, rfl, v, HRJ, HVJ, HBJ, HZJ⟩ := hrel
      by_cases hjt : j < q.toNat
      · have hjq : (j : Int) < q := by omega
        have hjd : decide ((j : Int) < q) = true := decide_eq_true hjq
        obtain ⟨qa, hqa⟩ : ∃ x, x = num own (32 + 8 * j) 4 := ⟨_, rfl⟩
        obtain ⟨qb, hqb⟩ : ∃ x, x = num own (36 + 8 * j) 4 := ⟨_, rfl⟩
        have ba := num_bd4 own HOB.out (32 + 8 * j) 4 (by omega)
        have bb := num_bd4 own HOB.out (36 + 8 * j) 4 (by omega)
        rw [← hqa] at ba
        rw [← hqb] at bb
        obtain ⟨ba0, ba1⟩ := ba
        obtain ⟨bb0, bb1⟩ := bb
        have HQA := Aside0.mk hqa
        have HQB := Aside0.mk hqb
        have e1 : IntKind.i64.wrap (8 * (j : Int)) = 8 * j := by rw [IntKind.wrap_i64]; omega
        have e2 : IntKind.i64.wrap (32 + 8 * (j : Int)) = 32 + 8 * j := by rw [IntKind.wrap_i64]; omega
        have e3 : IntKind.i64.wrap (36 + 8 * (j : Int)) = 36 + 8 * j := by rw [IntKind.wrap_i64]; omega
        have e4 : IntKind.u32.wrap qa = qa := by rw [IntKind.wrap_u32]; omega
        have e5 : IntKind.u32.wrap qb = qb := by rw [IntKind.wrap_u32]; omega
        have hla : 32 + 8 * j + 4 ≤ own.length := by have := HEN.out; omega
        have hlb : 36 + 8 * j + 4 ≤ own.length := by have := HEN.out; omega
        have hc13 : wr.cell? ⟨g8, 13, none⟩ = some v := by rw [blk_cell HRJ.out]; rfl
        have hf13 := HRJ.out.frozen 13
        have hc13a : ∀ (n : Nat) (o : Obj), ((wr.drewN n).alloc o).cell? ⟨g8, 13, none⟩ = some v := fun n o => by rw [blk_cell (show Rec ((wr.drewN n).alloc o) g8 _ from blk_alloc (blk_drewN HRJ.out n) o)]; rfl
        have hc13b : ∀ (o : Obj), (wr.alloc o).cell? ⟨g8, 13, none⟩ = some v := fun o => by rw [blk_cell (show Rec (wr.alloc o) g8 _ from blk_alloc HRJ.out o)]; rfl
        clear hqa hqb
        go_wp2
        go_region_law (first
          | (refine Kd.R_append_step k58 (w0 := wr) B (by rfl) (.tmp 101) (.tmp 115) 39 58 (.agg #[.int .u32 0, .int .u32 0]) 8 rfl Try.underlying39 info58 rfl (by decide) (by omega) v (sacksB own j) (⟨qa, qb⟩ : S58) [.int .u32 qa, .int .u32 qb] (fun _ => True) (fun _ => False) (by simp [Act.eval, Act.put]) (by simp [Act.eval, Act.put]) (k58_mkM _ _ _ _) (fun _ hk => hk.elim) (fun _ _ => trivial) ?aO ?aB ?aS (by rw [sacksB_len]; omega) ?_; (case aO => first | exact Kd.R_drewN HVJ.out _ | exact Kd.R_drew HVJ.out); (case aB => first | exact pw_below_drewN (Below.refl _ _) _ | exact below_drew (Below.refl _ _)); (case aS => exact HZJ.out); intro v1 w2_ hr1 hb1 hg1 hat1; obtain ⟨A1, cc1, rfl⟩ := Kd.R_slice hr1; have hc13l := (hb1.cell (p := ⟨g8, 13, none⟩) hgL).trans hc13; have hf13l := (hb1.frozen (p := ⟨g8, 13, none⟩) hgL).trans hf13; have HB1 := Aside0.mk hb1; have HR1 := Aside0.mk hr1; clear hb1 hr1 hg1 hat1)
          | (go_simp; go_at_call 41; (with_reducible refine (k_number (A := some ad) (c := c2) HOB.out HOL.out (32 + 8 * j) 4 (32 + 8 * (j : Int)) 4 qa (by omega) rfl HQA.out (by omega) hla (hby.out.later (by repeat (first | (with_reducible exact HBJ.out) | (with_reducible apply below_alloc) | (with_reducible apply pw_below_drewN) | (with_reducible apply below_drew))))).mono ?_); rintro e wk ⟨rfl, mj, rfl⟩)
          | (go_simp; go_at_call 41; (with_reducible refine (k_number (A := some ad) (c := c2) HOB.out HOL.out (36 + 8 * j) 4 (36 + 8 * (j : Int)) 4 qb (by omega) rfl HQB.out (by omega) hlb (hby.out.later (by repeat (first | (with_reducible exact HBJ.out) | (with_reducible apply below_alloc) | (with_reducible apply pw_below_drewN) | (with_reducible apply below_drew))))).mono ?_); rintro e wk ⟨rfl, mk, rfl⟩))
        all_goals
          go_wp2
          have hlen1 : (sacksB own j).length + 1 = (sacksB own (j + 1)).length := by rw [sacksB_len, sacksB_len]
          have hb13 := But.setCell w2_ g8 13 (.slice A1 ((sacksB own j).length + 1) cc1)
          have hr2 := R_but HR1.out hb13 hgL
          have ep : (⟨qa, qb⟩ : S58) = ⟨num own (32 + 8 * j) 4, num own (32 + 8 * j + 4) 4⟩ := by rw [HQA.out, HQB.out, show 36 + 8 * j = 32 + 8 * j + 4 by omega]
          rw [ep, ← sacksB_step] at hr2
          rw [← hlen1] at hr2
          have hrec := blk_put (cs' := #[.int .i64 a0, .int .i64 a1, .bool a2, .bool a3, .int .u32 a4, .int .u32 a5, .int .u32 a6, .int .u32 a7, .int .i64 a8, .int .i64 a9, .int .u32 a10, .int .u32 a11, .int .u32 a12, .slice A1 ((sacksB own j).length + 1) cc1, .slice none 0 0]) (cs := #[.int .i64 a0, .int .i64 a1, .bool a2, .bool a3, .int .u32 a4, .int .u32 a5, .int .u32 a6, .int .u32 a7, .int .i64 a8, .int .i64 a9, .int .u32 a10, .int .u32 a11, .int .u32 a12, v, .slice none 0 0]) ((HB1.out.block _ hgL).trans HRJ.out) 13 (.slice A1 ((sacksB own j).length + 1) cc1) (by simp only [List.setIfInBounds_toArray, List.set_cons_zero, List.set_cons_succ])
          refine ⟨⟨j + 1, by omega, rfl, _, ⟨hrec⟩, ⟨hr2⟩, ⟨(HBJ.out.trans (HB1.out.mono (by have := HG8.out; omega))).setCell HG8.out _⟩, ⟨?_⟩⟩, by simp [intOf]; omega⟩
          rw [hb13.size]
          exact Nat.le_trans HZJ.out HB1.out.size
      · obtain rfl : j = q.toNat := by omega
        obtain ⟨A13, c13, rfl⟩ := Kd.R_slice HVJ.out
        rw [S13.out] at HRJ HVJ
        have hjd : decide (((q.toNat : Nat) : Int) < q) = false := decide_eq_false (by omega)
        have hqt : ((q.toNat : Nat) : Int) = q := by omega
        have hlenq : 32 + 8 * q.toNat ≤ own.length := HEN.out
        obtain ⟨i0, hi0, _, hsz0, _⟩ := info_parts info5
        have hcut2 := cut_from (P := Try.prog) 23 5 .i64 Try.underlying23 hi0 1 hsz0 (some ad) own.length c2 (32 + 8 * q) (by omega) (by omega)
        have htn : (32 + 8 * q).toNat = 32 + 8 * q.toNat := by omega
        rw [htn, Nat.mul_one] at hcut2
        have hCd := Kd.C_drop (c := c2) hby.out.1 hlenq hby.out.2
        rw [show (Kd.int .u8).sz = 1 from rfl, Nat.mul_one] at hCd
        obtain ⟨A4, hA4⟩ : ∃ A4, A4 = (if c2 = 32 + 8 * q.toNat then some ad else Option.map (fun x => x.add (32 + 8 * q.toNat)) (some ad)) := ⟨_, rfl⟩
        rw [← hA4] at hcut2 hCd
        rw [S14.out] at hCd
        have hl14 : own.length - (32 + 8 * q.toNat) = l14.length := by rw [← S14.out, List.length_drop]
        rw [hl14] at hcut2
        have hl14b : l14.length ≤ 1000000 := by rw [← hl14]; have := HOL.out; omega
        have HCD := Aside0.mk (show (Kd.int .u8).C w1 A4 l14.length l14 from hCd)
        have e1 : IntKind.i64.wrap (8 * q) = 8 * q := by rw [IntKind.wrap_i64]; omega
        have e2 : IntKind.i64.wrap (32 + 8 * q) = 32 + 8 * q := by rw [IntKind.wrap_i64]; omega
        have hc14 : wr.cell? ⟨g8, 14, none⟩ = some (.slice none 0 0) := by rw [blk_cell HRJ.out]; rfl
        have hf14 := HRJ.out.frozen 14
        clear hCd hA4 hi0 hsz0 htn hl14
        go_wp2
        go_cut [8, 9] (fun v8 v9 wc => v8 = .pointer (some ⟨g8, 0, none⟩) ∧ ∃ A14 c14, Aside0 (Rec wc g8 #[.int .i64 a0, .int .i64 a1, .bool a2, .bool a3, .int .u32 a4, .int .u32 a5, .int .u32 a6, .int .u32 a7, .int .i64 a8, .int .i64 a9, .int .u32 a10, .int .u32 a11, .int .u32 a12, .slice A13 l13.length c13, .slice A14 l14.length c14]) ∧ Aside0 (Kd.R (Kd.int .u8) 5 wc B (fun _ => True) (.slice A14 l14.length c14) l14) ∧ Aside0 (Kd.R k58 58 wc B (fun _ => True) (.slice A13 l13.length c13) l13) ∧ Aside0 (g8 < B) ∧ Aside0 (Below w1.heap.size w1 wc))
        case first =>
          go_region_law (first
            | (refine Kd.R_append_rows_step (Kd.int .u8) (w0 := wr) B (by rfl) (.tmp 119) (.tmp 124) 23 5 (.int .u8 0) 1 rfl Try.underlying23 info5 rfl (by decide) (by omega) (.slice none 0 0) ([] : List Int) l14 A4 l14.length (c2 - (32 + 8 * q.toNat)) (fun _ => True) (fun _ => False) (by simp [Act.eval, Act.put]) (by simp [Act.eval, Act.put]) (Kd.R_nil _ _ _ _ _) ?aR (fun _ _ h => h) (fun _ h => h.elim) (fun _ _ => trivial) ?aB ?aS (by simp; omega) ?_; (case aR => exact Kd.C_below HCD.out (by repeat (first | (with_reducible exact HBJ.out) | (with_reducible apply pw_below_drewN) | (with_reducible apply below_drew)))); (case aB => first | exact pw_below_drewN (Below.refl _ _) _ | exact below_drew (Below.refl _ _)); (case aS => exact HZJ.out); intro v1 w2_ hr1 hb1 hg1 hat1; obtain ⟨A1, cc1, rfl⟩ := Kd.R_slice hr1; have hc14l := (hb1.cell (p := ⟨g8, 14, none⟩) hgL).trans hc14; have hf14l := (hb1.frozen (p := ⟨g8, 14, none⟩) hgL).trans hf14; have HB1 := Aside0.mk hb1; have HR1 := Aside0.mk hr1; have HG1 := Aside0.mk hg1; clear hb1 hr1 hg1 hat1))
          all_goals
            go_wp2
            go_meet
            case rel =>
              have hb14 := But.setCell w2_ g8 14 (.slice A1 l14.length cc1)
              have hwB : w1.heap.size ≤ B := by have := HG8.out; omega
              have hrel := (⟨A1, cc1, ⟨blk_put (cs := #[.int .i64 a0, .int .i64 a1, .bool a2, .bool a3, .int .u32 a4, .int .u32 a5, .int .u32 a6, .int .u32 a7, .int .i64 a8, .int .i64 a9, .int .u32 a10, .int .u32 a11, .int .u32 a12, .slice A13 l13.length c13, .slice none 0 0]) ((HB1.out.block _ hgL).trans HRJ.out) 14 (.slice A1 l14.length cc1) (by simp only [List.setIfInBounds_toArray, List.set_cons_zero, List.set_cons_succ])⟩, ⟨R_but HR1.out hb14 hgL⟩, ⟨R_but (Kd.R_step HVJ.out (fun k _ hk => HG1.out.block k hk (by simp [Value.ownBlock]))) hb14 hgL⟩, ⟨hgL⟩, ⟨(HBJ.out.trans (HB1.out.mono hwB)).setCell HG8.out _⟩⟩ : ∃ A14 c14, Aside0 (Rec (w2_.setCell ⟨g8, 14, none⟩ (.slice A1 l14.length cc1)) g8 #[.int .i64 a0, .int .i64 a1, .bool a2, .bool a3, .int .u32 a4, .int .u32 a5, .int .u32 a6, .int .u32 a7, .int .i64 a8, .int .i64 a9, .int .u32 a10, .int .u32 a11, .int .u32 a12, .slice A13 l13.length c13, .slice A14 l14.length c14]) ∧ Aside0 (Kd.R (Kd.int .u8) 5 (w2_.setCell ⟨g8, 14, none⟩ (.slice A1 l14.length cc1)) B (fun _ => True) (.slice A14 l14.length c14) l14) ∧ Aside0 (Kd.R k58 58 (w2_.setCell ⟨g8, 14, none⟩ (.slice A1 l14.length cc1)) B (fun _ => True) (.slice A13 l13.length c13) l13) ∧ Aside0 (g8 < B) ∧ Aside0 (Below w1.heap.size w1 (w2_.setCell ⟨g8, 14, none⟩ (.slice A1 l14.length cc1))))
              first | exact hrel | exact ⟨rfl, hrel⟩
        case rest =>
          obtain ⟨rfl, A14, c14, HR9, HY9, HS9, HG9, HB9⟩ := hcut
          have hm9 := k_rmay ⟨a0, a1, a2, a3, a4, a5, a6, a7, a8, a9, a10, a11, a12, l13, l14⟩ (w := wc) (Sk.of HS9.out) (By.of HY9.out)
          have HM9 := Aside0.mk hm9
          clear hm9 hc14 hf14
          obtain ⟨s0, s1, s2, s3, s4, s5, s6, s7, s8, s9, s10, s11, s12, s13, s14⟩ := HR9.out.all
          have hrec1 : Rec w1 w.heap.size zeros := blk_below (wz_one w) hbl.out
          have hrec2 : Rec w1 (w.heap.size + 1) zeros := blk_below (wz_two w) hbl.out
          have hlt1 : w.heap.size + 1 < w1.heap.size := (Array.getElem?_eq_some_iff.1 hrec2).1
          have H1 := Aside0.mk (show Rec wc w.heap.size zeros from blk_below hrec1 HB9.out)
          have H2 := Aside0.mk (show Rec wc (w.heap.size + 1) zeros from blk_below hrec2 HB9.out)
          clear hrec1 hrec2
          have HHM := HM.out
          rw [HHM] at HM9
          go_upto_if 130 with (go_at_call 29; (with_reducible refine HM9.out.mono ?_); rintro e w9 ⟨rfl, hb9⟩)
          have H19 := Aside0.mk (show Rec w9 w.heap.size zeros from blk_below H1.out hb9.out)
          have H29 := Aside0.mk (show Rec w9 (w.heap.size + 1) zeros from blk_below H2.out hb9.out)
          have H39 := Aside0.mk (show Rec w9 g8 _ from blk_below HR9.out hb9.out)
          obtain ⟨z0, z1, z2, z3, z4, z5, z6, z7, z8, z9, z10, z11, z12, z13, z14⟩ := H19.out.all
          have zf0 := (H19.out).frozen 0
          have zf1 := (H19.out).frozen 1
          have zf2 := (H19.out).frozen 2
          have zf3 := (H19.out).frozen 3
          have zf4 := (H19.out).frozen 4
          have zf5 := (H19.out).frozen 5
          have zf6 := (H19.out).frozen 6
          have zf7 := (H19.out).frozen 7
          have zf8 := (H19.out).frozen 8
          have zf9 := (H19.out).frozen 9
          have zf10 := (H19.out).frozen 10
          have zf11 := (H19.out).frozen 11
          have zf12 := (H19.out).frozen 12
          have zf13 := (H19.out).frozen 13
          have zf14 := (H19.out).frozen 14
          obtain ⟨y0, y1, y2, y3, y4, y5, y6, y7, y8, y9, y10, y11, y12, y13, y14⟩ := H29.out.all
          obtain ⟨r0, r1, r2, r3, r4, r5, r6, r7, r8, r9, r10, r11, r12, r13, r14⟩ := H39.out.all
          have hBw : Below w.heap.size w w9 := (((wz_below w).trans (hbl.out.mono (wz_below w).size)).trans (HB9.out.mono (by omega))).trans (hb9.out.mono (by have := HB9.out.size; omega))
          have HBW := Aside0.mk hBw
          clear hBw
          have hB9 := hb9
          have hg9 : w.heap.size < B := by have := HG9.out; have := HG8.out; omega
          have hR13 := Kd.R_below (Kd.R_below HS9.out hb9.out) (Below.refl _ _)
          have hR14 := Kd.R_below (Kd.R_below HY9.out hb9.out) (Below.refl _ _)
          have HR13 := Aside0.mk hR13
          have HR14 := Aside0.mk hR14
          have HG := Aside0.mk hg9
          clear hR13 hR14 hg9
          cases m
          · go_wp2
            have h6 := fill15 (b0 := .int .i64 0) (b1 := .int .i64 0) (b2 := .bool false) (b3 := .bool false) (b4 := .int .u32 0) (b5 := .int .u32 0) (b6 := .int .u32 0) (b7 := .int .u32 0) (b8 := .int .i64 0) (b9 := .int .i64 0) (b10 := .int .u32 0) (b11 := .int .u32 0) (b12 := .int .u32 0) (b13 := .slice none 0 0) (b14 := .slice none 0 0) H19.out
            have h6b := fill15_but (W := w9) (h := w.heap.size) (b0 := .int .i64 0) (b1 := .int .i64 0) (b2 := .bool false) (b3 := .bool false) (b4 := .int .u32 0) (b5 := .int .u32 0) (b6 := .int .u32 0) (b7 := .int .u32 0) (b8 := .int .i64 0) (b9 := .int .i64 0) (b10 := .int .u32 0) (b11 := .int .u32 0) (b12 := .int .u32 0) (b13 := .slice none 0 0) (b14 := .slice none 0 0)
            refine bodyPost_ret (results_list (rs := [.cell 2 41, .tmp 3]) rfl (by simp) (.cell w.heap.size 41 zeros (0, 0) _ rfl h6 Try.underlying41 rfl (by kernel_rfl) (.tmp .nil))) rfl ?_
            first
              | exact ⟨A13, c13, A14, c14, .inr ⟨rfl, rfl⟩, Sk.of (R_but HR13.out h6b HG.out), By.of (R_but HR14.out h6b HG.out), HBW.out.trans (h6b.below (Nat.le_refl _))⟩
              | exact ⟨rfl, ⟨A13, c13, Sk.of (R_but HR13.out h6b HG.out)⟩, ⟨A14, c14, By.of (R_but HR14.out h6b HG.out)⟩, HBW.out.trans (h6b.below (Nat.le_refl _))⟩
          · go_wp2
            have h6 := fill15 (b0 := .int .i64 a0) (b1 := .int .i64 a1) (b2 := .bool a2) (b3 := .bool a3) (b4 := .int .u32 a4) (b5 := .int .u32 a5) (b6 := .int .u32 a6) (b7 := .int .u32 a7) (b8 := .int .i64 a8) (b9 := .int .i64 a9) (b10 := .int .u32 a10) (b11 := .int .u32 a11) (b12 := .int .u32 a12) (b13 := .slice A13 l13.length c13) (b14 := .slice A14 l14.length c14) H19.out
            have h6b := fill15_but (W := w9) (h := w.heap.size) (b0 := .int .i64 a0) (b1 := .int .i64 a1) (b2 := .bool a2) (b3 := .bool a3) (b4 := .int .u32 a4) (b5 := .int .u32 a5) (b6 := .int .u32 a6) (b7 := .int .u32 a7) (b8 := .int .i64 a8) (b9 := .int .i64 a9) (b10 := .int .u32 a10) (b11 := .int .u32 a11) (b12 := .int .u32 a12) (b13 := .slice A13 l13.length c13) (b14 := .slice A14 l14.length c14)
            refine bodyPost_ret (results_list (rs := [.cell 2 41, .tmp 3]) rfl (by simp) (.cell w.heap.size 41 #[.int .i64 a0, .int .i64 a1, .bool a2, .bool a3, .int .u32 a4, .int .u32 a5, .int .u32 a6, .int .u32 a7, .int .i64 a8, .int .i64 a9, .int .u32 a10, .int .u32 a11, .int .u32 a12, .slice A13 l13.length c13, .slice A14 l14.length c14] (0, 0) _ rfl h6 Try.underlying41 rfl (by kernel_rfl) (.tmp .nil))) rfl ?_
            exact ⟨A13, c13, A14, c14, rfl, Sk.of (R_but HR13.out h6b HG.out), By.of (R_but HR14.out h6b HG.out), HBW.out.trans (h6b.below (Nat.le_refl _))⟩
end Go.Proofs.Ytbogmogimoleaaa.Given
