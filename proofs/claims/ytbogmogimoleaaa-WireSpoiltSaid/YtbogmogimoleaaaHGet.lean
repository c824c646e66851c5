/- The walk of Get. -/
import Derived.Test.YtbogmogimoleaaaHKs
namespace Go.Proofs.Ytbogmogimoleaaa.Given
open Go.RowKit Go.Proofs.YtbogmogimoleaaaW.PrintWords Go.Proofs.YtbogmogimoleaaaW.PrintLast Go.Proofs.YtbogmogimoleaaaW.PrintMore Go.Proofs.Ytbogmogimoleaaa.W Go.Proofs.Ytbogmogimoleaaa.Plain7
set_option linter.unusedVariables false
set_option linter.unusedSimpArgs false
theorem num_drop (b : List Int) : True := trivial
theorem byt_opnd {b : List Int} (h : Byt b) : Byt (opnd b).1 := by
  unfold opnd
  split
  · intro c hc; cases hc
  · split
    · exact byt_drop h 4
    · intro c hc; cases hc
theorem opnd_len (b : List Int) : (opnd b).1.length ≤ b.length := by
  unfold opnd
  split
  · simp
  · split
    · simp
    · simp
theorem rec_first (w : World) : Rec (w.alloc (.cells zeros 41)) w.heap.size zeros := blk_new w _
set_option maxHeartbeats 4000000 in
set_option maxRecDepth 100000 in
theorem get_bad (b own : List Int) (err : Int) (ho : opnd b = (own, err)) (herr : err ≠ 0) (hb : Byt b) (hn : b.length ≤ 1000000) (A : Option Addr) (c : Nat) (w : World) (h : By w A c b) :
    Calls Try.prog 30 #[.slice A b.length c] w fun e w' => e = .returned (.tuple #[.agg zeros, .int .i64 err]) ∧ Below w.heap.size w w' := by
  have hal : Below w.heap.size w (w.alloc (.cells #[.int .i64 0, .int .i64 0, .bool false, .bool false, .int .u32 0, .int .u32 0, .int .u32 0, .int .u32 0, .int .i64 0, .int .i64 0, .int .u32 0, .int .u32 0, .int .u32 0, .slice none 0 0, .slice none 0 0] 41)) := below_alloc (Below.refl _ _) _
  have HOP := Aside0.mk (k_open ho hb hn (h.later hal))
  have hne : (err == 0) = false := by rw [beq_eq_false_iff_ne]; exact herr
  clear h ho herr
  go_enter Try.func30, Try.ntmps30
  go_wp2_with (go_at_call 16; (with_reducible refine HOP.out.mono ?_); rintro e w1 ⟨A2, c2, rfl, hby, hbl⟩; have hrec := Aside0.mk (show Rec w1 w.heap.size zeros from blk_below (rec_first w) hbl.out); obtain ⟨z0, z1, z2, z3, z4, z5, z6, z7, z8, z9, z10, z11, z12, z13, z14⟩ := hrec.out.all; have zf0 := (hrec.out).frozen 0; have zf1 := (hrec.out).frozen 1; have zf2 := (hrec.out).frozen 2; have zf3 := (hrec.out).frozen 3; have zf4 := (hrec.out).frozen 4; have zf5 := (hrec.out).frozen 5; have zf6 := (hrec.out).frozen 6; have zf7 := (hrec.out).frozen 7; have zf8 := (hrec.out).frozen 8; have zf9 := (hrec.out).frozen 9; have zf10 := (hrec.out).frozen 10; have zf11 := (hrec.out).frozen 11; have zf12 := (hrec.out).frozen 12; have zf13 := (hrec.out).frozen 13; have zf14 := (hrec.out).frozen 14)
  have h6 := fill15 (b0 := .int .i64 0) (b1 := .int .i64 0) (b2 := .bool false) (b3 := .bool false) (b4 := .int .u32 0) (b5 := .int .u32 0) (b6 := .int .u32 0) (b7 := .int .u32 0) (b8 := .int .i64 0) (b9 := .int .i64 0) (b10 := .int .u32 0) (b11 := .int .u32 0) (b12 := .int .u32 0) (b13 := .slice none 0 0) (b14 := .slice none 0 0) hrec.out
  have h6b := fill15_but (W := w1) (h := w.heap.size) (b0 := .int .i64 0) (b1 := .int .i64 0) (b2 := .bool false) (b3 := .bool false) (b4 := .int .u32 0) (b5 := .int .u32 0) (b6 := .int .u32 0) (b7 := .int .u32 0) (b8 := .int .i64 0) (b9 := .int .i64 0) (b10 := .int .u32 0) (b11 := .int .u32 0) (b12 := .int .u32 0) (b13 := .slice none 0 0) (b14 := .slice none 0 0)
  refine bodyPost_ret (results_list (rs := [.cell 2 41, .tmp 3]) rfl (by simp) (.cell w.heap.size 41 zeros (0, 0) _ rfl h6 Try.underlying41 rfl (by kernel_rfl) (.tmp .nil))) rfl ?_
  exact ⟨rfl, (hal.trans (hbl.out.mono hal.size)).trans (h6b.below (Nat.le_refl _))⟩
theorem k_got_no {b : List Int} (hb : Byt b) (hn : b.length ≤ 1000000) (hno : ¬ enough b) {A : Option Addr} {c : Nat} {w : World} (h : By w A c b) :
    Calls Try.prog 40 #[.slice A b.length c] w fun e w' => e = .returned (.tuple #[.agg #[.int .i64 0, .int .i64 0, .bool false, .bool false, .int .u32 0, .int .u32 0, .int .u32 0, .int .u32 0, .int .i64 0, .int .i64 0, .int .u32 0, .int .u32 0, .int .u32 0, .slice none 0 0, .slice none 0 0], .bool false]) ∧ Aside0 (Below w.heap.size w w') :=
  (got_no A c b w h.1 h.2 (byt_ok hb) (by omega) hno).mono fun e w' ⟨h1, h2⟩ => ⟨h1, ⟨h2⟩⟩
theorem k_got {b : List Int} (hb : Byt b) (hn : b.length ≤ 1000000) (hen : enough b) {a0 : Int} {a1 : Int} {a2 : Bool} {a3 : Bool} {a4 : Int} {a5 : Int} {a6 : Int} {a7 : Int} {a8 : Int} {a9 : Int} {a10 : Int} {a11 : Int} {a12 : Int} {l13 : List S58} {l14 : List Int} (hs : segOf b = ⟨a0, a1, a2, a3, a4, a5, a6, a7, a8, a9, a10, a11, a12, l13, l14⟩) {A : Option Addr} {c : Nat} {w : World} (h : By w A c b) :
    Calls Try.prog 40 #[.slice A b.length c] w fun e w' => ∃ A13 c13 A14 c14, e = .returned (.tuple #[.agg #[.int .i64 a0, .int .i64 a1, .bool a2, .bool a3, .int .u32 a4, .int .u32 a5, .int .u32 a6, .int .u32 a7, .int .i64 a8, .int .i64 a9, .int .u32 a10, .int .u32 a11, .int .u32 a12, .slice A13 l13.length c13, .slice A14 l14.length c14], .bool (mayB ⟨a0, a1, a2, a3, a4, a5, a6, a7, a8, a9, a10, a11, a12, l13, l14⟩)]) ∧ Aside0 (Kd.R k58 58 w' w.heap.size (fun _ => True) (.slice A13 l13.length c13) l13) ∧ Aside0 (Kd.R (Kd.int .u8) 5 w' w.heap.size (fun _ => True) (.slice A14 l14.length c14) l14) ∧ Aside0 (Below w.heap.size w w') := by
  have hsi := segOf_is b
  rw [hs] at hsi
  refine (got_yes A c b w (mayB ⟨a0, a1, a2, a3, a4, a5, a6, a7, a8, a9, a10, a11, a12, l13, l14⟩) h.1 h.2 (byt_ok hb) (by omega) hen a0 a1 a2 a3 a4 a5 a6 a7 a8 a9 a10 a11 a12 l13 l14 hsi (may_eq ⟨a0, a1, a2, a3, a4, a5, a6, a7, a8, a9, a10, a11, a12, l13, l14⟩)).mono ?_
  rintro e w' ⟨A13, c13, A14, c14, rfl, h1, h2, h3⟩
  exact ⟨A13, c13, A14, c14, rfl, ⟨h1⟩, ⟨h2⟩, ⟨h3⟩⟩
set_option maxHeartbeats 4000000 in
set_option maxRecDepth 100000 in
theorem get_short (b own : List Int) (ho : opnd b = (own, 0)) (hno : ¬ enough own) (hob : Byt own) (hol : own.length ≤ 1000000) (hb : Byt b) (hn : b.length ≤ 1000000) (A : Option Addr) (c : Nat) (w : World) (h : By w A c b) :
    Calls Try.prog 30 #[.slice A b.length c] w fun e w' => e = .returned (.tuple #[.agg zeros, .int .i64 7]) ∧ Below w.heap.size w w' := by
  have hal : Below w.heap.size w (w.alloc (.cells #[.int .i64 0, .int .i64 0, .bool false, .bool false, .int .u32 0, .int .u32 0, .int .u32 0, .int .u32 0, .int .i64 0, .int .i64 0, .int .u32 0, .int .u32 0, .int .u32 0, .slice none 0 0, .slice none 0 0] 41)) := below_alloc (Below.refl _ _) _
  have HOP := Aside0.mk (k_open ho hb hn (h.later hal))
  have HNO := Aside0.mk hno
  have HOB := Aside0.mk hob
  have HN := Aside0.mk hol
  clear h ho hno hob hol
  go_enter Try.func30, Try.ntmps30
  go_wp2_with (first
    | (go_at_call 16; (with_reducible refine HOP.out.mono ?_); rintro e w1 ⟨A2, c2, rfl, hby, hbl⟩)
    | (go_at_call 40; (with_reducible refine (k_got_no HOB.out HN.out HNO.out hby.out).mono ?_); rintro e w2 ⟨rfl, hb2⟩; have hrec := Aside0.mk (show Rec (w2.alloc (.cells #[.int .i64 0, .int .i64 0, .bool false, .bool false, .int .u32 0, .int .u32 0, .int .u32 0, .int .u32 0, .int .i64 0, .int .i64 0, .int .u32 0, .int .u32 0, .int .u32 0, .slice none 0 0, .slice none 0 0] 41)) w.heap.size zeros from blk_alloc (blk_below (blk_below (rec_first w) hbl.out) hb2.out) _); obtain ⟨z0, z1, z2, z3, z4, z5, z6, z7, z8, z9, z10, z11, z12, z13, z14⟩ := hrec.out.all; have zf0 := (hrec.out).frozen 0; have zf1 := (hrec.out).frozen 1; have zf2 := (hrec.out).frozen 2; have zf3 := (hrec.out).frozen 3; have zf4 := (hrec.out).frozen 4; have zf5 := (hrec.out).frozen 5; have zf6 := (hrec.out).frozen 6; have zf7 := (hrec.out).frozen 7; have zf8 := (hrec.out).frozen 8; have zf9 := (hrec.out).frozen 9; have zf10 := (hrec.out).frozen 10; have zf11 := (hrec.out).frozen 11; have zf12 := (hrec.out).frozen 12; have zf13 := (hrec.out).frozen 13; have zf14 := (hrec.out).frozen 14))
  have h6 := fill15 (b0 := .int .i64 0) (b1 := .int .i64 0) (b2 := .bool false) (b3 := .bool false) (b4 := .int .u32 0) (b5 := .int .u32 0) (b6 := .int .u32 0) (b7 := .int .u32 0) (b8 := .int .i64 0) (b9 := .int .i64 0) (b10 := .int .u32 0) (b11 := .int .u32 0) (b12 := .int .u32 0) (b13 := .slice none 0 0) (b14 := .slice none 0 0) hrec.out
  have h6b := fill15_but (W := w2.alloc (.cells #[.int .i64 0, .int .i64 0, .bool false, .bool false, .int .u32 0, .int .u32 0, .int .u32 0, .int .u32 0, .int .i64 0, .int .i64 0, .int .u32 0, .int .u32 0, .int .u32 0, .slice none 0 0, .slice none 0 0] 41)) (h := w.heap.size) (b0 := .int .i64 0) (b1 := .int .i64 0) (b2 := .bool false) (b3 := .bool false) (b4 := .int .u32 0) (b5 := .int .u32 0) (b6 := .int .u32 0) (b7 := .int .u32 0) (b8 := .int .i64 0) (b9 := .int .i64 0) (b10 := .int .u32 0) (b11 := .int .u32 0) (b12 := .int .u32 0) (b13 := .slice none 0 0) (b14 := .slice none 0 0)
  refine bodyPost_ret (results_list (rs := [.cell 2 41, .tmp 3]) rfl (by simp) (.cell w.heap.size 41 zeros (0, 0) _ rfl h6 Try.underlying41 rfl (by kernel_rfl) (.tmp .nil))) rfl ?_
  exact ⟨rfl, below_alloc (((hal.trans (hbl.out.mono hal.size)).trans (hb2.out.mono (Nat.le_trans hal.size hbl.out.size)))) _ |>.trans (h6b.below (Nat.le_refl _))⟩
set_option maxHeartbeats 4000000 in
set_option maxRecDepth 100000 in
theorem get_form (b own : List Int) (ho : opnd b = (own, 0)) (hen : enough own) (a0 : Int) (a1 : Int) (a2 : Bool) (a3 : Bool) (a4 : Int) (a5 : Int) (a6 : Int) (a7 : Int) (a8 : Int) (a9 : Int) (a10 : Int) (a11 : Int) (a12 : Int) (l13 : List S58) (l14 : List Int) (hs : segOf own = ⟨a0, a1, a2, a3, a4, a5, a6, a7, a8, a9, a10, a11, a12, l13, l14⟩) (hm : mayB ⟨a0, a1, a2, a3, a4, a5, a6, a7, a8, a9, a10, a11, a12, l13, l14⟩ = false) (hob : Byt own) (hol : own.length ≤ 1000000) (hb : Byt b) (hn : b.length ≤ 1000000) (A : Option Addr) (c : Nat) (w : World) (h : By w A c b) :
    Calls Try.prog 30 #[.slice A b.length c] w fun e w' => e = .returned (.tuple #[.agg zeros, .int .i64 7]) ∧ Below w.heap.size w w' := by
  have hal : Below w.heap.size w (w.alloc (.cells #[.int .i64 0, .int .i64 0, .bool false, .bool false, .int .u32 0, .int .u32 0, .int .u32 0, .int .u32 0, .int .i64 0, .int .i64 0, .int .u32 0, .int .u32 0, .int .u32 0, .slice none 0 0, .slice none 0 0] 41)) := below_alloc (Below.refl _ _) _
  have HOP := Aside0.mk (k_open ho hb hn (h.later hal))
  have HEN := Aside0.mk hen
  have HOB := Aside0.mk hob
  have HN := Aside0.mk hol
  have HS := Aside0.mk hs
  clear h ho hen hob hs hol
  go_enter Try.func30, Try.ntmps30
  go_wp2_with (first
    | (go_at_call 16; (with_reducible refine HOP.out.mono ?_); rintro e w1 ⟨A2, c2, rfl, hby, hbl⟩)
    | (go_at_call 40; (with_reducible refine (k_got HOB.out HN.out HEN.out HS.out hby.out).mono ?_); rintro e w2 ⟨A13, c13, A14, c14, rfl, hS, hB, hb2⟩; have hrec := Aside0.mk (show Rec (w2.alloc (.cells #[.int .i64 a0, .int .i64 a1, .bool a2, .bool a3, .int .u32 a4, .int .u32 a5, .int .u32 a6, .int .u32 a7, .int .i64 a8, .int .i64 a9, .int .u32 a10, .int .u32 a11, .int .u32 a12, .slice A13 l13.length c13, .slice A14 l14.length c14] 41)) w.heap.size zeros from blk_alloc (blk_below (blk_below (rec_first w) hbl.out) hb2.out) _); obtain ⟨z0, z1, z2, z3, z4, z5, z6, z7, z8, z9, z10, z11, z12, z13, z14⟩ := hrec.out.all; have zf0 := (hrec.out).frozen 0; have zf1 := (hrec.out).frozen 1; have zf2 := (hrec.out).frozen 2; have zf3 := (hrec.out).frozen 3; have zf4 := (hrec.out).frozen 4; have zf5 := (hrec.out).frozen 5; have zf6 := (hrec.out).frozen 6; have zf7 := (hrec.out).frozen 7; have zf8 := (hrec.out).frozen 8; have zf9 := (hrec.out).frozen 9; have zf10 := (hrec.out).frozen 10; have zf11 := (hrec.out).frozen 11; have zf12 := (hrec.out).frozen 12; have zf13 := (hrec.out).frozen 13; have zf14 := (hrec.out).frozen 14))
  have h6 := fill15 (b0 := .int .i64 0) (b1 := .int .i64 0) (b2 := .bool false) (b3 := .bool false) (b4 := .int .u32 0) (b5 := .int .u32 0) (b6 := .int .u32 0) (b7 := .int .u32 0) (b8 := .int .i64 0) (b9 := .int .i64 0) (b10 := .int .u32 0) (b11 := .int .u32 0) (b12 := .int .u32 0) (b13 := .slice none 0 0) (b14 := .slice none 0 0) hrec.out
  have h6b := fill15_but (W := w2.alloc (.cells #[.int .i64 a0, .int .i64 a1, .bool a2, .bool a3, .int .u32 a4, .int .u32 a5, .int .u32 a6, .int .u32 a7, .int .i64 a8, .int .i64 a9, .int .u32 a10, .int .u32 a11, .int .u32 a12, .slice A13 l13.length c13, .slice A14 l14.length c14] 41)) (h := w.heap.size) (b0 := .int .i64 0) (b1 := .int .i64 0) (b2 := .bool false) (b3 := .bool false) (b4 := .int .u32 0) (b5 := .int .u32 0) (b6 := .int .u32 0) (b7 := .int .u32 0) (b8 := .int .i64 0) (b9 := .int .i64 0) (b10 := .int .u32 0) (b11 := .int .u32 0) (b12 := .int .u32 0) (b13 := .slice none 0 0) (b14 := .slice none 0 0)
  refine bodyPost_ret (results_list (rs := [.cell 2 41, .tmp 3]) rfl (by simp) (.cell w.heap.size 41 zeros (0, 0) _ rfl h6 Try.underlying41 rfl (by kernel_rfl) (.tmp .nil))) rfl ?_
  exact ⟨rfl, below_alloc (((hal.trans (hbl.out.mono hal.size)).trans (hb2.out.mono (Nat.le_trans hal.size hbl.out.size)))) _ |>.trans (h6b.below (Nat.le_refl _))⟩
set_option maxHeartbeats 4000000 in
set_option maxRecDepth 100000 in
theorem get_good (b own : List Int) (ho : opnd b = (own, 0)) (hen : enough own) (a0 : Int) (a1 : Int) (a2 : Bool) (a3 : Bool) (a4 : Int) (a5 : Int) (a6 : Int) (a7 : Int) (a8 : Int) (a9 : Int) (a10 : Int) (a11 : Int) (a12 : Int) (l13 : List S58) (l14 : List Int) (hs : segOf own = ⟨a0, a1, a2, a3, a4, a5, a6, a7, a8, a9, a10, a11, a12, l13, l14⟩) (hm : mayB ⟨a0, a1, a2, a3, a4, a5, a6, a7, a8, a9, a10, a11, a12, l13, l14⟩ = true) (hob : Byt own) (hol : own.length ≤ 1000000) (hb : Byt b) (hn : b.length ≤ 1000000) (A : Option Addr) (c : Nat) (w : World) (h : By w A c b) :
    Calls Try.prog 30 #[.slice A b.length c] w fun e w' => ∃ A13 c13 A14 c14, e = .returned (.tuple #[.agg #[.int .i64 a0, .int .i64 a1, .bool a2, .bool a3, .int .u32 a4, .int .u32 a5, .int .u32 a6, .int .u32 a7, .int .i64 a8, .int .i64 a9, .int .u32 a10, .int .u32 a11, .int .u32 a12, .slice A13 l13.length c13, .slice A14 l14.length c14], .int .i64 0]) ∧ Sk w' A13 c13 l13 ∧ By w' A14 c14 l14 ∧ Below w.heap.size w w' := by
  have hal : Below w.heap.size w (w.alloc (.cells #[.int .i64 0, .int .i64 0, .bool false, .bool false, .int .u32 0, .int .u32 0, .int .u32 0, .int .u32 0, .int .i64 0, .int .i64 0, .int .u32 0, .int .u32 0, .int .u32 0, .slice none 0 0, .slice none 0 0] 41)) := below_alloc (Below.refl _ _) _
  have HOP := Aside0.mk (k_open ho hb hn (h.later hal))
  have HEN := Aside0.mk hen
  have HOB := Aside0.mk hob
  have HN := Aside0.mk hol
  have HS := Aside0.mk hs
  clear h ho hen hob hs hol
  go_enter Try.func30, Try.ntmps30
  go_wp2_with (first
    | (go_at_call 16; (with_reducible refine HOP.out.mono ?_); rintro e w1 ⟨A2, c2, rfl, hby, hbl⟩)
    | (go_at_call 40; (with_reducible refine (k_got HOB.out HN.out HEN.out HS.out hby.out).mono ?_); rintro e w2 ⟨A13, c13, A14, c14, rfl, hS, hB, hb2⟩; have hrec := Aside0.mk (show Rec (w2.alloc (.cells #[.int .i64 a0, .int .i64 a1, .bool a2, .bool a3, .int .u32 a4, .int .u32 a5, .int .u32 a6, .int .u32 a7, .int .i64 a8, .int .i64 a9, .int .u32 a10, .int .u32 a11, .int .u32 a12, .slice A13 l13.length c13, .slice A14 l14.length c14] 41)) w.heap.size zeros from blk_alloc (blk_below (blk_below (rec_first w) hbl.out) hb2.out) _); have hnew := Aside0.mk (show Rec (w2.alloc (.cells #[.int .i64 a0, .int .i64 a1, .bool a2, .bool a3, .int .u32 a4, .int .u32 a5, .int .u32 a6, .int .u32 a7, .int .i64 a8, .int .i64 a9, .int .u32 a10, .int .u32 a11, .int .u32 a12, .slice A13 l13.length c13, .slice A14 l14.length c14] 41)) w2.heap.size #[.int .i64 a0, .int .i64 a1, .bool a2, .bool a3, .int .u32 a4, .int .u32 a5, .int .u32 a6, .int .u32 a7, .int .i64 a8, .int .i64 a9, .int .u32 a10, .int .u32 a11, .int .u32 a12, .slice A13 l13.length c13, .slice A14 l14.length c14] from blk_new _ _); obtain ⟨z0, z1, z2, z3, z4, z5, z6, z7, z8, z9, z10, z11, z12, z13, z14⟩ := hrec.out.all; have zf0 := (hrec.out).frozen 0; have zf1 := (hrec.out).frozen 1; have zf2 := (hrec.out).frozen 2; have zf3 := (hrec.out).frozen 3; have zf4 := (hrec.out).frozen 4; have zf5 := (hrec.out).frozen 5; have zf6 := (hrec.out).frozen 6; have zf7 := (hrec.out).frozen 7; have zf8 := (hrec.out).frozen 8; have zf9 := (hrec.out).frozen 9; have zf10 := (hrec.out).frozen 10; have zf11 := (hrec.out).frozen 11; have zf12 := (hrec.out).frozen 12; have zf13 := (hrec.out).frozen 13; have zf14 := (hrec.out).frozen 14; obtain ⟨y0, y1, y2, y3, y4, y5, y6, y7, y8, y9, y10, y11, y12, y13, y14⟩ := hnew.out.all; have yf0 := (hnew.out).frozen 0; have yf1 := (hnew.out).frozen 1; have yf2 := (hnew.out).frozen 2; have yf3 := (hnew.out).frozen 3; have yf4 := (hnew.out).frozen 4; have yf5 := (hnew.out).frozen 5; have yf6 := (hnew.out).frozen 6; have yf7 := (hnew.out).frozen 7; have yf8 := (hnew.out).frozen 8; have yf9 := (hnew.out).frozen 9; have yf10 := (hnew.out).frozen 10; have yf11 := (hnew.out).frozen 11; have yf12 := (hnew.out).frozen 12; have yf13 := (hnew.out).frozen 13; have yf14 := (hnew.out).frozen 14))
  have h6 := fill15 (b0 := .int .i64 a0) (b1 := .int .i64 a1) (b2 := .bool a2) (b3 := .bool a3) (b4 := .int .u32 a4) (b5 := .int .u32 a5) (b6 := .int .u32 a6) (b7 := .int .u32 a7) (b8 := .int .i64 a8) (b9 := .int .i64 a9) (b10 := .int .u32 a10) (b11 := .int .u32 a11) (b12 := .int .u32 a12) (b13 := .slice A13 l13.length c13) (b14 := .slice A14 l14.length c14) hrec.out
  have h6b := fill15_but (W := w2.alloc (.cells #[.int .i64 a0, .int .i64 a1, .bool a2, .bool a3, .int .u32 a4, .int .u32 a5, .int .u32 a6, .int .u32 a7, .int .i64 a8, .int .i64 a9, .int .u32 a10, .int .u32 a11, .int .u32 a12, .slice A13 l13.length c13, .slice A14 l14.length c14] 41)) (h := w.heap.size) (b0 := .int .i64 a0) (b1 := .int .i64 a1) (b2 := .bool a2) (b3 := .bool a3) (b4 := .int .u32 a4) (b5 := .int .u32 a5) (b6 := .int .u32 a6) (b7 := .int .u32 a7) (b8 := .int .i64 a8) (b9 := .int .i64 a9) (b10 := .int .u32 a10) (b11 := .int .u32 a11) (b12 := .int .u32 a12) (b13 := .slice A13 l13.length c13) (b14 := .slice A14 l14.length c14)
  have hlt : w.heap.size < w2.heap.size := Nat.lt_of_lt_of_le (Nat.lt_of_lt_of_le (by rw [show (w.alloc (.cells #[.int .i64 0, .int .i64 0, .bool false, .bool false, .int .u32 0, .int .u32 0, .int .u32 0, .int .u32 0, .int .i64 0, .int .i64 0, .int .u32 0, .int .u32 0, .int .u32 0, .slice none 0 0, .slice none 0 0] 41)).heap.size = w.heap.size + 1 from Array.size_push _]; omega) hbl.out.size) hb2.out.size
  have hal2 : Below w2.heap.size w2 (w2.alloc (.cells #[.int .i64 a0, .int .i64 a1, .bool a2, .bool a3, .int .u32 a4, .int .u32 a5, .int .u32 a6, .int .u32 a7, .int .i64 a8, .int .i64 a9, .int .u32 a10, .int .u32 a11, .int .u32 a12, .slice A13 l13.length c13, .slice A14 l14.length c14] 41)) := below_alloc (Below.refl _ _) _
  refine bodyPost_ret (results_list (rs := [.cell 2 41, .tmp 3]) rfl (by simp) (.cell w.heap.size 41 #[.int .i64 a0, .int .i64 a1, .bool a2, .bool a3, .int .u32 a4, .int .u32 a5, .int .u32 a6, .int .u32 a7, .int .i64 a8, .int .i64 a9, .int .u32 a10, .int .u32 a11, .int .u32 a12, .slice A13 l13.length c13, .slice A14 l14.length c14] (0, 0) _ rfl h6 Try.underlying41 rfl (by kernel_rfl) (.tmp .nil))) rfl ?_
  have hw1 : w.heap.size < w1.heap.size := Nat.lt_of_lt_of_le (by rw [show (w.alloc (.cells #[.int .i64 0, .int .i64 0, .bool false, .bool false, .int .u32 0, .int .u32 0, .int .u32 0, .int .u32 0, .int .i64 0, .int .i64 0, .int .u32 0, .int .u32 0, .int .u32 0, .slice none 0 0, .slice none 0 0] 41)).heap.size = w.heap.size + 1 from Array.size_push _]; omega) hbl.out.size
  exact ⟨A13, c13, A14, c14, rfl, Sk.of (R_but (Kd.R_below hS.out hal2) h6b hw1), By.of (R_but (Kd.R_below hB.out hal2) h6b hw1), below_alloc (((hal.trans (hbl.out.mono hal.size)).trans (hb2.out.mono (Nat.le_trans hal.size hbl.out.size)))) _ |>.trans (h6b.below (Nat.le_refl _))⟩
def enoughB (bs : List Int) : Bool := decide (32 + 8 * (num bs 31 1).toNat ≤ bs.length)
/-- What Get answers. -/
def getB (b : List Int) : Sg × Int := if (opnd b).2 = 0 then (if (enoughB (opnd b).1 && mayB (segOf (opnd b).1)) = true then (segOf (opnd b).1, 0) else (zSg, 7)) else (zSg, (opnd b).2)
theorem k_get {b : List Int} {a0 : Int} {a1 : Int} {a2 : Bool} {a3 : Bool} {a4 : Int} {a5 : Int} {a6 : Int} {a7 : Int} {a8 : Int} {a9 : Int} {a10 : Int} {a11 : Int} {a12 : Int} {l13 : List S58} {l14 : List Int} {err : Int} (hg : getB b = (⟨a0, a1, a2, a3, a4, a5, a6, a7, a8, a9, a10, a11, a12, l13, l14⟩, err)) (hb : Byt b) (hn : b.length ≤ 1000000) {A : Option Addr} {c : Nat} {w : World} (h : By w A c b) :
    Calls Try.prog 30 #[.slice A b.length c] w fun e w' => ∃ A13 c13 A14 c14, e = .returned (.tuple #[.agg #[.int .i64 a0, .int .i64 a1, .bool a2, .bool a3, .int .u32 a4, .int .u32 a5, .int .u32 a6, .int .u32 a7, .int .i64 a8, .int .i64 a9, .int .u32 a10, .int .u32 a11, .int .u32 a12, .slice A13 l13.length c13, .slice A14 l14.length c14], .int .i64 err]) ∧ Aside0 (Sk w' A13 c13 l13) ∧ Aside0 (By w' A14 c14 l14) ∧ Aside0 (Below w.heap.size w w') := by
  unfold getB at hg
  have hob := byt_opnd hb
  have hol := opnd_len b
  generalize ho : opnd b = o at *
  obtain ⟨own, er⟩ := o
  simp only at hg hob hol
  have zero : ∀ (er' : Int), (zSg, er') = ((⟨a0, a1, a2, a3, a4, a5, a6, a7, a8, a9, a10, a11, a12, l13, l14⟩ : Sg), err) → (Calls Try.prog 30 #[.slice A b.length c] w fun e w' => e = .returned (.tuple #[.agg zeros, .int .i64 er']) ∧ Below w.heap.size w w') → Calls Try.prog 30 #[.slice A b.length c] w fun e w' => ∃ A13 c13 A14 c14, e = .returned (.tuple #[.agg #[.int .i64 a0, .int .i64 a1, .bool a2, .bool a3, .int .u32 a4, .int .u32 a5, .int .u32 a6, .int .u32 a7, .int .i64 a8, .int .i64 a9, .int .u32 a10, .int .u32 a11, .int .u32 a12, .slice A13 l13.length c13, .slice A14 l14.length c14], .int .i64 err]) ∧ Aside0 (Sk w' A13 c13 l13) ∧ Aside0 (By w' A14 c14 l14) ∧ Aside0 (Below w.heap.size w w') := by
    intro er' he hc
    obtain ⟨h1, h2⟩ := Prod.mk.inj he
    subst h2
    unfold zSg at h1
    injection h1 with h0 h1 h2 h3 h4 h5 h6 h7 h8 h9 h10 h11 h12 h13 h14
    subst h0 h1 h2 h3 h4 h5 h6 h7 h8 h9 h10 h11 h12 h13 h14
    refine hc.mono ?_
    rintro e w' ⟨rfl, hb⟩
    exact ⟨none, 0, none, 0, rfl, ⟨Sk.none _⟩, ⟨By.none _⟩, ⟨hb⟩⟩
  by_cases he : er = 0
  · subst he
    rw [if_pos rfl] at hg
    by_cases hen : enough own
    · have hen' : enoughB own = true := decide_eq_true hen
      rw [hen', Bool.true_and] at hg
      generalize hs : segOf own = sg at hg
      obtain ⟨d0, d1, d2, d3, d4, d5, d6, d7, d8, d9, d10, d11, d12, m13, m14⟩ := sg
      by_cases hm : mayB ⟨d0, d1, d2, d3, d4, d5, d6, d7, d8, d9, d10, d11, d12, m13, m14⟩ = true
      · rw [if_pos hm] at hg
        obtain ⟨h1, h2⟩ := Prod.mk.inj hg
        subst h2
        injection h1 with h0 h1 h2 h3 h4 h5 h6 h7 h8 h9 h10 h11 h12 h13 h14
        subst h0 h1 h2 h3 h4 h5 h6 h7 h8 h9 h10 h11 h12 h13 h14
        refine (get_good b own ho hen _ _ _ _ _ _ _ _ _ _ _ _ _ _ _ hs hm hob (by omega) hb hn A c w h).mono ?_
        rintro e w' ⟨A13, c13, A14, c14, rfl, h1, h2, h3⟩
        exact ⟨A13, c13, A14, c14, rfl, ⟨h1⟩, ⟨h2⟩, ⟨h3⟩⟩
      · rw [if_neg hm] at hg
        exact zero 7 hg (get_form b own ho hen _ _ _ _ _ _ _ _ _ _ _ _ _ _ _ hs (by simpa using hm) hob (by omega) hb hn A c w h)
    · have hen' : enoughB own = false := decide_eq_false hen
      rw [hen', Bool.false_and, if_neg (by simp)] at hg
      exact zero 7 hg (get_short b own ho hen hob (by omega) hb hn A c w h)
  · rw [if_neg he] at hg
    exact zero er hg (get_bad b own er ho he hb hn A c w h)
end Go.Proofs.Ytbogmogimoleaaa.Given
