/- The walk of got. -/
import Derived.Test.YtbogmogimoleaaaHCatch
import Derived.Test.YtbogmogimoleaaaWx2
namespace Go.Proofs.Ytbogmogimoleaaa.Given
open Go.RowKit Go.Proofs.YtbogmogimoleaaaW.PrintWords Go.Proofs.YtbogmogimoleaaaW.PrintLast Go.Proofs.YtbogmogimoleaaaW.PrintMore Go.Proofs.Ytbogmogimoleaaa.W
set_option linter.unusedVariables false
set_option linter.unusedSimpArgs false
theorem Rec.all {W : World} {h : Nat} {b0 b1 b2 b3 b4 b5 b6 b7 b8 b9 b10 b11 b12 b13 b14 : Value} (r : Rec W h #[b0, b1, b2, b3, b4, b5, b6, b7, b8, b9, b10, b11, b12, b13, b14]) : W.cell? ⟨h, 0, none⟩ = some b0 ∧ W.cell? ⟨h, 1, none⟩ = some b1 ∧ W.cell? ⟨h, 2, none⟩ = some b2 ∧ W.cell? ⟨h, 3, none⟩ = some b3 ∧ W.cell? ⟨h, 4, none⟩ = some b4 ∧ W.cell? ⟨h, 5, none⟩ = some b5 ∧ W.cell? ⟨h, 6, none⟩ = some b6 ∧ W.cell? ⟨h, 7, none⟩ = some b7 ∧ W.cell? ⟨h, 8, none⟩ = some b8 ∧ W.cell? ⟨h, 9, none⟩ = some b9 ∧ W.cell? ⟨h, 10, none⟩ = some b10 ∧ W.cell? ⟨h, 11, none⟩ = some b11 ∧ W.cell? ⟨h, 12, none⟩ = some b12 ∧ W.cell? ⟨h, 13, none⟩ = some b13 ∧ W.cell? ⟨h, 14, none⟩ = some b14 := by
  refine ⟨?_, ?_, ?_, ?_, ?_, ?_, ?_, ?_, ?_, ?_, ?_, ?_, ?_, ?_, ?_⟩ <;> (rw [blk_cell r]; rfl)
theorem read_no (w0 w : World) (g : Nat) (bs : List Int) (h : RD w0 w g bs) (hlen : bs.length < 140737488355328) (hno : ¬ enough bs) :
    Calls Try.prog 43 #[.pointer (some ⟨g, 0, none⟩)] w fun e w' => e = .panicked short ∧ Aside0 (Below w0.heap.size w0 w') ∧ Aside0 (w.heap.size = w.heap.size) :=
  read_calls w0 w g bs h hlen _ (fun W _ hb => ⟨rfl, ⟨hb⟩, ⟨rfl⟩⟩) (fun W A13 c13 A14 c14 hen _ _ _ => (hno hen).elim)
structure SegIs (bs : List Int) (a0 : Int) (a1 : Int) (a2 : Bool) (a3 : Bool) (a4 : Int) (a5 : Int) (a6 : Int) (a7 : Int) (a8 : Int) (a9 : Int) (a10 : Int) (a11 : Int) (a12 : Int) (l13 : List S58) (l14 : List Int) : Prop where
  e0 : a0 = num bs 0 1 / 16
  e1 : a1 = num bs 0 1 % 16
  e2 : a2 = (bits BinOp.and IntKind.i64 (num bs 1 1) 1 != 0)
  e3 : a3 = (bits BinOp.and IntKind.i64 (num bs 1 1) 2 != 0)
  e4 : a4 = num bs 4 4
  e5 : a5 = num bs 8 4
  e6 : a6 = num bs 12 4
  e7 : a7 = num bs 16 4
  e8 : a8 = num bs 2 2
  e9 : a9 = num bs 1 1 / 4
  e10 : a10 = num bs 20 3
  e11 : a11 = num bs 23 4
  e12 : a12 = num bs 27 4
  e13 : l13 = sacksB bs (num bs 31 1).toNat
  e14 : l14 = bs.drop (32 + 8 * (num bs 31 1).toNat)
theorem read_yes (w0 w : World) (g : Nat) (bs : List Int) (h : RD w0 w g bs) (hlen : bs.length < 140737488355328) (hen : enough bs) {a0 a1 a4 a5 a6 a7 a8 a9 a10 a11 a12 : Int} {a2 a3 : Bool} {l13 : List S58} {l14 : List Int} (hseg : SegIs bs a0 a1 a2 a3 a4 a5 a6 a7 a8 a9 a10 a11 a12 l13 l14) :
    Calls Try.prog 43 #[.pointer (some ⟨g, 0, none⟩)] w fun e w' => ∃ A13 c13 A14 c14, e = .returned (.agg #[.int .i64 a0, .int .i64 a1, .bool a2, .bool a3, .int .u32 a4, .int .u32 a5, .int .u32 a6, .int .u32 a7, .int .i64 a8, .int .i64 a9, .int .u32 a10, .int .u32 a11, .int .u32 a12, .slice A13 l13.length c13, .slice A14 l14.length c14]) ∧ Aside0 (Kd.R k58 58 w' w.heap.size (fun _ => True) (.slice A13 l13.length c13) l13) ∧ Aside0 (Kd.R (Kd.int .u8) 5 w' w.heap.size (fun _ => True) (.slice A14 l14.length c14) l14) ∧ Aside0 (Below w0.heap.size w0 w') := by
  obtain ⟨rfl, rfl, rfl, rfl, rfl, rfl, rfl, rfl, rfl, rfl, rfl, rfl, rfl, rfl, rfl⟩ := hseg
  exact read_calls w0 w g bs h hlen _ (fun W hno _ => (hno hen).elim) (fun W A13 c13 A14 c14 hen h1 h2 h3 => ⟨A13, c13, A14, c14, rfl, ⟨h1⟩, ⟨h2⟩, ⟨h3⟩⟩)
def w2_ (w : World) : World := (w.alloc (.cells zeros 41)).alloc (.cells #[.bool false] 4)
theorem w2_size (w : World) : (w2_ w).heap.size = w.heap.size + 1 + 1 := by
  show ((w.heap.push _).push _).size = _
  rw [Array.size_push, Array.size_push]
theorem w2_below (w : World) : Below w.heap.size w (w2_ w) := below_alloc (below_alloc (Below.refl _ _) _) _
theorem w2_rec (w : World) : Rec (w2_ w) w.heap.size zeros := blk_alloc (blk_new w (.cells zeros 41)) _
theorem w2_ok (w : World) : (w2_ w).heap[w.heap.size + 1]? = some (.cells #[.bool false] 4 (0, 0)) := by
  have h := blk_new (w.alloc (.cells zeros 41)) (.cells #[.bool false] 4)
  rw [show (w.alloc (.cells zeros 41)).heap.size = w.heap.size + 1 from Array.size_push _] at h
  exact h
theorem RD.first {w : World} {A : Option Addr} {c : Nat} {bs : List Int} (hC : Kd.C (Kd.int .u8) w A bs.length bs) (hc : bs.length ≤ c) (hok : okB bs = true) :
    RD (w2_ w) ((w2_ w).alloc (.cells #[.slice A bs.length c] 67)) (w.heap.size + 1 + 1) bs := by
  have hb : ((w2_ w).alloc (.cells #[.slice A bs.length c] 67)).heap[w.heap.size + 1 + 1]? = some (.cells #[.slice A bs.length c] 67 (0, 0)) := by
    rw [← w2_size]; exact blk_new _ _
  refine ⟨A, c, hb, Kd.C_below hC (w2_below w), hc, ?_, by rw [w2_size]; exact Nat.le_refl _, hok⟩
  exact below_alloc (Below.refl _ _) _
theorem results_got {w : World} {tmps : Array Value} {hs ho : Nat} {cs : Array Value} {b : Value} (h2 : tmps.getD 2 undef = .pointer (some ⟨hs, 0, none⟩)) (h3 : tmps.getD 3 undef = .pointer (some ⟨ho, 0, none⟩)) (hr : Rec w hs cs) (hsz : cs.size = 15) (hok : w.heap[ho]? = some (.cells #[b] 4 (0, 0))) :
    (results Try.f40 tmps).run Try.prog w = .ok (.tuple #[.agg cs, b]) w := by
  have hp : tmps[2]?.getD undef = .pointer (some ⟨hs, 0, none⟩) := by simpa using h2
  have hq : tmps[3]?.getD undef = .pointer (some ⟨ho, 0, none⟩) := by simpa using h3
  have e0 : w.cell? ⟨ho, 0, none⟩ = some b := by rw [blk_cell hok]; rfl
  have hi : (Try.prog.info? 41).map (·.size) = some cs.size := by rw [hsz]; kernel_rfl
  have hb : (loadVar 4 ⟨ho, 0, none⟩).run Try.prog w = .ok b w := by simp [go_sem, e0]
  simp [results, Try.results40, hp, hq, asAddr, run_loadVar_row w hs 41 41 cs (0, 0) _ hr Try.underlying41 rfl hi, hb]
set_option maxHeartbeats 4000000 in
set_option maxRecDepth 100000 in
theorem got_no (A : Option Addr) (c : Nat) (bs : List Int) (w : World) (hC : Kd.C (Kd.int .u8) w A bs.length bs) (hc : bs.length ≤ c) (hok : okB bs = true) (hlen : bs.length < 140737488355328) (hno : ¬ enough bs) :
    Calls Try.prog 40 #[.slice A bs.length c] w fun e w' => e = .returned (.tuple #[.agg zeros, .bool false]) ∧ Below w.heap.size w w' := by
  have hmf : ∀ (fn : Fn) (first cap : Array Value) (w : World), (Instr.makeFunc fn first cap).run Try.prog w = .ok (.func fn first cap) w := fun _ _ _ _ => rfl
  have HRD : Aside0 (RD (w2_ w) (((w.alloc (.cells #[.int .i64 0, .int .i64 0, .bool false, .bool false, .int .u32 0, .int .u32 0, .int .u32 0, .int .u32 0, .int .i64 0, .int .i64 0, .int .u32 0, .int .u32 0, .int .u32 0, .slice none 0 0, .slice none 0 0] 41)).alloc (.cells #[.bool false] 4)).alloc (.cells #[.slice A bs.length c] 67)) (w.heap.size + 1 + 1) bs) := ⟨RD.first hC hc hok⟩
  have HNO := Aside0.mk hno
  clear hC hno hok
  go_enter_defers Try.func40, Try.ntmps40
  go_wp2_with (go_at_call 43; (with_reducible refine (read_no (w2_ w) _ _ bs HRD.out hlen HNO.out).mono ?_); rintro e w1 ⟨rfl, hb, _⟩)
  have hrec : Rec w1 w.heap.size zeros := (hb.out.block _ (by rw [w2_size]; omega)).trans (w2_rec w)
  have hokc : w1.heap[w.heap.size + 1]? = some (.cells #[.bool false] 4 (0, 0)) := (hb.out.block _ (by rw [w2_size]; omega)).trans (w2_ok w)
  refine leaves_cons (f := 42) (args := #[.pointer (some ⟨w.heap.size, 0, none⟩), .pointer (some ⟨w.heap.size + 1, 0, none⟩)]) (by simp) (by simp [go_sem]) ?_
  refine (catch_rec w.heap.size (w.heap.size + 1) w1 (by omega) hrec hokc).mono ?_
  rintro e u' w'' ⟨rfl, rfl, h1, h2, h3⟩
  have hres := results_got (w := w'') (tmps := #[.slice A bs.length c, undef, .pointer (some ⟨w.heap.size, 0, none⟩), .pointer (some ⟨w.heap.size + 1, 0, none⟩), .pointer (some ⟨w.heap.size + 1 + 1, 0, none⟩), .func (.func 42) #[] #[.pointer (some ⟨w.heap.size, 0, none⟩), .pointer (some ⟨w.heap.size + 1, 0, none⟩)], .slice A bs.length c, undef, undef, undef, undef]) rfl rfl h1.out rfl h2.out
  simp [Leaves, settle, hres]
  exact ((w2_below w).trans (hb.out.mono (w2_below w).size)).trans h3.out
set_option maxHeartbeats 4000000 in
set_option maxRecDepth 100000 in
theorem got_yes (A : Option Addr) (c : Nat) (bs : List Int) (w : World) (r : Bool) (hC : Kd.C (Kd.int .u8) w A bs.length bs) (hc : bs.length ≤ c) (hok : okB bs = true) (hlen : bs.length < 140737488355328) (hen : enough bs) (a0 : Int) (a1 : Int) (a2 : Bool) (a3 : Bool) (a4 : Int) (a5 : Int) (a6 : Int) (a7 : Int) (a8 : Int) (a9 : Int) (a10 : Int) (a11 : Int) (a12 : Int) (l13 : List S58) (l14 : List Int) (hseg : SegIs bs a0 a1 a2 a3 a4 a5 a6 a7 a8 a9 a10 a11 a12 l13 l14) (hmay : wire_May.f a0 a1 a2 a3 a4 a5 a6 a7 a8 a9 a10 a11 a12 l13 l14 = some r) :
    Calls Try.prog 40 #[.slice A bs.length c] w fun e w' => ∃ A13 c13 A14 c14, e = .returned (.tuple #[.agg #[.int .i64 a0, .int .i64 a1, .bool a2, .bool a3, .int .u32 a4, .int .u32 a5, .int .u32 a6, .int .u32 a7, .int .i64 a8, .int .i64 a9, .int .u32 a10, .int .u32 a11, .int .u32 a12, .slice A13 l13.length c13, .slice A14 l14.length c14], .bool r]) ∧ Kd.R k58 58 w' w.heap.size (fun _ => True) (.slice A13 l13.length c13) l13 ∧ Kd.R (Kd.int .u8) 5 w' w.heap.size (fun _ => True) (.slice A14 l14.length c14) l14 ∧ Below w.heap.size w w' := by
  have hmf : ∀ (fn : Fn) (first cap : Array Value) (w : World), (Instr.makeFunc fn first cap).run Try.prog w = .ok (.func fn first cap) w := fun _ _ _ _ => rfl
  have HRD : Aside0 (RD (w2_ w) (((w.alloc (.cells #[.int .i64 0, .int .i64 0, .bool false, .bool false, .int .u32 0, .int .u32 0, .int .u32 0, .int .u32 0, .int .i64 0, .int .i64 0, .int .u32 0, .int .u32 0, .int .u32 0, .slice none 0 0, .slice none 0 0] 41)).alloc (.cells #[.bool false] 4)).alloc (.cells #[.slice A bs.length c] 67)) (w.heap.size + 1 + 1) bs) := ⟨RD.first hC hc hok⟩
  have HEN := Aside0.mk hen
  have HM := Aside0.mk hmay
  have HSEG := Aside0.mk hseg
  clear hC hen hok hmay hseg
  go_enter_defers Try.func40, Try.ntmps40
  go_wp2_with (go_at_call 43; (with_reducible refine (read_yes (w2_ w) _ _ bs HRD.out hlen HEN.out HSEG.out).mono ?_); rintro e w1 ⟨A13, c13, A14, c14, rfl, hr13, hr14, hb⟩; have hrec := Aside0.mk (show Rec w1 w.heap.size zeros from (hb.out.block _ (by rw [w2_size]; omega)).trans (w2_rec w)); have hokc := Aside0.mk (show w1.heap[w.heap.size + 1]? = some (.cells #[.bool false] 4 (0, 0)) from (hb.out.block _ (by rw [w2_size]; omega)).trans (w2_ok w)); obtain ⟨v0, c_0⟩ := hrec.out.cell 0 (by decide); have f_0 := hrec.out.frozen 0; obtain ⟨v1, c_1⟩ := hrec.out.cell 1 (by decide); have f_1 := hrec.out.frozen 1; obtain ⟨v2, c_2⟩ := hrec.out.cell 2 (by decide); have f_2 := hrec.out.frozen 2; obtain ⟨v3, c_3⟩ := hrec.out.cell 3 (by decide); have f_3 := hrec.out.frozen 3; obtain ⟨v4, c_4⟩ := hrec.out.cell 4 (by decide); have f_4 := hrec.out.frozen 4; obtain ⟨v5, c_5⟩ := hrec.out.cell 5 (by decide); have f_5 := hrec.out.frozen 5; obtain ⟨v6, c_6⟩ := hrec.out.cell 6 (by decide); have f_6 := hrec.out.frozen 6; obtain ⟨v7, c_7⟩ := hrec.out.cell 7 (by decide); have f_7 := hrec.out.frozen 7; obtain ⟨v8, c_8⟩ := hrec.out.cell 8 (by decide); have f_8 := hrec.out.frozen 8; obtain ⟨v9, c_9⟩ := hrec.out.cell 9 (by decide); have f_9 := hrec.out.frozen 9; obtain ⟨v10, c_10⟩ := hrec.out.cell 10 (by decide); have f_10 := hrec.out.frozen 10; obtain ⟨v11, c_11⟩ := hrec.out.cell 11 (by decide); have f_11 := hrec.out.frozen 11; obtain ⟨v12, c_12⟩ := hrec.out.cell 12 (by decide); have f_12 := hrec.out.frozen 12; obtain ⟨v13, c_13⟩ := hrec.out.cell 13 (by decide); have f_13 := hrec.out.frozen 13; obtain ⟨v14, c_14⟩ := hrec.out.cell 14 (by decide); have f_14 := hrec.out.frozen 14)
  have h1 := fill15 (b0 := .int .i64 a0) (b1 := .int .i64 a1) (b2 := .bool a2) (b3 := .bool a3) (b4 := .int .u32 a4) (b5 := .int .u32 a5) (b6 := .int .u32 a6) (b7 := .int .u32 a7) (b8 := .int .i64 a8) (b9 := .int .i64 a9) (b10 := .int .u32 a10) (b11 := .int .u32 a11) (b12 := .int .u32 a12) (b13 := .slice A13 l13.length c13) (b14 := .slice A14 l14.length c14) hrec.out
  have h2 := fill15_but (W := w1) (h := w.heap.size) (b0 := .int .i64 a0) (b1 := .int .i64 a1) (b2 := .bool a2) (b3 := .bool a3) (b4 := .int .u32 a4) (b5 := .int .u32 a5) (b6 := .int .u32 a6) (b7 := .int .u32 a7) (b8 := .int .i64 a8) (b9 := .int .i64 a9) (b10 := .int .u32 a10) (b11 := .int .u32 a11) (b12 := .int .u32 a12) (b13 := .slice A13 l13.length c13) (b14 := .slice A14 l14.length c14)
  revert h1 h2
  generalize (World.setCell _ ⟨w.heap.size, 14, none⟩ (.slice A14 l14.length c14)) = W4
  intro h1 h2
  obtain ⟨g0, g1, g2, g3, g4, g5, g6, g7, g8, g9, g10, g11, g12, g13, g14⟩ := h1.all
  have hok4 := (h2.block (w.heap.size + 1) (by omega)).trans hokc.out
  have hsz3 : (((w.alloc (.cells #[.int .i64 0, .int .i64 0, .bool false, .bool false, .int .u32 0, .int .u32 0, .int .u32 0, .int .u32 0, .int .i64 0, .int .i64 0, .int .u32 0, .int .u32 0, .int .u32 0, .slice none 0 0, .slice none 0 0] 41)).alloc (.cells #[.bool false] 4)).alloc (.cells #[.slice A bs.length c] 67)).heap.size = w.heap.size + 1 + 1 + 1 := by
    show (((w.heap.push _).push _).push _).size = _
    simp only [Array.size_push]
  have hR13 := R_but hr13.out h2 (by rw [hsz3]; omega)
  have hR14 := R_but hr14.out h2 (by rw [hsz3]; omega)
  rw [hsz3] at hR13 hR14
  have hbW : Below w.heap.size w W4 := ((w2_below w).trans (hb.out.mono (w2_below w).size)).trans (h2.below (Nat.le_refl _))
  have hltW : w.heap.size + 1 < W4.heap.size := (Array.getElem?_eq_some_iff.1 hok4).1
  have hdr : Below W4.heap.size W4 W4.drew := below_drew (Below.refl _ _)
  have hmc := wire_May.calls a0 a1 a2 a3 a4 a5 a6 a7 a8 a9 a10 a11 a12 A13 c13 l13 A14 c14 l14 r W4.drew (Kd.C_below (Kd.R_reads' hR13).2.2 hdr) (Kd.R_reads' hR13).2.1 (Kd.C_below (Kd.R_reads' hR14).2.2 hdr) (Kd.R_reads' hR14).2.1 HM.out
  have H1 := Aside0.mk h1
  have HOK4 := Aside0.mk hok4
  have HR13 := Aside0.mk hR13
  have HR14 := Aside0.mk hR14
  have HBW := Aside0.mk hbW
  have HMC := Aside0.mk hmc
  clear hR13 hR14 hsz3 hok4 hmc hbW hr13 hr14 hb hrec hokc HM HSEG HEN HRD hdr h2 c_0 f_0 c_1 f_1 c_2 f_2 c_3 f_3 c_4 f_4 c_5 f_5 c_6 f_6 c_7 f_7 c_8 f_8 c_9 f_9 c_10 f_10 c_11 f_11 c_12 f_12 c_13 f_13 c_14 f_14
  have hfr := fun j => H1.out.frozen j
  go_region_with (go_at_call 28; (with_reducible refine HMC.out.mono ?_); rintro e w5 ⟨rfl, hb5⟩; have H5 := Aside0.mk (show Rec w5 w.heap.size _ from blk_below (blk_drew H1.out) hb5); have HOK5 := Aside0.mk (show w5.heap[w.heap.size + 1]? = _ from blk_below (blk_drew HOK4.out) hb5); obtain ⟨m0, m1, m2, m3, m4, m5, m6, m7, m8, m9, m10, m11, m12, m13, m14⟩ := H5.out.all; have hfr5 := fun j => H5.out.frozen j; have ho5 := (one_cell (j := 0) HOK5.out (by simp)).1; have hof5 := (one_cell (j := 0) HOK5.out (by simp)).2; have HB5 := Aside0.mk hb5; clear hb5)
  all_goals
    have h6 := fill15 (b0 := .int .i64 a0) (b1 := .int .i64 a1) (b2 := .bool a2) (b3 := .bool a3) (b4 := .int .u32 a4) (b5 := .int .u32 a5) (b6 := .int .u32 a6) (b7 := .int .u32 a7) (b8 := .int .i64 a8) (b9 := .int .i64 a9) (b10 := .int .u32 a10) (b11 := .int .u32 a11) (b12 := .int .u32 a12) (b13 := .slice A13 l13.length c13) (b14 := .slice A14 l14.length c14) H5.out
    have h6b := fill15_but (W := w5) (h := w.heap.size) (b0 := .int .i64 a0) (b1 := .int .i64 a1) (b2 := .bool a2) (b3 := .bool a3) (b4 := .int .u32 a4) (b5 := .int .u32 a5) (b6 := .int .u32 a6) (b7 := .int .u32 a7) (b8 := .int .i64 a8) (b9 := .int .i64 a9) (b10 := .int .u32 a10) (b11 := .int .u32 a11) (b12 := .int .u32 a12) (b13 := .slice A13 l13.length c13) (b14 := .slice A14 l14.length c14)
    revert h6 h6b
    generalize (World.setCell _ ⟨w.heap.size, 14, none⟩ (.slice A14 l14.length c14)) = W6
    intro h6 h6b
    have hok6 := (h6b.block (w.heap.size + 1) (by omega)).trans HOK5.out
    have hbx := But.setCell W6 (w.heap.size + 1) 0 (.bool r)
    have hokE := Aside0.mk (blk_put (cs := #[.bool false]) hok6 0 (.bool r) rfl)
    have hrecE := Aside0.mk ((hbx.block w.heap.size (by omega)).trans h6)
    have hbE := Aside0.mk (((below_drew (Below.refl W4.heap.size W4)).trans HB5.out).mono (Nat.le_refl _))
    have hb6 := Aside0.mk h6b
    have hb7 := Aside0.mk hbx
    clear h6 h6b hok6 hbx hfr hfr5 ho5 hof5 m0 m1 m2 m3 m4 m5 m6 m7 m8 m9 m10 m11 m12 m13 m14 g0 g1 g2 g3 g4 g5 g6 g7 g8 g9 g10 g11 g12 g13 g14
    go_wp2
    refine leaves_cons (f := 42) (args := #[.pointer (some ⟨w.heap.size, 0, none⟩), .pointer (some ⟨w.heap.size + 1, 0, none⟩)]) (by simp) (by simp [go_sem]) ?_
    refine (catch_idle w.heap.size (w.heap.size + 1) _).mono ?_
    rintro e u' w'' ⟨rfl, rfl, rfl⟩
    have hres := results_got (w := W6.setCell ⟨w.heap.size + 1, 0, none⟩ (.bool r)) (tmps := #[.slice A bs.length c, undef, .pointer (some ⟨w.heap.size, 0, none⟩), .pointer (some ⟨w.heap.size + 1, 0, none⟩), .pointer (some ⟨w.heap.size + 1 + 1, 0, none⟩), .func (.func 42) #[] #[.pointer (some ⟨w.heap.size, 0, none⟩), .pointer (some ⟨w.heap.size + 1, 0, none⟩)], .slice A bs.length c, .agg #[.int .i64 a0, .int .i64 a1, .bool a2, .bool a3, .int .u32 a4, .int .u32 a5, .int .u32 a6, .int .u32 a7, .int .i64 a8, .int .i64 a9, .int .u32 a10, .int .u32 a11, .int .u32 a12, .slice A13 l13.length c13, .slice A14 l14.length c14], .agg #[.int .i64 a0, .int .i64 a1, .bool a2, .bool a3, .int .u32 a4, .int .u32 a5, .int .u32 a6, .int .u32 a7, .int .i64 a8, .int .i64 a9, .int .u32 a10, .int .u32 a11, .int .u32 a12, .slice A13 l13.length c13, .slice A14 l14.length c14], .agg #[.int .i64 a0, .int .i64 a1, .bool a2, .bool a3, .int .u32 a4, .int .u32 a5, .int .u32 a6, .int .u32 a7, .int .i64 a8, .int .i64 a9, .int .u32 a10, .int .u32 a11, .int .u32 a12, .slice A13 l13.length c13, .slice A14 l14.length c14], .bool r]) rfl rfl hrecE.out rfl hokE.out
    have hR13 := R_but (R_but (Kd.R_below HR13.out hbE.out) hb6.out (by omega)) hb7.out (by omega)
    have hR14 := R_but (R_but (Kd.R_below HR14.out hbE.out) hb6.out (by omega)) hb7.out (by omega)
    have hBE := ((HBW.out.trans (hbE.out.mono HBW.out.size)).trans (hb6.out.below (Nat.le_refl _))).trans (hb7.out.below (by omega))
    simp [Leaves, settle, hres]
    exact ⟨A13, c13, A14, c14, ⟨⟨rfl, rfl⟩, rfl, rfl⟩, Kd.R_lower hR13 (by omega), Kd.R_lower hR14 (by omega), hBE⟩
end Go.Proofs.Ytbogmogimoleaaa.Given
