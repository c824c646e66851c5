/- The walk of wire.Put. -/
import Derived.Test.YtbogmogimoleaaaHPut
import Derived.Test.YtbogmogimoleaaaHGet
import Derived.Deep.QuietTactic
namespace Go.Proofs.Ytbogmogimoleaaa.Given
open Go.RowKit Go.Proofs.YtbogmogimoleaaaW.PrintWords Go.Proofs.YtbogmogimoleaaaW.PrintLast Go.Proofs.YtbogmogimoleaaaW.PrintMore Go.Proofs.Ytbogmogimoleaaa.W Go.Proofs.Ytbogmogimoleaaa.Plain7
set_option linter.unusedVariables false
set_option linter.unusedSimpArgs false
theorem k_bit {b : Bool} {n q : Int} (h : q = if b = true then n else 0) (w : World) : Calls Try.prog 37 #[.bool b, .int .u8 n] w fun e w' => e = .returned (.int .u8 q) ∧ ∃ m, w' = w.drewN m := by
  have hf : wire_bit.f b n = some q := by unfold wire_bit.f; rw [h]; cases b <;> rfl
  exact (wire_bit.calls b n _ w hf).mono fun e w' ⟨h1, h2⟩ => ⟨h1, h2.out⟩
theorem flags_eq {f e : Bool} {a q1 q2 : Int} (h1 : q1 = if f = true then 1 else 0) (h2 : q2 = if e = true then 2 else 0) (h0 : 0 ≤ a) (h7 : a ≤ 7) : bits BinOp.or IntKind.u8 (bits BinOp.or IntKind.u8 q1 q2) (a % 256 * 4 % 256) = q1 + q2 + 4 * a := by
  have h : a = 0 ∨ a = 1 ∨ a = 2 ∨ a = 3 ∨ a = 4 ∨ a = 5 ∨ a = 6 ∨ a = 7 := by omega
  cases f <;> cases e <;> simp at h1 h2 <;> subst h1 h2 <;> rcases h with rfl | rfl | rfl | rfl | rfl | rfl | rfl | rfl <;> rfl
/-- The two flags and the ace. -/
def flB (f e : Bool) (a : Int) : Int := (if f = true then 1 else 0) + (if e = true then 2 else 0) + 4 * a
def hdrP (s : Sg) : List (Nat × Int) := [(1, s.a0 * 16 + s.a1), (1, flB s.a2 s.a3 s.a9), (2, s.a8), (4, s.a4), (4, s.a5), (4, s.a6), (4, s.a7), (3, s.a10), (4, s.a11), (4, s.a12), (1, (s.l13.length : Int))]
def skB (l : List S58) : List Int := l.flatMap fun p => be 4 p.f0 ++ be 4 p.f1
theorem skB_step (l : List S58) (j : Nat) (hj : j < l.length) : skB (l.take (j + 1)) = skB (l.take j) ++ (be 4 l[j].f0 ++ be 4 l[j].f1) := by
  unfold skB
  rw [List.take_add_one, List.flatMap_append]
  simp [hj]
theorem skB_len (l : List S58) : (skB l).length = 8 * l.length := by
  induction l with
  | nil => rfl
  | cons p l ih =>
    unfold skB at ih ⊢
    rw [List.flatMap_cons, List.length_append, ih, List.length_append, be_len, be_len, List.length_cons]
    omega
/-- What Put puts, ahead of the sum. -/
def outB (s : Sg) : List Int := bes (hdrP s) ++ skB s.l13 ++ s.l14
def u32B (n : Int) : Prop := 0 ≤ n ∧ n < 4294967296
structure okS (s : Sg) : Prop where
  h4 : u32B s.a4
  h5 : u32B s.a5
  h6 : u32B s.a6
  h7 : u32B s.a7
  h10 : u32B s.a10
  h11 : u32B s.a11
  h12 : u32B s.a12
  h13 : ∀ p ∈ s.l13, u32B p.f0 ∧ u32B p.f1
  h14 : Byt s.l14
theorem be_byt (sz : Nat) (n : Int) : Byt (be sz n) := by
  intro c hc
  unfold be at hc
  rw [List.mem_map] at hc
  obtain ⟨j, _, rfl⟩ := hc
  have := Int.emod_nonneg (n / 2 ^ (8 * (sz - 1 - j))) (show (256 : Int) ≠ 0 by decide)
  have := Int.emod_lt_of_pos (n / 2 ^ (8 * (sz - 1 - j))) (show (0 : Int) < 256 by decide)
  omega
theorem bes_byt (ps : List (Nat × Int)) : Byt (bes ps) := by
  intro c hc
  unfold bes at hc
  rw [List.mem_flatMap] at hc
  obtain ⟨p, _, h⟩ := hc
  exact be_byt _ _ c h
theorem skB_byt (l : List S58) : Byt (skB l) := by
  intro c hc
  unfold skB at hc
  rw [List.mem_flatMap] at hc
  obtain ⟨p, _, h⟩ := hc
  exact byt_app (be_byt _ _) (be_byt _ _) c h
theorem outB_byt {s : Sg} (h : okS s) : Byt (outB s) := byt_app (byt_app (bes_byt _) (skB_byt _)) h.h14
theorem hdr_len (s : Sg) : (bes (hdrP s)).length = 32 := by simp [bes, hdrP, be_len]
theorem outB_len (s : Sg) : (outB s).length = 32 + 8 * s.l13.length + s.l14.length := by unfold outB; rw [List.length_append, List.length_append, hdr_len, skB_len]
theorem put_two (wr : World) (B : Nat) (u : Value) (xs : List Int) (f0 f1 : Int) (hR : Kd.R (Kd.int .u8) 5 wr B (fun _ => True) u xs) (hB : B ≤ wr.heap.size) (h0 : 0 ≤ f0) (h1 : f0 < 4294967296) (h2 : 0 ≤ f1) (h3 : f1 < 4294967296) (hl : xs.length < 1000000) :
    Calls Try.prog 38 #[u, .slice (some ⟨wr.heap.size + 1, 0, none⟩) 2 2] ((wr.alloc (.cells #[.int .u32 f0, .int .u32 f1] 58)).alloc (.cells #[.iface 31 (.int .u32 f0), .iface 31 (.int .u32 f1)] 20)) fun e w' => ∃ v, e = .returned v ∧ Aside0 (Kd.R (Kd.int .u8) 5 w' B (fun _ => True) v (xs ++ (be 4 f0 ++ be 4 f1))) ∧ Aside0 (Below B wr w') := by
  have hs1 : (wr.alloc (.cells #[.int .u32 f0, .int .u32 f1] 58)).heap.size = wr.heap.size + 1 := Array.size_push _
  have hb : Below wr.heap.size wr ((wr.alloc (.cells #[.int .u32 f0, .int .u32 f1] 58)).alloc (.cells #[.iface 31 (.int .u32 f0), .iface 31 (.int .u32 f1)] 20)) := below_alloc (below_alloc (Below.refl _ _) _) _
  have hP : Parts ((wr.alloc (.cells #[.int .u32 f0, .int .u32 f1] 58)).alloc (.cells #[.iface 31 (.int .u32 f0), .iface 31 (.int .u32 f1)] 20)) (wr.heap.size + 1) [(4, f0), (4, f1)] := by
    rw [← hs1]
    exact blk_new _ _
  refine (put_calls _ B (wr.heap.size + 1) u xs [(4, f0), (4, f1)] (Kd.R_below hR hb) hP ?_ (Nat.le_trans hB hb.size) (by simp; omega)).mono ?_
  · intro p hp
    simp only [List.mem_cons, List.not_mem_nil, or_false] at hp
    rcases hp with rfl | rfl
    · exact ⟨by simp, by simp, h0, h1⟩
    · exact ⟨by simp, by simp, h2, h3⟩
  · rintro e w' ⟨v, rfl, h4, h5⟩
    have h4' := h4.out
    rw [show bes [(4, f0), (4, f1)] = be 4 f0 ++ be 4 f1 by simp [bes]] at h4'
    exact ⟨v, rfl, ⟨h4'⟩, ⟨(hb.mono hB).trans h5.out⟩⟩
theorem may_parts {a0 : Int} {a1 : Int} {a2 : Bool} {a3 : Bool} {a4 : Int} {a5 : Int} {a6 : Int} {a7 : Int} {a8 : Int} {a9 : Int} {a10 : Int} {a11 : Int} {a12 : Int} {l13 : List S58} {l14 : List Int} (h : mayB ⟨a0, a1, a2, a3, a4, a5, a6, a7, a8, a9, a10, a11, a12, l13, l14⟩ = true) : 0 ≤ a0 ∧ a0 ≤ 4 ∧ 0 ≤ a1 ∧ a1 ≤ 3 ∧ 0 ≤ a8 ∧ a8 ≤ 65535 ∧ 0 ≤ a9 ∧ a9 ≤ 7 ∧ a10 < 16777216 ∧ (l13.length : Int) ≤ 3 ∧ (l14.length : Int) ≤ 1460 := by
  unfold mayB inB at h
  simp only [Bool.and_eq_true, decide_eq_true_eq] at h
  obtain ⟨⟨h0, h1⟩, ⟨h2, h3⟩, ⟨h4, h5⟩, ⟨h6, h7⟩, h8, h9, h10⟩ := h
  exact ⟨h0, h1, h2, h3, h4, h5, h6, h7, h8, h9, h10⟩
set_option maxHeartbeats 4000000 in
set_option maxRecDepth 100000 in
theorem sput_no (a0 : Int) (a1 : Int) (a2 : Bool) (a3 : Bool) (a4 : Int) (a5 : Int) (a6 : Int) (a7 : Int) (a8 : Int) (a9 : Int) (a10 : Int) (a11 : Int) (a12 : Int) (l13 : List S58) (l14 : List Int) (hm : mayB ⟨a0, a1, a2, a3, a4, a5, a6, a7, a8, a9, a10, a11, a12, l13, l14⟩ = false) (A13 : Option Addr) (c13 : Nat) (A14 : Option Addr) (c14 : Nat) (w : World) (h13 : Sk w A13 c13 l13) (h14 : By w A14 c14 l14) :
    Calls Try.prog 26 #[.agg #[.int .i64 a0, .int .i64 a1, .bool a2, .bool a3, .int .u32 a4, .int .u32 a5, .int .u32 a6, .int .u32 a7, .int .i64 a8, .int .i64 a9, .int .u32 a10, .int .u32 a11, .int .u32 a12, .slice A13 l13.length c13, .slice A14 l14.length c14]] w fun e w' => e = .returned (.tuple #[.slice none 0 0, .int .i64 1]) ∧ Below w.heap.size w w' := by
  have hal : Below w.heap.size w (w.alloc (.cells #[.int .i64 a0, .int .i64 a1, .bool a2, .bool a3, .int .u32 a4, .int .u32 a5, .int .u32 a6, .int .u32 a7, .int .i64 a8, .int .i64 a9, .int .u32 a10, .int .u32 a11, .int .u32 a12, .slice A13 l13.length c13, .slice A14 l14.length c14] 41)) := below_alloc (Below.refl _ _) _
  have HMC := Aside0.mk (k_may ⟨a0, a1, a2, a3, a4, a5, a6, a7, a8, a9, a10, a11, a12, l13, l14⟩ (h13.later hal) (h14.later hal))
  have hrec : Rec (w.alloc (.cells #[.int .i64 a0, .int .i64 a1, .bool a2, .bool a3, .int .u32 a4, .int .u32 a5, .int .u32 a6, .int .u32 a7, .int .i64 a8, .int .i64 a9, .int .u32 a10, .int .u32 a11, .int .u32 a12, .slice A13 l13.length c13, .slice A14 l14.length c14] 41)) w.heap.size #[.int .i64 a0, .int .i64 a1, .bool a2, .bool a3, .int .u32 a4, .int .u32 a5, .int .u32 a6, .int .u32 a7, .int .i64 a8, .int .i64 a9, .int .u32 a10, .int .u32 a11, .int .u32 a12, .slice A13 l13.length c13, .slice A14 l14.length c14] := blk_new _ _
  obtain ⟨z0, z1, z2, z3, z4, z5, z6, z7, z8, z9, z10, z11, z12, z13, z14⟩ := hrec.all
  clear h13 h14 hrec
  go_enter Try.func26, Try.ntmps26
  go_wp2_with (go_at_call 28; (with_reducible refine HMC.out.mono ?_); rintro e w1 ⟨rfl, hb⟩)
  refine bodyPost_ret (results_list (rs := [.tmp 2, .tmp 3]) rfl (by simp) (.tmp (.tmp .nil))) rfl ?_
  exact ⟨rfl, hal.trans (hb.out.mono hal.size)⟩
set_option maxHeartbeats 8000000 in
set_option maxRecDepth 100000 in
theorem sput_yes (a0 : Int) (a1 : Int) (a2 : Bool) (a3 : Bool) (a4 : Int) (a5 : Int) (a6 : Int) (a7 : Int) (a8 : Int) (a9 : Int) (a10 : Int) (a11 : Int) (a12 : Int) (l13 : List S58) (l14 : List Int) (hm : mayB ⟨a0, a1, a2, a3, a4, a5, a6, a7, a8, a9, a10, a11, a12, l13, l14⟩ = true) (ho : okS ⟨a0, a1, a2, a3, a4, a5, a6, a7, a8, a9, a10, a11, a12, l13, l14⟩) (A13 : Option Addr) (c13 : Nat) (A14 : Option Addr) (c14 : Nat) (w : World) (h13 : Sk w A13 c13 l13) (h14 : By w A14 c14 l14) :
    Calls Try.prog 26 #[.agg #[.int .i64 a0, .int .i64 a1, .bool a2, .bool a3, .int .u32 a4, .int .u32 a5, .int .u32 a6, .int .u32 a7, .int .i64 a8, .int .i64 a9, .int .u32 a10, .int .u32 a11, .int .u32 a12, .slice A13 l13.length c13, .slice A14 l14.length c14]] w fun e w' => ∃ (A : Option Addr) (c : Nat), e = .returned (.tuple #[.slice A (seald (outB ⟨a0, a1, a2, a3, a4, a5, a6, a7, a8, a9, a10, a11, a12, l13, l14⟩)).length c, .int .i64 0]) ∧ By w' A c (seald (outB ⟨a0, a1, a2, a3, a4, a5, a6, a7, a8, a9, a10, a11, a12, l13, l14⟩)) ∧ Below w.heap.size w w' := by
  have hal : Below w.heap.size w (w.alloc (.cells #[.int .i64 a0, .int .i64 a1, .bool a2, .bool a3, .int .u32 a4, .int .u32 a5, .int .u32 a6, .int .u32 a7, .int .i64 a8, .int .i64 a9, .int .u32 a10, .int .u32 a11, .int .u32 a12, .slice A13 l13.length c13, .slice A14 l14.length c14] 41)) := below_alloc (Below.refl _ _) _
  have HMC := Aside0.mk (k_may ⟨a0, a1, a2, a3, a4, a5, a6, a7, a8, a9, a10, a11, a12, l13, l14⟩ (h13.later hal) (h14.later hal))
  have hrec : Rec (w.alloc (.cells #[.int .i64 a0, .int .i64 a1, .bool a2, .bool a3, .int .u32 a4, .int .u32 a5, .int .u32 a6, .int .u32 a7, .int .i64 a8, .int .i64 a9, .int .u32 a10, .int .u32 a11, .int .u32 a12, .slice A13 l13.length c13, .slice A14 l14.length c14] 41)) w.heap.size #[.int .i64 a0, .int .i64 a1, .bool a2, .bool a3, .int .u32 a4, .int .u32 a5, .int .u32 a6, .int .u32 a7, .int .i64 a8, .int .i64 a9, .int .u32 a10, .int .u32 a11, .int .u32 a12, .slice A13 l13.length c13, .slice A14 l14.length c14] := blk_new _ _
  obtain ⟨z0, z1, z2, z3, z4, z5, z6, z7, z8, z9, z10, z11, z12, z13, z14⟩ := hrec.all
  have HREC := Aside0.mk hrec
  clear hrec
  go_enter Try.func26, Try.ntmps26
  go_wp2_with (go_at_call 28; (with_reducible refine HMC.out.mono ?_); rintro e w1 ⟨rfl, hb1⟩)
  have HREC := Aside0.mk (show Rec w1 w.heap.size _ from blk_below HREC.out hb1.out)
  obtain ⟨y0, y1, y2, y3, y4, y5, y6, y7, y8, y9, y10, y11, y12, y13, y14⟩ := HREC.out.all
  obtain ⟨q1, hq1⟩ : ∃ q : Int, q = if a2 = true then 1 else 0 := ⟨_, rfl⟩
  obtain ⟨q2, hq2⟩ : ∃ q : Int, q = if a3 = true then 2 else 0 := ⟨_, rfl⟩
  have HQ1 := Aside0.mk hq1
  have HQ2 := Aside0.mk hq2
  clear hq1 hq2
  go_quiet (first
    | (go_at_call 37; exact Calls.quiet_of (k_bit HQ1.out _))
    | (go_at_call 37; exact Calls.quiet_of (k_bit HQ2.out _)))
  obtain ⟨m0, m1, m2, m3, m4, m5, m6, m7, m8, m9, m10⟩ := may_parts hm
  have hfl := flags_eq HQ1.out HQ2.out m6 m7
  generalize bits BinOp.or IntKind.u8 (bits BinOp.or IntKind.u8 q1 q2) (a9 % 256 * 4 % 256) = fl at *
  have HFL := Aside0.mk hfl
  have HREC2 := Aside0.mk (show Rec (w1.drewN nq) w.heap.size _ from blk_drewN HREC.out nq)
  have hB2 : Below w.heap.size w (w1.drewN nq) := pw_below_drewN (hal.trans (hb1.out.mono hal.size)) nq
  have HB2 := Aside0.mk hB2
  have hlt : w.heap.size < (w1.drewN nq).heap.size := (Array.getElem?_eq_some_iff.1 HREC2.out).1
  generalize w1.drewN nq = W2 at *
  obtain ⟨x0, x1, x2, x3, x4, x5, x6, x7, x8, x9, x10, x11, x12, x13, x14⟩ := HREC2.out.all
  clear hfl HREC hB2 y0 y1 y2 y3 y4 y5 y6 y7 y8 y9 y10 y11 y12 y13 y14
  have hfb : fl = flB a2 a3 a9 := by rw [HFL.out, HQ1.out, HQ2.out]; rfl
  have hfl0 : 0 ≤ fl ∧ fl < 4294967296 := by
    rw [hfb]; unfold flB
    cases a2 <;> cases a3 <;> simp <;> omega
  have HPUT : Aside0 (Calls Try.prog 38 #[.slice none 0 0, .slice (some ⟨W2.heap.size, 0, none⟩) 11 11] (W2.alloc (.cells #[.iface 5 (.int .u8 (a0 * 16 + a1)), .iface 5 (.int .u8 fl), .iface 55 (.int .u16 a8), .iface 31 (.int .u32 a4), .iface 31 (.int .u32 a5), .iface 31 (.int .u32 a6), .iface 31 (.int .u32 a7), .iface 56 (.int .u32 a10), .iface 31 (.int .u32 a11), .iface 31 (.int .u32 a12), .iface 5 (.int .u8 (l13.length : Int))] 20)) fun e w' => ∃ v, e = .returned v ∧ Aside0 (Kd.R (Kd.int .u8) 5 w' W2.heap.size (fun _ => True) v (bes (hdrP ⟨a0, a1, a2, a3, a4, a5, a6, a7, a8, a9, a10, a11, a12, l13, l14⟩))) ∧ Aside0 (Below W2.heap.size (W2.alloc (.cells #[.iface 5 (.int .u8 (a0 * 16 + a1)), .iface 5 (.int .u8 fl), .iface 55 (.int .u16 a8), .iface 31 (.int .u32 a4), .iface 31 (.int .u32 a5), .iface 31 (.int .u32 a6), .iface 31 (.int .u32 a7), .iface 56 (.int .u32 a10), .iface 31 (.int .u32 a11), .iface 31 (.int .u32 a12), .iface 5 (.int .u8 (l13.length : Int))] 20)) w')) := ⟨by
    refine put_calls (W2.alloc (.cells #[.iface 5 (.int .u8 (a0 * 16 + a1)), .iface 5 (.int .u8 fl), .iface 55 (.int .u16 a8), .iface 31 (.int .u32 a4), .iface 31 (.int .u32 a5), .iface 31 (.int .u32 a6), .iface 31 (.int .u32 a7), .iface 56 (.int .u32 a10), .iface 31 (.int .u32 a11), .iface 31 (.int .u32 a12), .iface 5 (.int .u8 (l13.length : Int))] 20)) W2.heap.size W2.heap.size (.slice none 0 0) [] (hdrP ⟨a0, a1, a2, a3, a4, a5, a6, a7, a8, a9, a10, a11, a12, l13, l14⟩) (Kd.R_nil _ _ _ _ _) ?_ ?_ ?_ (by simp [hdrP])
    · have hn := blk_new W2 (.cells #[.iface 5 (.int .u8 (a0 * 16 + a1)), .iface 5 (.int .u8 fl), .iface 55 (.int .u16 a8), .iface 31 (.int .u32 a4), .iface 31 (.int .u32 a5), .iface 31 (.int .u32 a6), .iface 31 (.int .u32 a7), .iface 56 (.int .u32 a10), .iface 31 (.int .u32 a11), .iface 31 (.int .u32 a12), .iface 5 (.int .u8 (l13.length : Int))] 20)
      unfold Parts hdrP
      simp only
      rw [← hfb]
      exact hn
    · intro p hp
      obtain ⟨h4, h5, h6, h7, h10, h11, h12, h13, h14⟩ := ho
      unfold u32B at h4 h5 h6 h7 h10 h11 h12
      simp only at h4 h5 h6 h7 h10 h11 h12
      unfold hdrP at hp
      simp only [List.mem_cons, List.not_mem_nil, or_false] at hp
      unfold okP
      rcases hp with rfl | rfl | rfl | rfl | rfl | rfl | rfl | rfl | rfl | rfl | rfl <;> refine ⟨by simp, by simp, ?_, ?_⟩ <;> (simp only; first | omega | (rw [← hfb]; omega))
    · rw [show (W2.alloc (.cells #[.iface 5 (.int .u8 (a0 * 16 + a1)), .iface 5 (.int .u8 fl), .iface 55 (.int .u16 a8), .iface 31 (.int .u32 a4), .iface 31 (.int .u32 a5), .iface 31 (.int .u32 a6), .iface 31 (.int .u32 a7), .iface 56 (.int .u32 a10), .iface 31 (.int .u32 a11), .iface 31 (.int .u32 a12), .iface 5 (.int .u8 (l13.length : Int))] 20)).heap.size = W2.heap.size + 1 from Array.size_push _]; omega⟩
  clear hfb hfl0
  have HO := Aside0.mk ho
  have H13 := Aside0.mk h13
  have H14 := Aside0.mk h14
  clear ho h13 h14
  go_wp2_with (go_at_call 38; (with_reducible refine HPUT.out.mono ?_); rintro e w3 ⟨v, rfl, hr, hb⟩; have HB3 := Aside0.mk ((below_alloc HB2.out (.cells #[.iface 5 (.int .u8 (a0 * 16 + a1)), .iface 5 (.int .u8 fl), .iface 55 (.int .u16 a8), .iface 31 (.int .u32 a4), .iface 31 (.int .u32 a5), .iface 31 (.int .u32 a6), .iface 31 (.int .u32 a7), .iface 56 (.int .u32 a10), .iface 31 (.int .u32 a11), .iface 31 (.int .u32 a12), .iface 5 (.int .u8 (l13.length : Int))] 20)).trans (hb.out.mono HB2.out.size)); have HREC3 := Aside0.mk (show Rec w3 w.heap.size _ from (hb.out.block _ hlt).trans (blk_alloc HREC2.out _)); obtain ⟨y0, y1, y2, y3, y4, y5, y6, y7, y8, y9, y10, y11, y12, y13, y14⟩ := HREC3.out.all)
  have hsz3 : W2.heap.size ≤ w3.heap.size := Nat.le_trans (Nat.le_of_lt (by rw [show (W2.alloc (.cells #[.iface 5 (.int .u8 (a0 * 16 + a1)), .iface 5 (.int .u8 fl), .iface 55 (.int .u16 a8), .iface 31 (.int .u32 a4), .iface 31 (.int .u32 a5), .iface 31 (.int .u32 a6), .iface 31 (.int .u32 a7), .iface 56 (.int .u32 a10), .iface 31 (.int .u32 a11), .iface 31 (.int .u32 a12), .iface 5 (.int .u8 (l13.length : Int))] 20)).heap.size = W2.heap.size + 1 from Array.size_push _]; omega)) hb.out.size
  have HR3 := Aside0.mk hr.out
  have HZ3 := Aside0.mk hsz3
  clear hr hb hsz3 HPUT
  obtain ⟨hd, hhd⟩ : ∃ hd, hd = bes (hdrP ⟨a0, a1, a2, a3, a4, a5, a6, a7, a8, a9, a10, a11, a12, l13, l14⟩) := ⟨_, rfl⟩
  rw [← hhd] at HR3
  have hhl : hd.length = 32 := by rw [hhd, hdr_len]
  have HHD := Aside0.mk hhd
  have HHL := Aside0.mk hhl
  clear hhd hhl
  go_loopw [5, 68] (fun v5 v68 wr => ∃ j : Nat, j ≤ l13.length ∧ v68 = .int .i64 j ∧ Aside0 (Kd.R (Kd.int .u8) 5 wr W2.heap.size (fun _ => True) v5 (hd ++ skB (l13.take j))) ∧ Aside0 (Rec wr w.heap.size #[.int .i64 a0, .int .i64 a1, .bool a2, .bool a3, .int .u32 a4, .int .u32 a5, .int .u32 a6, .int .u32 a7, .int .i64 a8, .int .i64 a9, .int .u32 a10, .int .u32 a11, .int .u32 a12, .slice A13 l13.length c13, .slice A14 l14.length c14]) ∧ Aside0 (Below w.heap.size w wr) ∧ Aside0 (W2.heap.size ≤ wr.heap.size)) (fun _ v68 _ => l13.length - (intOf v68).toNat)
  case atStart => exact ⟨0, Nat.zero_le _, rfl, ⟨by simpa [skB] using HR3.out⟩, HREC3, HB3, HZ3⟩
  case round =>
    clear HR3 HREC3 HB3 HZ3 y0 y1 y2 y3 y4 y5 y6 y7 y8 y9 y10 y11 y12 y13 y14
    obtain ⟨j, hj, rfl, HRJ, HREJ, HBJ, HZJ⟩ := hrel
    by_cases hjt : j < l13.length
    · obtain ⟨ad, e13, hx0, hx1⟩ := at_T58 H13.out.1 (j : Int) (by omega) (by omega)
      cases e13
      replace hx0 := (HBJ.out.cell (World.block_lt_of_cell? w _ hx0)).trans hx0
      replace hx1 := (HBJ.out.cell (World.block_lt_of_cell? w _ hx1)).trans hx1
      rw [Int.toNat_natCast] at hx0 hx1
      have hrd : rd_T58 l13 (j : Int) = l13[j] := by unfold rd_T58; simp [List.getD_eq_getElem?_getD, hjt]
      rw [hrd] at hx0 hx1
      have hpo := HO.out.h13 l13[j] (List.getElem_mem hjt)
      obtain ⟨⟨f0, f1⟩, hp⟩ : ∃ p, p = l13[j] := ⟨_, rfl⟩
      rw [← hp] at hx0 hx1 hpo
      have HPI := Aside0.mk hp
      clear hp hrd
      simp only at hpo
      obtain ⟨⟨p0, p1⟩, ⟨p2, p3⟩⟩ := hpo

      have hxl : (hd ++ skB (l13.take j)).length < 1000000 := by
        rw [List.length_append, skB_len, List.length_take, HHL.out]; omega
      have HPT := Aside0.mk (put_two wr W2.heap.size u5 _ f0 f1 HRJ.out HZJ.out p0 p1 p2 p3 hxl)
      clear hxl
      go_wp2_with (go_at_call 38; (with_reducible refine HPT.out.mono ?_); rintro e w4 ⟨v, rfl, hr, hb⟩)
      have hr2 := hr.out
      rw [List.append_assoc, show be 4 f0 ++ be 4 f1 = be 4 l13[j].f0 ++ be 4 l13[j].f1 by rw [← HPI.out], ← skB_step l13 j hjt] at hr2
      exact ⟨⟨j + 1, by omega, rfl, ⟨hr2⟩, ⟨(hb.out.block _ hlt).trans HREJ.out⟩, ⟨HBJ.out.trans (hb.out.mono HB2.out.size)⟩, ⟨Nat.le_trans HZJ.out hb.out.size⟩⟩, by simp [intOf]; omega⟩
    · obtain rfl : j = l13.length := by omega
      rw [List.take_length] at HRJ
      obtain ⟨z0, z1, z2, z3, z4, z5, z6, z7, z8, z9, z10, z11, z12, z13, z14⟩ := HREJ.out.all
      have hseal := fun (W : World) (A : Option Addr) (c : Nat) (h : By W A c (outB ⟨a0, a1, a2, a3, a4, a5, a6, a7, a8, a9, a10, a11, a12, l13, l14⟩)) => k_seal (outB_byt HO.out) (by rw [outB_len]; simp only; omega) h
      have HSE := Aside0.mk hseal
      have HOE := Aside0.mk (show hd ++ skB l13 ++ l14 = outB ⟨a0, a1, a2, a3, a4, a5, a6, a7, a8, a9, a10, a11, a12, l13, l14⟩ by rw [HHD.out]; rfl)
      clear hseal
      obtain ⟨ob, hob⟩ : ∃ ob, ob = outB ⟨a0, a1, a2, a3, a4, a5, a6, a7, a8, a9, a10, a11, a12, l13, l14⟩ := ⟨_, rfl⟩
      rw [← hob] at HSE HOE
      have HOB := Aside0.mk hob
      clear hob
      go_wp2_with (first
        | ((with_reducible refine gate_builtin (b := .append) (xs := #[.tmp 82, .tmp 84]) rfl ?_); at_builtin; refine Kd.R_append_rows (Kd.int .u8) (w0 := wr) W2.heap.size rfl (.tmp 82) (.tmp 84) 23 5 (.int .u8 0) 1 rfl Try.underlying23 info5 rfl (by decide) (by omega) _ (hd ++ skB l13) l14 _ _ _ (fun _ => True) (fun _ => False) rfl rfl HRJ.out (Kd.C_below H14.out.1 HBJ.out) (fun _ _ h => h) (fun _ h => h.elim) (fun _ _ => trivial) (Below.refl _ _) HZJ.out (by rw [List.length_append, skB_len, HHL.out]; omega) ?_; intro v1 w5 hr1 hb5 hg1 hat1; obtain ⟨A1, c1, rfl⟩ := Kd.R_slice hr1; rw [HOE.out] at hr1; rw [HOE.out]; have HR1 := Aside0.mk hr1; have HB5 := Aside0.mk hb5; clear hr1 hb5 hg1 hat1)
        | (go_at_call 19; (with_reducible refine (HSE.out _ _ _ (By.of HR1.out)).mono ?_); rintro e w6 ⟨A6, c6, rfl, hb6, hbl6⟩))
      go_ret2
      rw [← HOB.out]
      exact ⟨A6, c6, rfl, hb6.out, (HBJ.out.trans (HB5.out.mono HB2.out.size)).trans (hbl6.out.mono (Nat.le_trans HBJ.out.size HB5.out.size))⟩
end Go.Proofs.Ytbogmogimoleaaa.Given
