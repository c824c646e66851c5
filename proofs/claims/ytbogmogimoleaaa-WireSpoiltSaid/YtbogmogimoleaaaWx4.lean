/- What the program's functions compute, as plain functions, and that they do: walks laid by a program of the session's. -/
import Derived.Test.YtbogmogimoleaaaWx0
import Derived.Test.YtbogmogimoleaaaWx3
namespace Go.Proofs.Ytbogmogimoleaaa.W
open Go.RowKit Go.Proofs.YtbogmogimoleaaaW.PrintWords Go.Proofs.YtbogmogimoleaaaW.PrintLast Go.Proofs.YtbogmogimoleaaaW.PrintMore
open Go.Proofs.Ytbogmogimoleaaa.Given
attribute [local go_sem] max2_int min2_int max_two min_two max_three min_three max_four min_four   -- for this text's walks alone
set_option linter.unusedVariables false
set_option linter.unusedSimpArgs false

/-! ### fourinhandref07_Put: function 27 -/
mutual
def fourinhandref07_Put.j0 : Nat → Int → Int → Int → Bool → Bool → Int → Int → Int → Int → Int → Int → Int → Int → Int → List (S58) → List Int → Option (List Int × Int)
  | 0, _, _, _, _, _, _, _, _, _, _, _, _, _, _, _, _ => none
  | k + 1, x5, x166000, x166001, x166002, x166003, x166004, x166005, x166006, x166007, x166008, x166009, x166010, x166011, x166012, x166013, x166014 => if x166003 = true then (fourinhandref07_Put.j1 k (wrap64 (x5 + 2)) x166000 x166001 x166002 x166003 x166004 x166005 x166006 x166007 x166008 x166009 x166010 x166011 x166012 x166013 x166014) else (fourinhandref07_Put.j1 k x5 x166000 x166001 x166002 x166003 x166004 x166005 x166006 x166007 x166008 x166009 x166010 x166011 x166012 x166013 x166014)
def fourinhandref07_Put.j1 : Nat → Int → Int → Int → Bool → Bool → Int → Int → Int → Int → Int → Int → Int → Int → Int → List (S58) → List Int → Option (List Int × Int)
  | 0, _, _, _, _, _, _, _, _, _, _, _, _, _, _, _, _ => none
  | k + 1, x5, x166000, x166001, x166002, x166003, x166004, x166005, x166006, x166007, x166008, x166009, x166010, x166011, x166012, x166013, x166014 => fourinhandref07_Put.l0 k (([(wrap64 ((wrap64 (16 * x166000)) + x166001)) % 256, (x5) % 256, (wrap64 (Int.tdiv x166008 256)) % 256, (Int.tmod x166008 256) % 256] : List Int)) (([x166004, x166005, x166006, x166007] : List Int)) 0 x166000 x166001 x166002 x166003 x166004 x166005 x166006 x166007 x166008 x166009 x166010 x166011 x166012 x166013 x166014
def fourinhandref07_Put.l0 : Nat → List Int → List Int → Int → Int → Int → Bool → Bool → Int → Int → Int → Int → Int → Int → Int → Int → Int → List (S58) → List Int → Option (List Int × Int)
  | 0, _, _, _, _, _, _, _, _, _, _, _, _, _, _, _, _, _, _ => none
  | k + 1, x6, x7, x8, x166000, x166001, x166002, x166003, x166004, x166005, x166006, x166007, x166008, x166009, x166010, x166011, x166012, x166013, x166014 => if x8 < 4 then (if 0 ≤ x8 then (if x8 < (x7.length : Int) then ((fourinhandref03_Four.f (wrap64 (rd x7 x8))).bind fun t174 => (if x6.length + t174.length < 140737488355328 then (fourinhandref07_Put.l0 k (x6 ++ t174) x7 (wrap64 (x8 + 1)) x166000 x166001 x166002 x166003 x166004 x166005 x166006 x166007 x166008 x166009 x166010 x166011 x166012 x166013 x166014) else (none))) else (none)) else (none)) else ((fourinhandref03_Four.f (wrap64 (x166010))).bind fun t180 => (if 1 ≤ (t180.length : Int) then ((some (t180.drop 1 : List Int)).bind fun y183 => (if x6.length + y183.length < 140737488355328 then ((some (x6 ++ y183 : List Int)).bind fun y187 => ((fourinhandref03_Four.f (wrap64 (x166011))).bind fun t190 => (if y187.length + t190.length < 140737488355328 then ((some (y187 ++ t190 : List Int)).bind fun y193 => ((fourinhandref03_Four.f (wrap64 (x166012))).bind fun t196 => (if y193.length + t196.length < 140737488355328 then ((some (y193 ++ t196 : List Int)).bind fun y199 => (if y199.length < 140737488355328 then (fourinhandref07_Put.l1 k (y199 ++ [((x166013.length : Int)) % 256]) 0 x166000 x166001 x166002 x166003 x166004 x166005 x166006 x166007 x166008 x166009 x166010 x166011 x166012 x166013 x166014) else (none))) else (none)))) else (none)))) else (none))) else (none)))
def fourinhandref07_Put.l1 : Nat → List Int → Int → Int → Int → Bool → Bool → Int → Int → Int → Int → Int → Int → Int → Int → Int → List (S58) → List Int → Option (List Int × Int)
  | 0, _, _, _, _, _, _, _, _, _, _, _, _, _, _, _, _, _ => none
  | k + 1, x6, x9, x166000, x166001, x166002, x166003, x166004, x166005, x166006, x166007, x166008, x166009, x166010, x166011, x166012, x166013, x166014 => if x9 < (x166013.length : Int) then (if 0 ≤ x9 then ((fourinhandref03_Four.f (wrap64 ((rd_T58 x166013 x9).f0))).bind fun t206 => (if x6.length + t206.length < 140737488355328 then ((some (x6 ++ t206 : List Int)).bind fun y209 => ((fourinhandref03_Four.f (wrap64 ((rd_T58 x166013 x9).f1))).bind fun t213 => (if y209.length + t213.length < 140737488355328 then (fourinhandref07_Put.l1 k (y209 ++ t213) (wrap64 (x9 + 1)) x166000 x166001 x166002 x166003 x166004 x166005 x166006 x166007 x166008 x166009 x166010 x166011 x166012 x166013 x166014) else (none)))) else (none))) else (none)) else (if x6.length + x166014.length < 140737488355328 then ((fourinhandref03_Seal.f k (x6 ++ x166014)).bind fun t222 => (some (t222, 0))) else (none))
end
def fourinhandref07_Put.f (k : Nat) (a0_0 : Int) (a0_1 : Int) (a0_2 : Bool) (a0_3 : Bool) (a0_4 : Int) (a0_5 : Int) (a0_6 : Int) (a0_7 : Int) (a0_8 : Int) (a0_9 : Int) (a0_10 : Int) (a0_11 : Int) (a0_12 : Int) (l0_13 : List (S58)) (l0_14 : List Int) : Option (List Int × Int) := (fourinhandref07_May.f a0_0 a0_1 a0_2 a0_3 a0_4 a0_5 a0_6 a0_7 a0_8 a0_9 a0_10 a0_11 a0_12 l0_13 l0_14).bind fun t166 => (if t166 = true then (if a0_2 = true then (fourinhandref07_Put.j0 k (wrap64 ((wrap64 (4 * a0_9)) + 1)) a0_0 a0_1 a0_2 a0_3 a0_4 a0_5 a0_6 a0_7 a0_8 a0_9 a0_10 a0_11 a0_12 l0_13 l0_14) else (fourinhandref07_Put.j0 k (wrap64 (4 * a0_9)) a0_0 a0_1 a0_2 a0_3 a0_4 a0_5 a0_6 a0_7 a0_8 a0_9 a0_10 a0_11 a0_12 l0_13 l0_14)) else (some (([] : List Int), 1)))
theorem fourinhandref07_Put.mono_l : ∀ k, (∀ y0 y1 y2 y3 y4 y5 y6 y7 y8 y9 y10 y11 y12 y13 y14 y15, LeO (fourinhandref07_Put.j0 k y0 y1 y2 y3 y4 y5 y6 y7 y8 y9 y10 y11 y12 y13 y14 y15) (fourinhandref07_Put.j0 (k + 1) y0 y1 y2 y3 y4 y5 y6 y7 y8 y9 y10 y11 y12 y13 y14 y15)) ∧ (∀ y0 y1 y2 y3 y4 y5 y6 y7 y8 y9 y10 y11 y12 y13 y14 y15, LeO (fourinhandref07_Put.j1 k y0 y1 y2 y3 y4 y5 y6 y7 y8 y9 y10 y11 y12 y13 y14 y15) (fourinhandref07_Put.j1 (k + 1) y0 y1 y2 y3 y4 y5 y6 y7 y8 y9 y10 y11 y12 y13 y14 y15)) ∧ (∀ y0 y1 y2 y3 y4 y5 y6 y7 y8 y9 y10 y11 y12 y13 y14 y15 y16 y17, LeO (fourinhandref07_Put.l0 k y0 y1 y2 y3 y4 y5 y6 y7 y8 y9 y10 y11 y12 y13 y14 y15 y16 y17) (fourinhandref07_Put.l0 (k + 1) y0 y1 y2 y3 y4 y5 y6 y7 y8 y9 y10 y11 y12 y13 y14 y15 y16 y17)) ∧ (∀ y0 y1 y2 y3 y4 y5 y6 y7 y8 y9 y10 y11 y12 y13 y14 y15 y16, LeO (fourinhandref07_Put.l1 k y0 y1 y2 y3 y4 y5 y6 y7 y8 y9 y10 y11 y12 y13 y14 y15 y16) (fourinhandref07_Put.l1 (k + 1) y0 y1 y2 y3 y4 y5 y6 y7 y8 y9 y10 y11 y12 y13 y14 y15 y16))
  | 0 => ⟨fun _ _ _ _ _ _ _ _ _ _ _ _ _ _ _ _ r h => by simp [fourinhandref07_Put.j0] at h, fun _ _ _ _ _ _ _ _ _ _ _ _ _ _ _ _ r h => by simp [fourinhandref07_Put.j1] at h, fun _ _ _ _ _ _ _ _ _ _ _ _ _ _ _ _ _ _ r h => by simp [fourinhandref07_Put.l0] at h, fun _ _ _ _ _ _ _ _ _ _ _ _ _ _ _ _ _ r h => by simp [fourinhandref07_Put.l1] at h⟩
  | k + 1 => by
    obtain ⟨ih0, ih1, ih2, ih3⟩ := fourinhandref07_Put.mono_l k
    refine ⟨?_, ?_, ?_, ?_⟩
    · intro y0 y1 y2 y3 y4 y5 y6 y7 y8 y9 y10 y11 y12 y13 y14 y15
      unfold fourinhandref07_Put.j0
      repeat' first
      | (with_reducible exact ih0 _ _ _ _ _ _ _ _ _ _ _ _ _ _ _ _)
      | (with_reducible exact ih1 _ _ _ _ _ _ _ _ _ _ _ _ _ _ _ _)
      | (with_reducible exact ih2 _ _ _ _ _ _ _ _ _ _ _ _ _ _ _ _ _ _)
      | (with_reducible exact ih3 _ _ _ _ _ _ _ _ _ _ _ _ _ _ _ _ _)
      | (with_reducible exact fourinhandref03_Seal.mono _ _)
      | (with_reducible exact LeO.refl _)
      | (with_reducible exact LeO.none _)
      | (with_reducible refine LeO.ite ?_ ?_)
      | (with_reducible refine LeO.bind ?_ (fun _ => ?_))
      | exact ih0 _ _ _ _ _ _ _ _ _ _ _ _ _ _ _ _
      | exact ih1 _ _ _ _ _ _ _ _ _ _ _ _ _ _ _ _
      | exact ih2 _ _ _ _ _ _ _ _ _ _ _ _ _ _ _ _ _ _
      | exact ih3 _ _ _ _ _ _ _ _ _ _ _ _ _ _ _ _ _
      | exact fourinhandref03_Seal.mono _ _
      | exact LeO.none _
      | refine LeO.ite ?_ ?_
      | refine LeO.bind ?_ (fun _ => ?_)
    · intro y0 y1 y2 y3 y4 y5 y6 y7 y8 y9 y10 y11 y12 y13 y14 y15
      unfold fourinhandref07_Put.j1
      repeat' first
      | (with_reducible exact ih0 _ _ _ _ _ _ _ _ _ _ _ _ _ _ _ _)
      | (with_reducible exact ih1 _ _ _ _ _ _ _ _ _ _ _ _ _ _ _ _)
      | (with_reducible exact ih2 _ _ _ _ _ _ _ _ _ _ _ _ _ _ _ _ _ _)
      | (with_reducible exact ih3 _ _ _ _ _ _ _ _ _ _ _ _ _ _ _ _ _)
      | (with_reducible exact fourinhandref03_Seal.mono _ _)
      | (with_reducible exact LeO.refl _)
      | (with_reducible exact LeO.none _)
      | (with_reducible refine LeO.ite ?_ ?_)
      | (with_reducible refine LeO.bind ?_ (fun _ => ?_))
      | exact ih0 _ _ _ _ _ _ _ _ _ _ _ _ _ _ _ _
      | exact ih1 _ _ _ _ _ _ _ _ _ _ _ _ _ _ _ _
      | exact ih2 _ _ _ _ _ _ _ _ _ _ _ _ _ _ _ _ _ _
      | exact ih3 _ _ _ _ _ _ _ _ _ _ _ _ _ _ _ _ _
      | exact fourinhandref03_Seal.mono _ _
      | exact LeO.none _
      | refine LeO.ite ?_ ?_
      | refine LeO.bind ?_ (fun _ => ?_)
    · intro y0 y1 y2 y3 y4 y5 y6 y7 y8 y9 y10 y11 y12 y13 y14 y15 y16 y17
      unfold fourinhandref07_Put.l0
      repeat' first
      | (with_reducible exact ih0 _ _ _ _ _ _ _ _ _ _ _ _ _ _ _ _)
      | (with_reducible exact ih1 _ _ _ _ _ _ _ _ _ _ _ _ _ _ _ _)
      | (with_reducible exact ih2 _ _ _ _ _ _ _ _ _ _ _ _ _ _ _ _ _ _)
      | (with_reducible exact ih3 _ _ _ _ _ _ _ _ _ _ _ _ _ _ _ _ _)
      | (with_reducible exact fourinhandref03_Seal.mono _ _)
      | (with_reducible exact LeO.refl _)
      | (with_reducible exact LeO.none _)
      | (with_reducible refine LeO.ite ?_ ?_)
      | (with_reducible refine LeO.bind ?_ (fun _ => ?_))
      | exact ih0 _ _ _ _ _ _ _ _ _ _ _ _ _ _ _ _
      | exact ih1 _ _ _ _ _ _ _ _ _ _ _ _ _ _ _ _
      | exact ih2 _ _ _ _ _ _ _ _ _ _ _ _ _ _ _ _ _ _
      | exact ih3 _ _ _ _ _ _ _ _ _ _ _ _ _ _ _ _ _
      | exact fourinhandref03_Seal.mono _ _
      | exact LeO.none _
      | refine LeO.ite ?_ ?_
      | refine LeO.bind ?_ (fun _ => ?_)
    · intro y0 y1 y2 y3 y4 y5 y6 y7 y8 y9 y10 y11 y12 y13 y14 y15 y16
      unfold fourinhandref07_Put.l1
      repeat' first
      | (with_reducible exact ih0 _ _ _ _ _ _ _ _ _ _ _ _ _ _ _ _)
      | (with_reducible exact ih1 _ _ _ _ _ _ _ _ _ _ _ _ _ _ _ _)
      | (with_reducible exact ih2 _ _ _ _ _ _ _ _ _ _ _ _ _ _ _ _ _ _)
      | (with_reducible exact ih3 _ _ _ _ _ _ _ _ _ _ _ _ _ _ _ _ _)
      | (with_reducible exact fourinhandref03_Seal.mono _ _)
      | (with_reducible exact LeO.refl _)
      | (with_reducible exact LeO.none _)
      | (with_reducible refine LeO.ite ?_ ?_)
      | (with_reducible refine LeO.bind ?_ (fun _ => ?_))
      | exact ih0 _ _ _ _ _ _ _ _ _ _ _ _ _ _ _ _
      | exact ih1 _ _ _ _ _ _ _ _ _ _ _ _ _ _ _ _
      | exact ih2 _ _ _ _ _ _ _ _ _ _ _ _ _ _ _ _ _ _
      | exact ih3 _ _ _ _ _ _ _ _ _ _ _ _ _ _ _ _ _
      | exact fourinhandref03_Seal.mono _ _
      | exact LeO.none _
      | refine LeO.ite ?_ ?_
      | refine LeO.bind ?_ (fun _ => ?_)
theorem fourinhandref07_Put.mono : ∀ a0 a1 a2 a3 a4 a5 a6 a7 a8 a9 a10 a11 a12 a13 a14 k, LeO (fourinhandref07_Put.f k a0 a1 a2 a3 a4 a5 a6 a7 a8 a9 a10 a11 a12 a13 a14) (fourinhandref07_Put.f (k + 1) a0 a1 a2 a3 a4 a5 a6 a7 a8 a9 a10 a11 a12 a13 a14) := by
  intro a0 a1 a2 a3 a4 a5 a6 a7 a8 a9 a10 a11 a12 a13 a14 k
  obtain ⟨ih0, ih1, ih2, ih3⟩ := fourinhandref07_Put.mono_l k
  unfold fourinhandref07_Put.f
  repeat' first
      | (with_reducible exact ih0 _ _ _ _ _ _ _ _ _ _ _ _ _ _ _ _)
      | (with_reducible exact ih1 _ _ _ _ _ _ _ _ _ _ _ _ _ _ _ _)
      | (with_reducible exact ih2 _ _ _ _ _ _ _ _ _ _ _ _ _ _ _ _ _ _)
      | (with_reducible exact ih3 _ _ _ _ _ _ _ _ _ _ _ _ _ _ _ _ _)
      | (with_reducible exact fourinhandref03_Seal.mono _ _)
      | (with_reducible exact LeO.refl _)
      | (with_reducible exact LeO.none _)
      | (with_reducible refine LeO.ite ?_ ?_)
      | (with_reducible refine LeO.bind ?_ (fun _ => ?_))
      | exact ih0 _ _ _ _ _ _ _ _ _ _ _ _ _ _ _ _
      | exact ih1 _ _ _ _ _ _ _ _ _ _ _ _ _ _ _ _
      | exact ih2 _ _ _ _ _ _ _ _ _ _ _ _ _ _ _ _ _ _
      | exact ih3 _ _ _ _ _ _ _ _ _ _ _ _ _ _ _ _ _
      | exact fourinhandref03_Seal.mono _ _
      | exact LeO.none _
      | refine LeO.ite ?_ ?_
      | refine LeO.bind ?_ (fun _ => ?_)
set_option maxHeartbeats 8000000 in
set_option maxRecDepth 100000 in
theorem fourinhandref07_Put.calls (k : Nat) (a0_0 : Int) (a0_1 : Int) (a0_2 : Bool) (a0_3 : Bool) (a0_4 : Int) (a0_5 : Int) (a0_6 : Int) (a0_7 : Int) (a0_8 : Int) (a0_9 : Int) (a0_10 : Int) (a0_11 : Int) (a0_12 : Int) (A0_13 : Option Addr) (c0_13 : Nat) (l0_13 : List (S58)) (A0_14 : Option Addr) (c0_14 : Nat) (l0_14 : List Int) (r1 : List Int) (r2 : Int) (w : World) (hr0_13 : Kd.C k58 w A0_13 l0_13.length l0_13) (hc0_13 : l0_13.length ≤ c0_13) (hr0_14 : Kd.C (Kd.int .u8) w A0_14 l0_14.length l0_14) (hc0_14 : l0_14.length ≤ c0_14) (h : fourinhandref07_Put.f k a0_0 a0_1 a0_2 a0_3 a0_4 a0_5 a0_6 a0_7 a0_8 a0_9 a0_10 a0_11 a0_12 l0_13 l0_14 = some (r1, r2)) :
    Calls Try.prog 27 #[.agg #[.int .i64 a0_0, .int .i64 a0_1, .bool a0_2, .bool a0_3, .int .u32 a0_4, .int .u32 a0_5, .int .u32 a0_6, .int .u32 a0_7, .int .i64 a0_8, .int .i64 a0_9, .int .u32 a0_10, .int .u32 a0_11, .int .u32 a0_12, .slice A0_13 l0_13.length c0_13, .slice A0_14 l0_14.length c0_14]] w fun e w' => ∃ v0_ : Value, e = .returned (.tuple #[v0_, .int .i64 r2]) ∧ Kd.R (Kd.int .u8) 5 w' w.heap.size (fun _ => True) v0_ r1 ∧ Below w.heap.size w w' := by
  have hu41 := Try.underlying41
  have HR0_13 := Aside0.mk hr0_13
  have HC0_13 := Aside0.mk hc0_13
  clear hr0_13 hc0_13
  have HR0_14 := Aside0.mk hr0_14
  have HC0_14 := Aside0.mk hc0_14
  clear hr0_14 hc0_14
  have HB := Aside0.mk (Below.refl w.heap.size w)
  have H : ((fourinhandref07_May.f a0_0 a0_1 a0_2 a0_3 a0_4 a0_5 a0_6 a0_7 a0_8 a0_9 a0_10 a0_11 a0_12 l0_13 l0_14).bind fun t166 => (if t166 = true then (if a0_2 = true then (fourinhandref07_Put.j0 k (wrap64 ((wrap64 (4 * a0_9)) + 1)) a0_0 a0_1 a0_2 a0_3 a0_4 a0_5 a0_6 a0_7 a0_8 a0_9 a0_10 a0_11 a0_12 l0_13 l0_14) else (fourinhandref07_Put.j0 k (wrap64 (4 * a0_9)) a0_0 a0_1 a0_2 a0_3 a0_4 a0_5 a0_6 a0_7 a0_8 a0_9 a0_10 a0_11 a0_12 l0_13 l0_14)) else (some (([] : List Int), 1)))) = some (r1, r2) := h
  clear h
  replace H := Option.bind_eq_some_iff.mp H
  obtain ⟨t166, A20, H⟩ := H
  replace H : (if t166 = true then (if a0_2 = true then (fourinhandref07_Put.j0 k (wrap64 ((wrap64 (4 * a0_9)) + 1)) a0_0 a0_1 a0_2 a0_3 a0_4 a0_5 a0_6 a0_7 a0_8 a0_9 a0_10 a0_11 a0_12 l0_13 l0_14) else (fourinhandref07_Put.j0 k (wrap64 (4 * a0_9)) a0_0 a0_1 a0_2 a0_3 a0_4 a0_5 a0_6 a0_7 a0_8 a0_9 a0_10 a0_11 a0_12 l0_13 l0_14)) else (some (([] : List Int), 1))) = some (r1, r2) := H
  have A2 := Aside0.mk A20
  clear A20
  by_cases c3 : t166 = true
  · subst c3
    have H1 : (if a0_2 = true then (fourinhandref07_Put.j0 k (wrap64 ((wrap64 (4 * a0_9)) + 1)) a0_0 a0_1 a0_2 a0_3 a0_4 a0_5 a0_6 a0_7 a0_8 a0_9 a0_10 a0_11 a0_12 l0_13 l0_14) else (fourinhandref07_Put.j0 k (wrap64 (4 * a0_9)) a0_0 a0_1 a0_2 a0_3 a0_4 a0_5 a0_6 a0_7 a0_8 a0_9 a0_10 a0_11 a0_12 l0_13 l0_14)) = some (r1, r2) := by rw [if_pos rfl] at H; exact H
    clear H
    have H := H1
    clear H1
    have HC4 := Aside0.mk H
    clear H
    go_enter Try.func27, Try.ntmps27
    go_upto_if 18 with (first | ((with_reducible refine gate_dst (N := 1) rfl ?_); refine box_event ?hg (N := 1) ?hd (cs := #[.int .i64 a0_0, .int .i64 a0_1, .bool a0_2, .bool a0_3, .int .u32 a0_4, .int .u32 a0_5, .int .u32 a0_6, .int .u32 a0_7, .int .i64 a0_8, .int .i64 a0_9, .int .u32 a0_10, .int .u32 a0_11, .int .u32 a0_12, .slice A0_13 l0_13.length c0_13, .slice A0_14 l0_14.length c0_14]) (t := 41) ?hr ?_; (case hd => rfl); (case hg => rfl); (case hr => first | (go_simp; done) | (go_simp; rfl)); intro gb165 hg w5 hbox hb; have n0_ := Aside0.mk (below_step (by repeat (first | (with_reducible first | exact HB.out | apply below_alloc | apply pw_below_drewN | apply below_drew1) | exact HB.out)) hb); have n1_ := Aside0.mk (hbox); have n2_ := Aside0.mk ((by rw [hg]; exact (below_size (by repeat (first | (with_reducible first | exact HB.out | apply below_alloc | apply pw_below_drewN | apply below_drew1) | exact HB.out))) : w.heap.size ≤ gb165)); have n3_ := Aside0.mk ((by rw [hg]; exact (below_size (by repeat (first | (with_reducible first | exact HB.out | apply below_alloc | apply pw_below_drewN | apply below_drew1) | exact HB.out))) : w.heap.size ≤ gb165)); clear HB; have HB := n0_; have BK165 := n1_; have GW165 := n2_; have GE165 := n3_; clear n0_ n1_ n2_ n3_; clear hb hbox hg; have hcz6_0 : w5.cell? ⟨gb165, 0, none⟩ = some (.int .i64 a0_0) := (blk_cell BK165.out 0).trans rfl; have hcz6_1 : w5.cell? ⟨gb165, 1, none⟩ = some (.int .i64 a0_1) := (blk_cell BK165.out 1).trans rfl; have hcz6_2 : w5.cell? ⟨gb165, 2, none⟩ = some (.bool a0_2) := (blk_cell BK165.out 2).trans rfl; have hcz6_3 : w5.cell? ⟨gb165, 3, none⟩ = some (.bool a0_3) := (blk_cell BK165.out 3).trans rfl; have hcz6_4 : w5.cell? ⟨gb165, 4, none⟩ = some (.int .u32 a0_4) := (blk_cell BK165.out 4).trans rfl; have hcz6_5 : w5.cell? ⟨gb165, 5, none⟩ = some (.int .u32 a0_5) := (blk_cell BK165.out 5).trans rfl; have hcz6_6 : w5.cell? ⟨gb165, 6, none⟩ = some (.int .u32 a0_6) := (blk_cell BK165.out 6).trans rfl; have hcz6_7 : w5.cell? ⟨gb165, 7, none⟩ = some (.int .u32 a0_7) := (blk_cell BK165.out 7).trans rfl; have hcz6_8 : w5.cell? ⟨gb165, 8, none⟩ = some (.int .i64 a0_8) := (blk_cell BK165.out 8).trans rfl; have hcz6_9 : w5.cell? ⟨gb165, 9, none⟩ = some (.int .i64 a0_9) := (blk_cell BK165.out 9).trans rfl; have hcz6_10 : w5.cell? ⟨gb165, 10, none⟩ = some (.int .u32 a0_10) := (blk_cell BK165.out 10).trans rfl; have hcz6_11 : w5.cell? ⟨gb165, 11, none⟩ = some (.int .u32 a0_11) := (blk_cell BK165.out 11).trans rfl; have hcz6_12 : w5.cell? ⟨gb165, 12, none⟩ = some (.int .u32 a0_12) := (blk_cell BK165.out 12).trans rfl; have hcz6_13 : w5.cell? ⟨gb165, 13, none⟩ = some (.slice A0_13 l0_13.length c0_13) := (blk_cell BK165.out 13).trans rfl; have hcz6_14 : w5.cell? ⟨gb165, 14, none⟩ = some (.slice A0_14 l0_14.length c0_14) := (blk_cell BK165.out 14).trans rfl; have hfz6_0 := blk_frozen BK165.out 0; have hfz6_1 := blk_frozen BK165.out 1; have hfz6_2 := blk_frozen BK165.out 2; have hfz6_3 := blk_frozen BK165.out 3; have hfz6_4 := blk_frozen BK165.out 4; have hfz6_5 := blk_frozen BK165.out 5; have hfz6_6 := blk_frozen BK165.out 6; have hfz6_7 := blk_frozen BK165.out 7; have hfz6_8 := blk_frozen BK165.out 8; have hfz6_9 := blk_frozen BK165.out 9; have hfz6_10 := blk_frozen BK165.out 10; have hfz6_11 := blk_frozen BK165.out 11; have hfz6_12 := blk_frozen BK165.out 12; have hfz6_13 := blk_frozen BK165.out 13; have hfz6_14 := blk_frozen BK165.out 14) | ((with_reducible refine gate_callee (f := 29) rfl ?_); refine goesL_ (some 11) rfl rfl Try.func29 (by kernel_rfl) rfl #[.agg #[.int .i64 a0_0, .int .i64 a0_1, .bool a0_2, .bool a0_3, .int .u32 a0_4, .int .u32 a0_5, .int .u32 a0_6, .int .u32 a0_7, .int .i64 a0_8, .int .i64 a0_9, .int .u32 a0_10, .int .u32 a0_11, .int .u32 a0_12, .slice A0_13 l0_13.length c0_13, .slice A0_14 l0_14.length c0_14]] rfl (by (try simp only [List.map_toArray, List.map_cons, List.map_nil]); first | done | rfl | (simp only [List.length_drop, List.length_take]; rfl)) ?_; (with_reducible refine (fourinhandref07_May.calls a0_0 a0_1 a0_2 a0_3 a0_4 a0_5 a0_6 a0_7 a0_8 a0_9 a0_10 a0_11 a0_12 _ _ l0_13 _ _ l0_14 true _ ?side1 ?side2 ?side3 ?side4 A2.out).mono ?_); (case side1 => repeat (first | exact (Kd.C_below HR0_13.out HB.out) | (with_reducible refine Kd.C_alloc ?_ _) | (with_reducible refine Kd.C_drewN ?_ _) | (with_reducible refine Kd.C_drew ?_))); (case side2 => exact HC0_13.out); (case side3 => repeat (first | exact (Kd.C_below HR0_14.out HB.out) | (with_reducible refine Kd.C_alloc ?_ _) | (with_reducible refine Kd.C_drewN ?_ _) | (with_reducible refine Kd.C_drew ?_))); (case side4 => exact HC0_14.out); rintro e w7 ⟨rfl, hb⟩; refine ⟨_, rfl, ?_⟩; have n0_ := Aside0.mk (blk_below (g := gb165) (o := .cells #[.int .i64 a0_0, .int .i64 a0_1, .bool a0_2, .bool a0_3, .int .u32 a0_4, .int .u32 a0_5, .int .u32 a0_6, .int .u32 a0_7, .int .i64 a0_8, .int .i64 a0_9, .int .u32 a0_10, .int .u32 a0_11, .int .u32 a0_12, .slice A0_13 l0_13.length c0_13, .slice A0_14 l0_14.length c0_14] 41 (0, 0)) (by (with_reducible repeat (first | refine blk_drewN ?_ _ | refine blk_drew ?_ | refine blk_alloc ?_ _)); exact BK165.out) hb); have n1_ := Aside0.mk (below_step (by repeat (first | (with_reducible first | exact HB.out | apply below_alloc | apply pw_below_drewN | apply below_drew1 | refine below_set ?_ GE165.out) | exact HB.out)) hb); clear BK165; clear HB; have BK165 := n0_; have HB := n1_; clear n0_ n1_; (try clear hb); (try clear hb2); (try clear hk); (try clear hi); have hcz8_0 : w7.cell? ⟨gb165, 0, none⟩ = some (.int .i64 a0_0) := (blk_cell BK165.out 0).trans rfl; have hcz8_1 : w7.cell? ⟨gb165, 1, none⟩ = some (.int .i64 a0_1) := (blk_cell BK165.out 1).trans rfl; have hcz8_2 : w7.cell? ⟨gb165, 2, none⟩ = some (.bool a0_2) := (blk_cell BK165.out 2).trans rfl; have hcz8_3 : w7.cell? ⟨gb165, 3, none⟩ = some (.bool a0_3) := (blk_cell BK165.out 3).trans rfl; have hcz8_4 : w7.cell? ⟨gb165, 4, none⟩ = some (.int .u32 a0_4) := (blk_cell BK165.out 4).trans rfl; have hcz8_5 : w7.cell? ⟨gb165, 5, none⟩ = some (.int .u32 a0_5) := (blk_cell BK165.out 5).trans rfl; have hcz8_6 : w7.cell? ⟨gb165, 6, none⟩ = some (.int .u32 a0_6) := (blk_cell BK165.out 6).trans rfl; have hcz8_7 : w7.cell? ⟨gb165, 7, none⟩ = some (.int .u32 a0_7) := (blk_cell BK165.out 7).trans rfl; have hcz8_8 : w7.cell? ⟨gb165, 8, none⟩ = some (.int .i64 a0_8) := (blk_cell BK165.out 8).trans rfl; have hcz8_9 : w7.cell? ⟨gb165, 9, none⟩ = some (.int .i64 a0_9) := (blk_cell BK165.out 9).trans rfl; have hcz8_10 : w7.cell? ⟨gb165, 10, none⟩ = some (.int .u32 a0_10) := (blk_cell BK165.out 10).trans rfl; have hcz8_11 : w7.cell? ⟨gb165, 11, none⟩ = some (.int .u32 a0_11) := (blk_cell BK165.out 11).trans rfl; have hcz8_12 : w7.cell? ⟨gb165, 12, none⟩ = some (.int .u32 a0_12) := (blk_cell BK165.out 12).trans rfl; have hcz8_13 : w7.cell? ⟨gb165, 13, none⟩ = some (.slice A0_13 l0_13.length c0_13) := (blk_cell BK165.out 13).trans rfl; have hcz8_14 : w7.cell? ⟨gb165, 14, none⟩ = some (.slice A0_14 l0_14.length c0_14) := (blk_cell BK165.out 14).trans rfl; have hfz8_0 := blk_frozen BK165.out 0; have hfz8_1 := blk_frozen BK165.out 1; have hfz8_2 := blk_frozen BK165.out 2; have hfz8_3 := blk_frozen BK165.out 3; have hfz8_4 := blk_frozen BK165.out 4; have hfz8_5 := blk_frozen BK165.out 5; have hfz8_6 := blk_frozen BK165.out 6; have hfz8_7 := blk_frozen BK165.out 7; have hfz8_8 := blk_frozen BK165.out 8; have hfz8_9 := blk_frozen BK165.out 9; have hfz8_10 := blk_frozen BK165.out 10; have hfz8_11 := blk_frozen BK165.out 11; have hfz8_12 := blk_frozen BK165.out 12; have hfz8_13 := blk_frozen BK165.out 13; have hfz8_14 := blk_frozen BK165.out 14))
    (try simp only [Act.put, List.setIfInBounds_toArray, List.set_cons_zero, List.set_cons_succ])
    go_cut [5] (fun v5 wc => ∃ (kq : Nat) (x5_3 : Int), v5 = .int .i64 x5_3 ∧ Aside0 (fourinhandref07_Put.j0 kq x5_3 a0_0 a0_1 a0_2 a0_3 a0_4 a0_5 a0_6 a0_7 a0_8 a0_9 a0_10 a0_11 a0_12 l0_13 l0_14 = some (r1, r2)) ∧ Aside0 (kq ≤ k) ∧ Aside0 (wc.heap[gb165]? = some (.cells #[.int .i64 a0_0, .int .i64 a0_1, .bool a0_2, .bool a0_3, .int .u32 a0_4, .int .u32 a0_5, .int .u32 a0_6, .int .u32 a0_7, .int .i64 a0_8, .int .i64 a0_9, .int .u32 a0_10, .int .u32 a0_11, .int .u32 a0_12, (.slice A0_13 l0_13.length c0_13), (.slice A0_14 l0_14.length c0_14)] 41 (0, 0))) ∧ Aside0 (Below w.heap.size w wc))
    case first =>
      have H := HC4.out
      clear HC4
      by_cases c9 : a0_2 = true
      · subst c9
        have H1 : (fourinhandref07_Put.j0 k (wrap64 ((wrap64 (4 * a0_9)) + 1)) a0_0 a0_1 true a0_3 a0_4 a0_5 a0_6 a0_7 a0_8 a0_9 a0_10 a0_11 a0_12 l0_13 l0_14) = some (r1, r2) := by rw [if_pos rfl] at H; exact H
        clear H
        have H := H1
        clear H1
        have H' := Aside0.mk H
        clear H
        go_wp2
        go_meet
        case rel => exact ⟨_, (wrap64 ((wrap64 (4 * a0_9)) + 1)), (by first | rfl | (simp; done) | (simp [*]; done)), H', ⟨by first | omega | exact Nat.le_refl _⟩, ⟨by (with_reducible repeat (first | refine blk_drewN ?_ _ | refine blk_drew ?_ | refine blk_alloc ?_ _)); exact BK165.out⟩, ⟨by repeat (first | (with_reducible first | exact HB.out | apply below_alloc | apply pw_below_drewN | apply below_drew1 | refine below_set ?_ GE165.out) | exact HB.out)⟩⟩
      · replace c9 := Bool.eq_false_iff.mpr c9
        subst c9
        have H1 : (fourinhandref07_Put.j0 k (wrap64 (4 * a0_9)) a0_0 a0_1 false a0_3 a0_4 a0_5 a0_6 a0_7 a0_8 a0_9 a0_10 a0_11 a0_12 l0_13 l0_14) = some (r1, r2) := by rw [if_neg (show ¬ (false = true) by decide)] at H; exact H
        clear H
        have H := H1
        clear H1
        have H' := Aside0.mk H
        clear H
        go_wp2
        go_meet
        case rel => exact ⟨_, (wrap64 (4 * a0_9)), (by first | rfl | (simp; done) | (simp [*]; done)), H', ⟨by first | omega | exact Nat.le_refl _⟩, ⟨by (with_reducible repeat (first | refine blk_drewN ?_ _ | refine blk_drew ?_ | refine blk_alloc ?_ _)); exact BK165.out⟩, ⟨by repeat (first | (with_reducible first | exact HB.out | apply below_alloc | apply pw_below_drewN | apply below_drew1 | refine below_set ?_ GE165.out) | exact HB.out)⟩⟩
    case rest =>
      clear HC4
      try clear c2
      try clear p2
      try clear c3
      try clear p6
      try clear c9
      try clear hcz6_0
      try clear hcz6_1
      try clear hcz6_10
      try clear hcz6_11
      try clear hcz6_12
      try clear hcz6_13
      try clear hcz6_14
      try clear hcz6_2
      try clear hcz6_3
      try clear hcz6_4
      try clear hcz6_5
      try clear hcz6_6
      try clear hcz6_7
      try clear hcz6_8
      try clear hcz6_9
      try clear hcz8_0
      try clear hcz8_1
      try clear hcz8_10
      try clear hcz8_11
      try clear hcz8_12
      try clear hcz8_13
      try clear hcz8_14
      try clear hcz8_2
      try clear hcz8_3
      try clear hcz8_4
      try clear hcz8_5
      try clear hcz8_6
      try clear hcz8_7
      try clear hcz8_8
      try clear hcz8_9
      try clear hfz6_0
      try clear hfz6_1
      try clear hfz6_10
      try clear hfz6_11
      try clear hfz6_12
      try clear hfz6_13
      try clear hfz6_14
      try clear hfz6_2
      try clear hfz6_3
      try clear hfz6_4
      try clear hfz6_5
      try clear hfz6_6
      try clear hfz6_7
      try clear hfz6_8
      try clear hfz6_9
      try clear hfz8_0
      try clear hfz8_1
      try clear hfz8_10
      try clear hfz8_11
      try clear hfz8_12
      try clear hfz8_13
      try clear hfz8_14
      try clear hfz8_2
      try clear hfz8_3
      try clear hfz8_4
      try clear hfz8_5
      try clear hfz8_6
      try clear hfz8_7
      try clear hfz8_8
      try clear hfz8_9
      obtain ⟨kq, x5_3, rfl, HA, HJ3, BK165, HB⟩ := hcut
      cases kq with
      | zero => exact absurd HA.out (by simp [fourinhandref07_Put.j0])
      | succ kj3 =>
        have H := HA.out
        clear HA
        simp only [fourinhandref07_Put.j0] at H
        have HC10 := Aside0.mk H
        clear H
        have hcz11_0 : wc.cell? ⟨gb165, 0, none⟩ = some (.int .i64 a0_0) := (blk_cell BK165.out 0).trans rfl
        have hcz11_1 : wc.cell? ⟨gb165, 1, none⟩ = some (.int .i64 a0_1) := (blk_cell BK165.out 1).trans rfl
        have hcz11_2 : wc.cell? ⟨gb165, 2, none⟩ = some (.bool a0_2) := (blk_cell BK165.out 2).trans rfl
        have hcz11_3 : wc.cell? ⟨gb165, 3, none⟩ = some (.bool a0_3) := (blk_cell BK165.out 3).trans rfl
        have hcz11_4 : wc.cell? ⟨gb165, 4, none⟩ = some (.int .u32 a0_4) := (blk_cell BK165.out 4).trans rfl
        have hcz11_5 : wc.cell? ⟨gb165, 5, none⟩ = some (.int .u32 a0_5) := (blk_cell BK165.out 5).trans rfl
        have hcz11_6 : wc.cell? ⟨gb165, 6, none⟩ = some (.int .u32 a0_6) := (blk_cell BK165.out 6).trans rfl
        have hcz11_7 : wc.cell? ⟨gb165, 7, none⟩ = some (.int .u32 a0_7) := (blk_cell BK165.out 7).trans rfl
        have hcz11_8 : wc.cell? ⟨gb165, 8, none⟩ = some (.int .i64 a0_8) := (blk_cell BK165.out 8).trans rfl
        have hcz11_9 : wc.cell? ⟨gb165, 9, none⟩ = some (.int .i64 a0_9) := (blk_cell BK165.out 9).trans rfl
        have hcz11_10 : wc.cell? ⟨gb165, 10, none⟩ = some (.int .u32 a0_10) := (blk_cell BK165.out 10).trans rfl
        have hcz11_11 : wc.cell? ⟨gb165, 11, none⟩ = some (.int .u32 a0_11) := (blk_cell BK165.out 11).trans rfl
        have hcz11_12 : wc.cell? ⟨gb165, 12, none⟩ = some (.int .u32 a0_12) := (blk_cell BK165.out 12).trans rfl
        have hcz11_13 : wc.cell? ⟨gb165, 13, none⟩ = some (.slice A0_13 l0_13.length c0_13) := (blk_cell BK165.out 13).trans rfl
        have hcz11_14 : wc.cell? ⟨gb165, 14, none⟩ = some (.slice A0_14 l0_14.length c0_14) := (blk_cell BK165.out 14).trans rfl
        have hfz11_0 := blk_frozen BK165.out 0
        have hfz11_1 := blk_frozen BK165.out 1
        have hfz11_2 := blk_frozen BK165.out 2
        have hfz11_3 := blk_frozen BK165.out 3
        have hfz11_4 := blk_frozen BK165.out 4
        have hfz11_5 := blk_frozen BK165.out 5
        have hfz11_6 := blk_frozen BK165.out 6
        have hfz11_7 := blk_frozen BK165.out 7
        have hfz11_8 := blk_frozen BK165.out 8
        have hfz11_9 := blk_frozen BK165.out 9
        have hfz11_10 := blk_frozen BK165.out 10
        have hfz11_11 := blk_frozen BK165.out 11
        have hfz11_12 := blk_frozen BK165.out 12
        have hfz11_13 := blk_frozen BK165.out 13
        have hfz11_14 := blk_frozen BK165.out 14
        go_upto_if 22 with (fail)
        go_cut [5] (fun v5 wc => ∃ (kq : Nat) (x5_9 : Int), v5 = .int .i64 x5_9 ∧ Aside0 (fourinhandref07_Put.j1 kq x5_9 a0_0 a0_1 a0_2 a0_3 a0_4 a0_5 a0_6 a0_7 a0_8 a0_9 a0_10 a0_11 a0_12 l0_13 l0_14 = some (r1, r2)) ∧ Aside0 (kq ≤ kj3) ∧ Aside0 (wc.heap[gb165]? = some (.cells #[.int .i64 a0_0, .int .i64 a0_1, .bool a0_2, .bool a0_3, .int .u32 a0_4, .int .u32 a0_5, .int .u32 a0_6, .int .u32 a0_7, .int .i64 a0_8, .int .i64 a0_9, .int .u32 a0_10, .int .u32 a0_11, .int .u32 a0_12, (.slice A0_13 l0_13.length c0_13), (.slice A0_14 l0_14.length c0_14)] 41 (0, 0))) ∧ Aside0 (Below w.heap.size w wc))
        case first =>
          have H := HC10.out
          clear HC10
          by_cases c12 : a0_3 = true
          · subst c12
            have H1 : (fourinhandref07_Put.j1 kj3 (wrap64 (x5_3 + 2)) a0_0 a0_1 a0_2 true a0_4 a0_5 a0_6 a0_7 a0_8 a0_9 a0_10 a0_11 a0_12 l0_13 l0_14) = some (r1, r2) := by rw [if_pos rfl] at H; exact H
            clear H
            have H := H1
            clear H1
            have H' := Aside0.mk H
            clear H
            go_wp2
            go_meet
            case rel => exact ⟨_, (wrap64 (x5_3 + 2)), (by first | rfl | (simp; done) | (simp [*]; done)), H', ⟨by have := HJ3.out; first | omega | exact Nat.le_refl _⟩, ⟨by (with_reducible repeat (first | refine blk_drewN ?_ _ | refine blk_drew ?_ | refine blk_alloc ?_ _)); exact BK165.out⟩, ⟨by repeat (first | (with_reducible first | exact HB.out | apply below_alloc | apply pw_below_drewN | apply below_drew1 | refine below_set ?_ GE165.out) | exact HB.out)⟩⟩
          · replace c12 := Bool.eq_false_iff.mpr c12
            subst c12
            have H1 : (fourinhandref07_Put.j1 kj3 x5_3 a0_0 a0_1 a0_2 false a0_4 a0_5 a0_6 a0_7 a0_8 a0_9 a0_10 a0_11 a0_12 l0_13 l0_14) = some (r1, r2) := by rw [if_neg (show ¬ (false = true) by decide)] at H; exact H
            clear H
            have H := H1
            clear H1
            have H' := Aside0.mk H
            clear H
            go_wp2
            go_meet
            case rel => exact ⟨_, (x5_3), (by first | rfl | (simp; done) | (simp [*]; done)), H', ⟨by have := HJ3.out; first | omega | exact Nat.le_refl _⟩, ⟨by (with_reducible repeat (first | refine blk_drewN ?_ _ | refine blk_drew ?_ | refine blk_alloc ?_ _)); exact BK165.out⟩, ⟨by repeat (first | (with_reducible first | exact HB.out | apply below_alloc | apply pw_below_drewN | apply below_drew1 | refine below_set ?_ GE165.out) | exact HB.out)⟩⟩
        case rest =>
          clear HC10
          try clear c1
          try clear c2
          try clear p2
          try clear c3
          try clear p6
          try clear c9
          try clear c12
          try clear hcz11_0
          try clear hcz11_1
          try clear hcz11_10
          try clear hcz11_11
          try clear hcz11_12
          try clear hcz11_13
          try clear hcz11_14
          try clear hcz11_2
          try clear hcz11_3
          try clear hcz11_4
          try clear hcz11_5
          try clear hcz11_6
          try clear hcz11_7
          try clear hcz11_8
          try clear hcz11_9
          try clear hcz6_0
          try clear hcz6_1
          try clear hcz6_10
          try clear hcz6_11
          try clear hcz6_12
          try clear hcz6_13
          try clear hcz6_14
          try clear hcz6_2
          try clear hcz6_3
          try clear hcz6_4
          try clear hcz6_5
          try clear hcz6_6
          try clear hcz6_7
          try clear hcz6_8
          try clear hcz6_9
          try clear hcz8_0
          try clear hcz8_1
          try clear hcz8_10
          try clear hcz8_11
          try clear hcz8_12
          try clear hcz8_13
          try clear hcz8_14
          try clear hcz8_2
          try clear hcz8_3
          try clear hcz8_4
          try clear hcz8_5
          try clear hcz8_6
          try clear hcz8_7
          try clear hcz8_8
          try clear hcz8_9
          try clear hfz11_0
          try clear hfz11_1
          try clear hfz11_10
          try clear hfz11_11
          try clear hfz11_12
          try clear hfz11_13
          try clear hfz11_14
          try clear hfz11_2
          try clear hfz11_3
          try clear hfz11_4
          try clear hfz11_5
          try clear hfz11_6
          try clear hfz11_7
          try clear hfz11_8
          try clear hfz11_9
          try clear hfz6_0
          try clear hfz6_1
          try clear hfz6_10
          try clear hfz6_11
          try clear hfz6_12
          try clear hfz6_13
          try clear hfz6_14
          try clear hfz6_2
          try clear hfz6_3
          try clear hfz6_4
          try clear hfz6_5
          try clear hfz6_6
          try clear hfz6_7
          try clear hfz6_8
          try clear hfz6_9
          try clear hfz8_0
          try clear hfz8_1
          try clear hfz8_10
          try clear hfz8_11
          try clear hfz8_12
          try clear hfz8_13
          try clear hfz8_14
          try clear hfz8_2
          try clear hfz8_3
          try clear hfz8_4
          try clear hfz8_5
          try clear hfz8_6
          try clear hfz8_7
          try clear hfz8_8
          try clear hfz8_9
          try clear p2
          try clear p6
          obtain ⟨kq, x5_9, rfl, HA, HJ9, BK165, HB⟩ := hcut
          cases kq with
          | zero => exact absurd HA.out (by simp [fourinhandref07_Put.j1])
          | succ kj9 =>
            have H := HA.out
            clear HA
            simp only [fourinhandref07_Put.j1] at H
            obtain ⟨y167, hy167⟩ : ∃ y_ : List Int, y_ = (([(wrap64 ((wrap64 (16 * a0_0)) + a0_1)) % 256, (x5_9) % 256, (wrap64 (Int.tdiv a0_8 256)) % 256, (Int.tmod a0_8 256) % 256] : List Int)) := ⟨_, rfl⟩
            replace H : (fourinhandref07_Put.l0 kj9 y167 (([a0_4, a0_5, a0_6, a0_7] : List Int)) 0 a0_0 a0_1 a0_2 a0_3 a0_4 a0_5 a0_6 a0_7 a0_8 a0_9 a0_10 a0_11 a0_12 l0_13 l0_14) = some (r1, r2) := by first | (rw [hy167]; with_reducible exact H) | (have H2_ := (Option.bind_some _ _).symm.trans H; rw [hy167]; with_reducible exact H2_) | (have H2_ := (Option.bind_some _ _).symm.trans H; with_reducible exact H2_) | with_reducible exact H | (rw [hy167]; exact H) | exact H
            have Ny167 := Aside0.mk hy167
            clear hy167
            obtain ⟨y170, hy170⟩ : ∃ y_ : List Int, y_ = (([a0_4, a0_5, a0_6, a0_7] : List Int)) := ⟨_, rfl⟩
            replace H : (fourinhandref07_Put.l0 kj9 y167 y170 0 a0_0 a0_1 a0_2 a0_3 a0_4 a0_5 a0_6 a0_7 a0_8 a0_9 a0_10 a0_11 a0_12 l0_13 l0_14) = some (r1, r2) := by first | (rw [hy170]; with_reducible exact H) | (have H2_ := (Option.bind_some _ _).symm.trans H; rw [hy170]; with_reducible exact H2_) | (have H2_ := (Option.bind_some _ _).symm.trans H; with_reducible exact H2_) | with_reducible exact H | (rw [hy170]; exact H) | exact H
            have Ny170 := Aside0.mk hy170
            clear hy170
            have H' := Aside0.mk H
            clear H
            have hcz13_0 : wc.cell? ⟨gb165, 0, none⟩ = some (.int .i64 a0_0) := (blk_cell BK165.out 0).trans rfl
            have hcz13_1 : wc.cell? ⟨gb165, 1, none⟩ = some (.int .i64 a0_1) := (blk_cell BK165.out 1).trans rfl
            have hcz13_2 : wc.cell? ⟨gb165, 2, none⟩ = some (.bool a0_2) := (blk_cell BK165.out 2).trans rfl
            have hcz13_3 : wc.cell? ⟨gb165, 3, none⟩ = some (.bool a0_3) := (blk_cell BK165.out 3).trans rfl
            have hcz13_4 : wc.cell? ⟨gb165, 4, none⟩ = some (.int .u32 a0_4) := (blk_cell BK165.out 4).trans rfl
            have hcz13_5 : wc.cell? ⟨gb165, 5, none⟩ = some (.int .u32 a0_5) := (blk_cell BK165.out 5).trans rfl
            have hcz13_6 : wc.cell? ⟨gb165, 6, none⟩ = some (.int .u32 a0_6) := (blk_cell BK165.out 6).trans rfl
            have hcz13_7 : wc.cell? ⟨gb165, 7, none⟩ = some (.int .u32 a0_7) := (blk_cell BK165.out 7).trans rfl
            have hcz13_8 : wc.cell? ⟨gb165, 8, none⟩ = some (.int .i64 a0_8) := (blk_cell BK165.out 8).trans rfl
            have hcz13_9 : wc.cell? ⟨gb165, 9, none⟩ = some (.int .i64 a0_9) := (blk_cell BK165.out 9).trans rfl
            have hcz13_10 : wc.cell? ⟨gb165, 10, none⟩ = some (.int .u32 a0_10) := (blk_cell BK165.out 10).trans rfl
            have hcz13_11 : wc.cell? ⟨gb165, 11, none⟩ = some (.int .u32 a0_11) := (blk_cell BK165.out 11).trans rfl
            have hcz13_12 : wc.cell? ⟨gb165, 12, none⟩ = some (.int .u32 a0_12) := (blk_cell BK165.out 12).trans rfl
            have hcz13_13 : wc.cell? ⟨gb165, 13, none⟩ = some (.slice A0_13 l0_13.length c0_13) := (blk_cell BK165.out 13).trans rfl
            have hcz13_14 : wc.cell? ⟨gb165, 14, none⟩ = some (.slice A0_14 l0_14.length c0_14) := (blk_cell BK165.out 14).trans rfl
            have hfz13_0 := blk_frozen BK165.out 0
            have hfz13_1 := blk_frozen BK165.out 1
            have hfz13_2 := blk_frozen BK165.out 2
            have hfz13_3 := blk_frozen BK165.out 3
            have hfz13_4 := blk_frozen BK165.out 4
            have hfz13_5 := blk_frozen BK165.out 5
            have hfz13_6 := blk_frozen BK165.out 6
            have hfz13_7 := blk_frozen BK165.out 7
            have hfz13_8 := blk_frozen BK165.out 8
            have hfz13_9 := blk_frozen BK165.out 9
            have hfz13_10 := blk_frozen BK165.out 10
            have hfz13_11 := blk_frozen BK165.out 11
            have hfz13_12 := blk_frozen BK165.out 12
            have hfz13_13 := blk_frozen BK165.out 13
            have hfz13_14 := blk_frozen BK165.out 14
            go_wp2_with (first | ((with_reducible refine gate_dst (N := 42) rfl ?_); refine Kd.R_lit (Kd.int .u8) _ 5 ?hg (N := 42) ?hd (xs := ([(wrap64 ((wrap64 (16 * a0_0)) + a0_1)) % 256, (x5_9) % 256, (wrap64 (Int.tdiv a0_8 256)) % 256, (Int.tmod a0_8 256) % 256] : List Int)) (inner := [.int .u8 ((wrap64 ((wrap64 (16 * a0_0)) + a0_1)) % 256), .int .u8 ((x5_9) % 256), .int .u8 ((wrap64 (Int.tdiv a0_8 256)) % 256), .int .u8 ((Int.tmod a0_8 256) % 256)]) (ok := fun _ => True) (okp := fun _ => True) ?hr ?hp (fun _ hk => hk) trivial (Below.refl _ _) (Nat.le_refl _) (by simp) ?_; (case hd => rfl); (case hg => rfl); (case hr => first | (go_simp; done) | (go_simp; rfl)); (case hp => exact (Reps.one (show Kd.M (Kd.int .u8) _ _ _ ((wrap64 ((wrap64 (16 * a0_0)) + a0_1)) % 256) [.int .u8 ((wrap64 ((wrap64 (16 * a0_0)) + a0_1)) % 256)] from rfl) (Reps.one (show Kd.M (Kd.int .u8) _ _ _ ((x5_9) % 256) [.int .u8 ((x5_9) % 256)] from rfl) (Reps.one (show Kd.M (Kd.int .u8) _ _ _ ((wrap64 (Int.tdiv a0_8 256)) % 256) [.int .u8 ((wrap64 (Int.tdiv a0_8 256)) % 256)] from rfl) (Reps.one (show Kd.M (Kd.int .u8) _ _ _ ((Int.tmod a0_8 256) % 256) [.int .u8 ((Int.tmod a0_8 256) % 256)] from rfl) (Reps.none _ _)))))); intro v168 w14 ho15 hb hg_ hnew_; clear hg_ hnew_; (first | rw [← Ny167.out] at ho15 | (simp only [Int.reduceToNat] at ho15; rw [← Ny167.out] at ho15)); have n0_ := Aside0.mk (Kd.R_lower ho15 (below_size (by repeat (first | (with_reducible first | exact HB.out | apply below_alloc | apply pw_below_drewN | apply below_drew1 | refine below_set ?_ GE165.out) | exact HB.out)))); have n1_ := Aside0.mk (blk_below (g := gb165) (o := .cells #[.int .i64 a0_0, .int .i64 a0_1, .bool a0_2, .bool a0_3, .int .u32 a0_4, .int .u32 a0_5, .int .u32 a0_6, .int .u32 a0_7, .int .i64 a0_8, .int .i64 a0_9, .int .u32 a0_10, .int .u32 a0_11, .int .u32 a0_12, .slice A0_13 l0_13.length c0_13, .slice A0_14 l0_14.length c0_14] 41 (0, 0)) (by (with_reducible repeat (first | refine blk_drewN ?_ _ | refine blk_drew ?_ | refine blk_alloc ?_ _)); exact BK165.out) hb); have n2_ := Aside0.mk (below_step (by repeat (first | (with_reducible first | exact HB.out | apply below_alloc | apply pw_below_drewN | apply below_drew1 | refine below_set ?_ GE165.out) | exact HB.out)) hb); clear BK165; clear HB; have HO169 := n0_; have BK165 := n1_; have HB := n2_; clear n0_ n1_ n2_; clear hb ho15; have hcz16_0 : w14.cell? ⟨gb165, 0, none⟩ = some (.int .i64 a0_0) := (blk_cell BK165.out 0).trans rfl; have hcz16_1 : w14.cell? ⟨gb165, 1, none⟩ = some (.int .i64 a0_1) := (blk_cell BK165.out 1).trans rfl; have hcz16_2 : w14.cell? ⟨gb165, 2, none⟩ = some (.bool a0_2) := (blk_cell BK165.out 2).trans rfl; have hcz16_3 : w14.cell? ⟨gb165, 3, none⟩ = some (.bool a0_3) := (blk_cell BK165.out 3).trans rfl; have hcz16_4 : w14.cell? ⟨gb165, 4, none⟩ = some (.int .u32 a0_4) := (blk_cell BK165.out 4).trans rfl; have hcz16_5 : w14.cell? ⟨gb165, 5, none⟩ = some (.int .u32 a0_5) := (blk_cell BK165.out 5).trans rfl; have hcz16_6 : w14.cell? ⟨gb165, 6, none⟩ = some (.int .u32 a0_6) := (blk_cell BK165.out 6).trans rfl; have hcz16_7 : w14.cell? ⟨gb165, 7, none⟩ = some (.int .u32 a0_7) := (blk_cell BK165.out 7).trans rfl; have hcz16_8 : w14.cell? ⟨gb165, 8, none⟩ = some (.int .i64 a0_8) := (blk_cell BK165.out 8).trans rfl; have hcz16_9 : w14.cell? ⟨gb165, 9, none⟩ = some (.int .i64 a0_9) := (blk_cell BK165.out 9).trans rfl; have hcz16_10 : w14.cell? ⟨gb165, 10, none⟩ = some (.int .u32 a0_10) := (blk_cell BK165.out 10).trans rfl; have hcz16_11 : w14.cell? ⟨gb165, 11, none⟩ = some (.int .u32 a0_11) := (blk_cell BK165.out 11).trans rfl; have hcz16_12 : w14.cell? ⟨gb165, 12, none⟩ = some (.int .u32 a0_12) := (blk_cell BK165.out 12).trans rfl; have hcz16_13 : w14.cell? ⟨gb165, 13, none⟩ = some (.slice A0_13 l0_13.length c0_13) := (blk_cell BK165.out 13).trans rfl; have hcz16_14 : w14.cell? ⟨gb165, 14, none⟩ = some (.slice A0_14 l0_14.length c0_14) := (blk_cell BK165.out 14).trans rfl; have hfz16_0 := blk_frozen BK165.out 0; have hfz16_1 := blk_frozen BK165.out 1; have hfz16_2 := blk_frozen BK165.out 2; have hfz16_3 := blk_frozen BK165.out 3; have hfz16_4 := blk_frozen BK165.out 4; have hfz16_5 := blk_frozen BK165.out 5; have hfz16_6 := blk_frozen BK165.out 6; have hfz16_7 := blk_frozen BK165.out 7; have hfz16_8 := blk_frozen BK165.out 8; have hfz16_9 := blk_frozen BK165.out 9; have hfz16_10 := blk_frozen BK165.out 10; have hfz16_11 := blk_frozen BK165.out 11; have hfz16_12 := blk_frozen BK165.out 12; have hfz16_13 := blk_frozen BK165.out 13; have hfz16_14 := blk_frozen BK165.out 14) | ((with_reducible refine gate_dst (N := 51) rfl ?_); refine Kd.R_lit (Kd.int .u32) _ 31 ?hg (N := 51) ?hd (xs := ([a0_4, a0_5, a0_6, a0_7] : List Int)) (inner := [.int .u32 a0_4, .int .u32 a0_5, .int .u32 a0_6, .int .u32 a0_7]) (ok := fun _ => True) (okp := fun _ => True) ?hr ?hp (fun _ hk => hk) trivial (Below.refl _ _) (Nat.le_refl _) (by simp) ?_; (case hd => rfl); (case hg => rfl); (case hr => first | (go_simp; done) | (go_simp; rfl)); (case hp => exact (Reps.one (show Kd.M (Kd.int .u32) _ _ _ a0_4 [.int .u32 a0_4] from rfl) (Reps.one (show Kd.M (Kd.int .u32) _ _ _ a0_5 [.int .u32 a0_5] from rfl) (Reps.one (show Kd.M (Kd.int .u32) _ _ _ a0_6 [.int .u32 a0_6] from rfl) (Reps.one (show Kd.M (Kd.int .u32) _ _ _ a0_7 [.int .u32 a0_7] from rfl) (Reps.none _ _)))))); intro v171 w17 ho18 hb hg_ hnew_; clear hg_ hnew_; (first | rw [← Ny170.out] at ho18 | (simp only [Int.reduceToNat] at ho18; rw [← Ny170.out] at ho18)); have n0_ := Aside0.mk (Kd.R_below (by (with_reducible repeat (first | apply Kd.R_alloc | apply Kd.R_drewN | apply Kd.R_drew)); exact HO169.out) hb); have n1_ := Aside0.mk (Kd.R_lower ho18 (below_size (by repeat (first | (with_reducible first | exact HB.out | apply below_alloc | apply pw_below_drewN | apply below_drew1 | refine below_set ?_ GE165.out) | exact HB.out)))); have n2_ := Aside0.mk (blk_below (g := gb165) (o := .cells #[.int .i64 a0_0, .int .i64 a0_1, .bool a0_2, .bool a0_3, .int .u32 a0_4, .int .u32 a0_5, .int .u32 a0_6, .int .u32 a0_7, .int .i64 a0_8, .int .i64 a0_9, .int .u32 a0_10, .int .u32 a0_11, .int .u32 a0_12, .slice A0_13 l0_13.length c0_13, .slice A0_14 l0_14.length c0_14] 41 (0, 0)) (by (with_reducible repeat (first | refine blk_drewN ?_ _ | refine blk_drew ?_ | refine blk_alloc ?_ _)); exact BK165.out) hb); have n3_ := Aside0.mk (below_step (by repeat (first | (with_reducible first | exact HB.out | apply below_alloc | apply pw_below_drewN | apply below_drew1 | refine below_set ?_ GE165.out) | exact HB.out)) hb); clear HO169; clear BK165; clear HB; have HO169 := n0_; have HO172 := n1_; have BK165 := n2_; have HB := n3_; clear n0_ n1_ n2_ n3_; clear hb ho18))
            go_loopg [6, 8] kj9 (fun kq v6 v8 w' => ∃ (x6_3 : List Int) (x8_3 : Int), v8 = .int .i64 x8_3 ∧ Aside0 (fourinhandref07_Put.l0 kq x6_3 y170 x8_3 a0_0 a0_1 a0_2 a0_3 a0_4 a0_5 a0_6 a0_7 a0_8 a0_9 a0_10 a0_11 a0_12 l0_13 l0_14 = some (r1, r2)) ∧ Aside0 (kq ≤ kj9) ∧ Aside0 (Kd.R (Kd.int .u8) 5 w' w.heap.size (fun _ => True) v6 x6_3) ∧ Aside0 (Kd.R (Kd.int .u32) 31 w' w.heap.size (fun _ => True) v171 y170) ∧ Aside0 (w'.heap[gb165]? = some (.cells #[.int .i64 a0_0, .int .i64 a0_1, .bool a0_2, .bool a0_3, .int .u32 a0_4, .int .u32 a0_5, .int .u32 a0_6, .int .u32 a0_7, .int .i64 a0_8, .int .i64 a0_9, .int .u32 a0_10, .int .u32 a0_11, .int .u32 a0_12, (.slice A0_13 l0_13.length c0_13), (.slice A0_14 l0_14.length c0_14)] 41 (0, 0))) ∧ Aside0 (Below w.heap.size w w'))
            case atStart => exact ⟨(y167), (0), (by first | rfl | (simp; done) | (simp [*]; done)), H', ⟨Nat.le_refl _⟩, ⟨by (with_reducible repeat (first | apply Kd.R_alloc | apply Kd.R_drewN | apply Kd.R_drew)); exact HO169.out⟩, ⟨by (with_reducible repeat (first | apply Kd.R_alloc | apply Kd.R_drewN | apply Kd.R_drew)); exact HO172.out⟩, ⟨by (with_reducible repeat (first | refine blk_drewN ?_ _ | refine blk_drew ?_ | refine blk_alloc ?_ _)); exact BK165.out⟩, ⟨by repeat (first | (with_reducible first | exact HB.out | apply below_alloc | apply pw_below_drewN | apply below_drew1 | refine below_set ?_ GE165.out) | exact HB.out)⟩⟩
            case round =>
              clear H'
              try clear c1
              try clear c2
              try clear p2
              try clear c3
              try clear p6
              try clear c9
              try clear c12
              try clear hcz11_0
              try clear hcz11_1
              try clear hcz11_10
              try clear hcz11_11
              try clear hcz11_12
              try clear hcz11_13
              try clear hcz11_14
              try clear hcz11_2
              try clear hcz11_3
              try clear hcz11_4
              try clear hcz11_5
              try clear hcz11_6
              try clear hcz11_7
              try clear hcz11_8
              try clear hcz11_9
              try clear hcz13_0
              try clear hcz13_1
              try clear hcz13_10
              try clear hcz13_11
              try clear hcz13_12
              try clear hcz13_13
              try clear hcz13_14
              try clear hcz13_2
              try clear hcz13_3
              try clear hcz13_4
              try clear hcz13_5
              try clear hcz13_6
              try clear hcz13_7
              try clear hcz13_8
              try clear hcz13_9
              try clear hcz16_0
              try clear hcz16_1
              try clear hcz16_10
              try clear hcz16_11
              try clear hcz16_12
              try clear hcz16_13
              try clear hcz16_14
              try clear hcz16_2
              try clear hcz16_3
              try clear hcz16_4
              try clear hcz16_5
              try clear hcz16_6
              try clear hcz16_7
              try clear hcz16_8
              try clear hcz16_9
              try clear hcz6_0
              try clear hcz6_1
              try clear hcz6_10
              try clear hcz6_11
              try clear hcz6_12
              try clear hcz6_13
              try clear hcz6_14
              try clear hcz6_2
              try clear hcz6_3
              try clear hcz6_4
              try clear hcz6_5
              try clear hcz6_6
              try clear hcz6_7
              try clear hcz6_8
              try clear hcz6_9
              try clear hcz8_0
              try clear hcz8_1
              try clear hcz8_10
              try clear hcz8_11
              try clear hcz8_12
              try clear hcz8_13
              try clear hcz8_14
              try clear hcz8_2
              try clear hcz8_3
              try clear hcz8_4
              try clear hcz8_5
              try clear hcz8_6
              try clear hcz8_7
              try clear hcz8_8
              try clear hcz8_9
              try clear hfz11_0
              try clear hfz11_1
              try clear hfz11_10
              try clear hfz11_11
              try clear hfz11_12
              try clear hfz11_13
              try clear hfz11_14
              try clear hfz11_2
              try clear hfz11_3
              try clear hfz11_4
              try clear hfz11_5
              try clear hfz11_6
              try clear hfz11_7
              try clear hfz11_8
              try clear hfz11_9
              try clear hfz13_0
              try clear hfz13_1
              try clear hfz13_10
              try clear hfz13_11
              try clear hfz13_12
              try clear hfz13_13
              try clear hfz13_14
              try clear hfz13_2
              try clear hfz13_3
              try clear hfz13_4
              try clear hfz13_5
              try clear hfz13_6
              try clear hfz13_7
              try clear hfz13_8
              try clear hfz13_9
              try clear hfz16_0
              try clear hfz16_1
              try clear hfz16_10
              try clear hfz16_11
              try clear hfz16_12
              try clear hfz16_13
              try clear hfz16_14
              try clear hfz16_2
              try clear hfz16_3
              try clear hfz16_4
              try clear hfz16_5
              try clear hfz16_6
              try clear hfz16_7
              try clear hfz16_8
              try clear hfz16_9
              try clear hfz6_0
              try clear hfz6_1
              try clear hfz6_10
              try clear hfz6_11
              try clear hfz6_12
              try clear hfz6_13
              try clear hfz6_14
              try clear hfz6_2
              try clear hfz6_3
              try clear hfz6_4
              try clear hfz6_5
              try clear hfz6_6
              try clear hfz6_7
              try clear hfz6_8
              try clear hfz6_9
              try clear hfz8_0
              try clear hfz8_1
              try clear hfz8_10
              try clear hfz8_11
              try clear hfz8_12
              try clear hfz8_13
              try clear hfz8_14
              try clear hfz8_2
              try clear hfz8_3
              try clear hfz8_4
              try clear hfz8_5
              try clear hfz8_6
              try clear hfz8_7
              try clear hfz8_8
              try clear hfz8_9
              try clear p2
              try clear p6
              obtain ⟨x6_3, x8_3, rfl, HA, HK3, HO_6, HO_7, BK165, HB⟩ := hrel
              cases gk with
              | zero => exact absurd HA.out (by simp [fourinhandref07_Put.l0])
              | succ k3 =>
                have H := HA.out
                clear HA
                simp only [fourinhandref07_Put.l0] at H
                by_cases c19 : x8_3 < 4
                · rw [if_pos c19] at H
                  have c19b0 : decide (x8_3 < 4) = true := decide_eq_true c19
                  clear c19
                  by_cases c20 : 0 ≤ x8_3
                  · rw [if_pos c20] at H
                    have c20b0 : decide (0 ≤ x8_3) = true := decide_eq_true c20
                    clear c20
                    by_cases c21 : x8_3 < (y170.length : Int)
                    · rw [if_pos c21] at H
                      have c21b0 : decide (x8_3 < (y170.length : Int)) = true := decide_eq_true c21
                      clear c21
                      replace H := Option.bind_eq_some_iff.mp H
                      obtain ⟨t174, A220, H⟩ := H
                      replace H : (if x6_3.length + t174.length < 140737488355328 then (fourinhandref07_Put.l0 k3 (x6_3 ++ t174) y170 (wrap64 (x8_3 + 1)) a0_0 a0_1 a0_2 a0_3 a0_4 a0_5 a0_6 a0_7 a0_8 a0_9 a0_10 a0_11 a0_12 l0_13 l0_14) else (none)) = some (r1, r2) := H
                      have A22 := Aside0.mk A220
                      clear A220
                      by_cases c23 : x6_3.length + t174.length < 140737488355328
                      · rw [if_pos c23] at H
                        have LMc23 := Aside0.mk c23
                        clear c23
                        obtain ⟨y177, hy177⟩ : ∃ y_ : List Int, y_ = (x6_3 ++ t174) := ⟨_, rfl⟩
                        replace H : (fourinhandref07_Put.l0 k3 y177 y170 (wrap64 (x8_3 + 1)) a0_0 a0_1 a0_2 a0_3 a0_4 a0_5 a0_6 a0_7 a0_8 a0_9 a0_10 a0_11 a0_12 l0_13 l0_14) = some (r1, r2) := by first | (rw [hy177]; with_reducible exact H) | (have H2_ := (Option.bind_some _ _).symm.trans H; rw [hy177]; with_reducible exact H2_) | (have H2_ := (Option.bind_some _ _).symm.trans H; with_reducible exact H2_) | with_reducible exact H | (rw [hy177]; exact H) | exact H
                        have Ny177 := Aside0.mk hy177
                        clear hy177
                        have H' := Aside0.mk H
                        clear H
                        obtain ⟨Ao24, co24, eo24⟩ := Kd.R_slice HO_7.out
                        subst eo24
                        have p173 : 0 ≤ (x8_3 : Int) := of_decide_eq_true (by first | (with_reducible assumption) | assumption)
                        have q173 : x8_3 < (y170.length : Int) := of_decide_eq_true (by first | (with_reducible assumption) | assumption)
                        obtain ⟨ad173, e173, hx173_0⟩ := Kd.at_int (Kd.R_reads' HO_7.out).2.2 x8_3 p173 q173
                        cases e173
                        replace p173 := eq_true p173
                        replace q173 := eq_true q173
                        go_wp2_with (first | ((with_reducible refine gate_callee (f := 36) rfl ?_); refine goesL_ (some 62) rfl rfl Try.func36 (by kernel_rfl) rfl #[.int .i64 (wrap64 (rd y170 x8_3))] rfl (by (try simp only [List.map_toArray, List.map_cons, List.map_nil]); first | done | rfl | (simp only [List.length_drop, List.length_take]; rfl)) ?_; (with_reducible refine (fourinhandref03_Four.calls (wrap64 (rd y170 x8_3)) t174 _ A22.out).mono ?_); rintro e w25 ⟨v175, rfl, ho0, hb⟩; refine ⟨_, rfl, ?_⟩; have n0_ := Aside0.mk (Kd.R_elder' (by (with_reducible repeat (first | apply Kd.R_alloc | apply Kd.R_drewN | apply Kd.R_drew)); exact HO_6.out) (Kd.R_base ho0) hb); have n1_ := Aside0.mk (Kd.R_below (by (with_reducible repeat (first | apply Kd.R_alloc | apply Kd.R_drewN | apply Kd.R_drew)); exact HO_7.out) hb); have n2_ := Aside0.mk (Kd.R_lower (Kd.R_new' ho0 (Kd.R_lt (by (with_reducible repeat (first | apply Kd.R_alloc | apply Kd.R_drewN | apply Kd.R_drew)); exact HO_6.out))) (below_size (by repeat (first | (with_reducible first | exact HB.out | apply below_alloc | apply pw_below_drewN | apply below_drew1 | refine below_set ?_ GE165.out) | exact HB.out)))); have n3_ := Aside0.mk (blk_below (g := gb165) (o := .cells #[.int .i64 a0_0, .int .i64 a0_1, .bool a0_2, .bool a0_3, .int .u32 a0_4, .int .u32 a0_5, .int .u32 a0_6, .int .u32 a0_7, .int .i64 a0_8, .int .i64 a0_9, .int .u32 a0_10, .int .u32 a0_11, .int .u32 a0_12, .slice A0_13 l0_13.length c0_13, .slice A0_14 l0_14.length c0_14] 41 (0, 0)) (by (with_reducible repeat (first | refine blk_drewN ?_ _ | refine blk_drew ?_ | refine blk_alloc ?_ _)); exact BK165.out) hb); have n4_ := Aside0.mk (below_step (by repeat (first | (with_reducible first | exact HB.out | apply below_alloc | apply pw_below_drewN | apply below_drew1 | refine below_set ?_ GE165.out) | exact HB.out)) hb); clear HO_6; clear HO_7; clear BK165; clear HB; have HO_6 := n0_; have HO_7 := n1_; have HO176 := n2_; have BK165 := n3_; have HB := n4_; clear n0_ n1_ n2_ n3_ n4_; (try clear hb); (try clear hb2); (try clear hk); (try clear hi); (try clear ho0); obtain ⟨Ao27, co27, eo27⟩ := Kd.R_slice HO176.out; subst eo27) | ((with_reducible refine gate_builtin (b := .append) (xs := #[.tmp 56, .tmp 62]) rfl ?_); at_builtin; refine Kd.R_append_rows (Kd.int .u8) (w0 := w) w.heap.size rfl (.tmp 56) (.tmp 62) 23 5 (.int .u8 0) 1 rfl Try.underlying23 info5 rfl (by decide) (by omega) u6 x6_3 t174 _ _ _ (fun k_ => some k_ ≠ (.slice Ao27 t174.length co27 : Value).ownBlock) (fun _ => False) rfl rfl ?aO ?aR (fun _ _ h => h) (fun _ h => h.elim) ?aF ?aB ?aS ?aL ?_; (case aR => repeat (first | exact (Kd.R_reads' HO176.out).2.2 | (with_reducible refine Kd.C_alloc ?_ _) | (with_reducible refine Kd.C_drewN ?_ _) | (with_reducible refine Kd.C_drew ?_))); (case aB => exact (by repeat (first | (with_reducible first | exact HB.out | apply below_alloc | apply pw_below_drewN | apply below_drew1 | refine below_set ?_ GE165.out) | exact HB.out))); (case aF => exact (fun k_ hk => Kd.fresh' (Kd.R_lt (by (with_reducible repeat (first | apply Kd.R_alloc | apply Kd.R_drewN | apply Kd.R_drew)); exact HO176.out)) k_ hk)); (case aO => exact (by (with_reducible repeat (first | apply Kd.R_alloc | apply Kd.R_drewN | apply Kd.R_drew)); exact Kd.R_mono HO_6.out (fun _ hk => hk.2))); (case aS => exact (below_size (by repeat (first | (with_reducible first | exact HB.out | apply below_alloc | apply pw_below_drewN | apply below_drew1 | refine below_set ?_ GE165.out) | exact HB.out)))); (case aL => have := LMc23.out; omega); intro v178 w26 ho hb hg hat; rw [← Ny177.out] at ho; have n0_ := Aside0.mk (Kd.R_over' (by (with_reducible repeat (first | apply Kd.R_alloc | apply Kd.R_drewN | apply Kd.R_drew)); exact HO_7.out) (Kd.R_typed (by (with_reducible repeat (first | apply Kd.R_alloc | apply Kd.R_drewN | apply Kd.R_drew)); exact HO_6.out)) (by decide) hg); have n1_ := Aside0.mk (blk_grown (g := gb165) (o := .cells #[.int .i64 a0_0, .int .i64 a0_1, .bool a0_2, .bool a0_3, .int .u32 a0_4, .int .u32 a0_5, .int .u32 a0_6, .int .u32 a0_7, .int .i64 a0_8, .int .i64 a0_9, .int .u32 a0_10, .int .u32 a0_11, .int .u32 a0_12, .slice A0_13 l0_13.length c0_13, .slice A0_14 l0_14.length c0_14] 41 (0, 0)) (by (with_reducible repeat (first | refine blk_drewN ?_ _ | refine blk_drew ?_ | refine blk_alloc ?_ _)); exact BK165.out) hg (Kd.R_ne HO_6.out BK165.out (by decide))); have n2_ := Aside0.mk (Kd.R_after (ok := (fun _ => True)) (by (with_reducible repeat (first | apply Kd.R_alloc | apply Kd.R_drewN | apply Kd.R_drew)); exact HO176.out) hg hat); have n3_ := Aside0.mk (hb); have n4_ := Aside0.mk (ho); clear HO_7; clear BK165; clear HO176; clear HB; clear HO_6; have HO_7 := n0_; have BK165 := n1_; have HO176 := n2_; have HB := n3_; have HO179 := n4_; clear n0_ n1_ n2_ n3_ n4_; clear ho hb hg hat))
                        go_roundg k3
                        case measure => have := HJ3.out; have := HJ9.out; have := HK3.out; omega
                        case rel => exact ⟨(y177), (wrap64 (x8_3 + 1)), (by first | rfl | (simp; done) | (simp [*]; done)), H', ⟨by have := HJ3.out; have := HJ9.out; have := HK3.out; omega⟩, ⟨by (with_reducible repeat (first | apply Kd.R_alloc | apply Kd.R_drewN | apply Kd.R_drew)); exact Kd.R_mono HO179.out (fun _ hk => trivial)⟩, ⟨by (with_reducible repeat (first | apply Kd.R_alloc | apply Kd.R_drewN | apply Kd.R_drew)); exact HO_7.out⟩, ⟨by (with_reducible repeat (first | refine blk_drewN ?_ _ | refine blk_drew ?_ | refine blk_alloc ?_ _)); exact BK165.out⟩, ⟨by repeat (first | (with_reducible first | exact HB.out | apply below_alloc | apply pw_below_drewN | apply below_drew1 | refine below_set ?_ GE165.out) | exact HB.out)⟩⟩
                      · rw [if_neg c23] at H
                        exact absurd H (by simp)
                    · rw [if_neg c21] at H
                      exact absurd H (by simp)
                  · rw [if_neg c20] at H
                    exact absurd H (by simp)
                · rw [if_neg c19] at H
                  have c19b0 : decide (x8_3 < 4) = false := decide_eq_false c19
                  clear c19
                  replace H := Option.bind_eq_some_iff.mp H
                  obtain ⟨t180, A280, H⟩ := H
                  replace H : (if 1 ≤ (t180.length : Int) then ((some (t180.drop 1 : List Int)).bind fun y183 => (if x6_3.length + y183.length < 140737488355328 then ((some (x6_3 ++ y183 : List Int)).bind fun y187 => ((fourinhandref03_Four.f (wrap64 (a0_11))).bind fun t190 => (if y187.length + t190.length < 140737488355328 then ((some (y187 ++ t190 : List Int)).bind fun y193 => ((fourinhandref03_Four.f (wrap64 (a0_12))).bind fun t196 => (if y193.length + t196.length < 140737488355328 then ((some (y193 ++ t196 : List Int)).bind fun y199 => (if y199.length < 140737488355328 then (fourinhandref07_Put.l1 k3 (y199 ++ [((l0_13.length : Int)) % 256]) 0 a0_0 a0_1 a0_2 a0_3 a0_4 a0_5 a0_6 a0_7 a0_8 a0_9 a0_10 a0_11 a0_12 l0_13 l0_14) else (none))) else (none)))) else (none)))) else (none))) else (none)) = some (r1, r2) := H
                  have A28 := Aside0.mk A280
                  clear A280
                  by_cases c29 : 1 ≤ (t180.length : Int)
                  · rw [if_pos c29] at H
                    have c29b0 := eq_true c29
                    have c29b1 : decide (1 ≤ (t180.length : Int)) = true := decide_eq_true c29
                    clear c29
                    obtain ⟨y183, hy183⟩ : ∃ y_ : List Int, y_ = (t180.drop 1) := ⟨_, rfl⟩
                    replace H : (if x6_3.length + y183.length < 140737488355328 then ((some (x6_3 ++ y183 : List Int)).bind fun y187 => ((fourinhandref03_Four.f (wrap64 (a0_11))).bind fun t190 => (if y187.length + t190.length < 140737488355328 then ((some (y187 ++ t190 : List Int)).bind fun y193 => ((fourinhandref03_Four.f (wrap64 (a0_12))).bind fun t196 => (if y193.length + t196.length < 140737488355328 then ((some (y193 ++ t196 : List Int)).bind fun y199 => (if y199.length < 140737488355328 then (fourinhandref07_Put.l1 k3 (y199 ++ [((l0_13.length : Int)) % 256]) 0 a0_0 a0_1 a0_2 a0_3 a0_4 a0_5 a0_6 a0_7 a0_8 a0_9 a0_10 a0_11 a0_12 l0_13 l0_14) else (none))) else (none)))) else (none)))) else (none)) = some (r1, r2) := by first | (rw [hy183]; with_reducible exact H) | (have H2_ := (Option.bind_some _ _).symm.trans H; rw [hy183]; with_reducible exact H2_) | (have H2_ := (Option.bind_some _ _).symm.trans H; with_reducible exact H2_) | with_reducible exact H | (rw [hy183]; exact H) | exact H
                    have Ny183 := Aside0.mk hy183
                    clear hy183
                    by_cases c30 : x6_3.length + y183.length < 140737488355328
                    · rw [if_pos c30] at H
                      have LMc30 := Aside0.mk c30
                      clear c30
                      obtain ⟨y187, hy187⟩ : ∃ y_ : List Int, y_ = (x6_3 ++ y183) := ⟨_, rfl⟩
                      replace H : ((fourinhandref03_Four.f (wrap64 (a0_11))).bind fun t190 => (if y187.length + t190.length < 140737488355328 then ((some (y187 ++ t190 : List Int)).bind fun y193 => ((fourinhandref03_Four.f (wrap64 (a0_12))).bind fun t196 => (if y193.length + t196.length < 140737488355328 then ((some (y193 ++ t196 : List Int)).bind fun y199 => (if y199.length < 140737488355328 then (fourinhandref07_Put.l1 k3 (y199 ++ [((l0_13.length : Int)) % 256]) 0 a0_0 a0_1 a0_2 a0_3 a0_4 a0_5 a0_6 a0_7 a0_8 a0_9 a0_10 a0_11 a0_12 l0_13 l0_14) else (none))) else (none)))) else (none))) = some (r1, r2) := by first | (rw [hy187]; with_reducible exact H) | (have H2_ := (Option.bind_some _ _).symm.trans H; rw [hy187]; with_reducible exact H2_) | (have H2_ := (Option.bind_some _ _).symm.trans H; with_reducible exact H2_) | with_reducible exact H | (rw [hy187]; exact H) | exact H
                      have Ny187 := Aside0.mk hy187
                      clear hy187
                      replace H := Option.bind_eq_some_iff.mp H
                      obtain ⟨t190, A310, H⟩ := H
                      replace H : (if y187.length + t190.length < 140737488355328 then ((some (y187 ++ t190 : List Int)).bind fun y193 => ((fourinhandref03_Four.f (wrap64 (a0_12))).bind fun t196 => (if y193.length + t196.length < 140737488355328 then ((some (y193 ++ t196 : List Int)).bind fun y199 => (if y199.length < 140737488355328 then (fourinhandref07_Put.l1 k3 (y199 ++ [((l0_13.length : Int)) % 256]) 0 a0_0 a0_1 a0_2 a0_3 a0_4 a0_5 a0_6 a0_7 a0_8 a0_9 a0_10 a0_11 a0_12 l0_13 l0_14) else (none))) else (none)))) else (none)) = some (r1, r2) := H
                      have A31 := Aside0.mk A310
                      clear A310
                      by_cases c32 : y187.length + t190.length < 140737488355328
                      · rw [if_pos c32] at H
                        have LMc32 := Aside0.mk c32
                        clear c32
                        obtain ⟨y193, hy193⟩ : ∃ y_ : List Int, y_ = (y187 ++ t190) := ⟨_, rfl⟩
                        replace H : ((fourinhandref03_Four.f (wrap64 (a0_12))).bind fun t196 => (if y193.length + t196.length < 140737488355328 then ((some (y193 ++ t196 : List Int)).bind fun y199 => (if y199.length < 140737488355328 then (fourinhandref07_Put.l1 k3 (y199 ++ [((l0_13.length : Int)) % 256]) 0 a0_0 a0_1 a0_2 a0_3 a0_4 a0_5 a0_6 a0_7 a0_8 a0_9 a0_10 a0_11 a0_12 l0_13 l0_14) else (none))) else (none))) = some (r1, r2) := by first | (rw [hy193]; with_reducible exact H) | (have H2_ := (Option.bind_some _ _).symm.trans H; rw [hy193]; with_reducible exact H2_) | (have H2_ := (Option.bind_some _ _).symm.trans H; with_reducible exact H2_) | with_reducible exact H | (rw [hy193]; exact H) | exact H
                        have Ny193 := Aside0.mk hy193
                        clear hy193
                        replace H := Option.bind_eq_some_iff.mp H
                        obtain ⟨t196, A330, H⟩ := H
                        replace H : (if y193.length + t196.length < 140737488355328 then ((some (y193 ++ t196 : List Int)).bind fun y199 => (if y199.length < 140737488355328 then (fourinhandref07_Put.l1 k3 (y199 ++ [((l0_13.length : Int)) % 256]) 0 a0_0 a0_1 a0_2 a0_3 a0_4 a0_5 a0_6 a0_7 a0_8 a0_9 a0_10 a0_11 a0_12 l0_13 l0_14) else (none))) else (none)) = some (r1, r2) := H
                        have A33 := Aside0.mk A330
                        clear A330
                        by_cases c34 : y193.length + t196.length < 140737488355328
                        · rw [if_pos c34] at H
                          have LMc34 := Aside0.mk c34
                          clear c34
                          obtain ⟨y199, hy199⟩ : ∃ y_ : List Int, y_ = (y193 ++ t196) := ⟨_, rfl⟩
                          replace H : (if y199.length < 140737488355328 then (fourinhandref07_Put.l1 k3 (y199 ++ [((l0_13.length : Int)) % 256]) 0 a0_0 a0_1 a0_2 a0_3 a0_4 a0_5 a0_6 a0_7 a0_8 a0_9 a0_10 a0_11 a0_12 l0_13 l0_14) else (none)) = some (r1, r2) := by first | (rw [hy199]; with_reducible exact H) | (have H2_ := (Option.bind_some _ _).symm.trans H; rw [hy199]; with_reducible exact H2_) | (have H2_ := (Option.bind_some _ _).symm.trans H; with_reducible exact H2_) | with_reducible exact H | (rw [hy199]; exact H) | exact H
                          have Ny199 := Aside0.mk hy199
                          clear hy199
                          by_cases c35 : y199.length < 140737488355328
                          · rw [if_pos c35] at H
                            have LMc35 := Aside0.mk c35
                            clear c35
                            obtain ⟨y202, hy202⟩ : ∃ y_ : List Int, y_ = (y199 ++ [((l0_13.length : Int)) % 256]) := ⟨_, rfl⟩
                            replace H : (fourinhandref07_Put.l1 k3 y202 0 a0_0 a0_1 a0_2 a0_3 a0_4 a0_5 a0_6 a0_7 a0_8 a0_9 a0_10 a0_11 a0_12 l0_13 l0_14) = some (r1, r2) := by first | (rw [hy202]; with_reducible exact H) | (have H2_ := (Option.bind_some _ _).symm.trans H; rw [hy202]; with_reducible exact H2_) | (have H2_ := (Option.bind_some _ _).symm.trans H; with_reducible exact H2_) | with_reducible exact H | (rw [hy202]; exact H) | exact H
                            have Ny202 := Aside0.mk hy202
                            clear hy202
                            have H' := Aside0.mk H
                            clear H
                            have hcz36_0 : wr.cell? ⟨gb165, 0, none⟩ = some (.int .i64 a0_0) := (blk_cell BK165.out 0).trans rfl
                            have hcz36_1 : wr.cell? ⟨gb165, 1, none⟩ = some (.int .i64 a0_1) := (blk_cell BK165.out 1).trans rfl
                            have hcz36_2 : wr.cell? ⟨gb165, 2, none⟩ = some (.bool a0_2) := (blk_cell BK165.out 2).trans rfl
                            have hcz36_3 : wr.cell? ⟨gb165, 3, none⟩ = some (.bool a0_3) := (blk_cell BK165.out 3).trans rfl
                            have hcz36_4 : wr.cell? ⟨gb165, 4, none⟩ = some (.int .u32 a0_4) := (blk_cell BK165.out 4).trans rfl
                            have hcz36_5 : wr.cell? ⟨gb165, 5, none⟩ = some (.int .u32 a0_5) := (blk_cell BK165.out 5).trans rfl
                            have hcz36_6 : wr.cell? ⟨gb165, 6, none⟩ = some (.int .u32 a0_6) := (blk_cell BK165.out 6).trans rfl
                            have hcz36_7 : wr.cell? ⟨gb165, 7, none⟩ = some (.int .u32 a0_7) := (blk_cell BK165.out 7).trans rfl
                            have hcz36_8 : wr.cell? ⟨gb165, 8, none⟩ = some (.int .i64 a0_8) := (blk_cell BK165.out 8).trans rfl
                            have hcz36_9 : wr.cell? ⟨gb165, 9, none⟩ = some (.int .i64 a0_9) := (blk_cell BK165.out 9).trans rfl
                            have hcz36_10 : wr.cell? ⟨gb165, 10, none⟩ = some (.int .u32 a0_10) := (blk_cell BK165.out 10).trans rfl
                            have hcz36_11 : wr.cell? ⟨gb165, 11, none⟩ = some (.int .u32 a0_11) := (blk_cell BK165.out 11).trans rfl
                            have hcz36_12 : wr.cell? ⟨gb165, 12, none⟩ = some (.int .u32 a0_12) := (blk_cell BK165.out 12).trans rfl
                            have hcz36_13 : wr.cell? ⟨gb165, 13, none⟩ = some (.slice A0_13 l0_13.length c0_13) := (blk_cell BK165.out 13).trans rfl
                            have hcz36_14 : wr.cell? ⟨gb165, 14, none⟩ = some (.slice A0_14 l0_14.length c0_14) := (blk_cell BK165.out 14).trans rfl
                            have hfz36_0 := blk_frozen BK165.out 0
                            have hfz36_1 := blk_frozen BK165.out 1
                            have hfz36_2 := blk_frozen BK165.out 2
                            have hfz36_3 := blk_frozen BK165.out 3
                            have hfz36_4 := blk_frozen BK165.out 4
                            have hfz36_5 := blk_frozen BK165.out 5
                            have hfz36_6 := blk_frozen BK165.out 6
                            have hfz36_7 := blk_frozen BK165.out 7
                            have hfz36_8 := blk_frozen BK165.out 8
                            have hfz36_9 := blk_frozen BK165.out 9
                            have hfz36_10 := blk_frozen BK165.out 10
                            have hfz36_11 := blk_frozen BK165.out 11
                            have hfz36_12 := blk_frozen BK165.out 12
                            have hfz36_13 := blk_frozen BK165.out 13
                            have hfz36_14 := blk_frozen BK165.out 14
                            go_wp2_with (first | ((with_reducible refine gate_callee (f := 36) rfl ?_); refine goesL_ (some 68) rfl rfl Try.func36 (by kernel_rfl) rfl #[.int .i64 (wrap64 (a0_10))] rfl (by (try simp only [List.map_toArray, List.map_cons, List.map_nil]); first | done | rfl | (simp only [List.length_drop, List.length_take]; rfl)) ?_; (with_reducible refine (fourinhandref03_Four.calls (wrap64 (a0_10)) t180 _ A28.out).mono ?_); rintro e w37 ⟨v181, rfl, ho0, hb⟩; refine ⟨_, rfl, ?_⟩; have n0_ := Aside0.mk (Kd.R_elder' (by (with_reducible repeat (first | apply Kd.R_alloc | apply Kd.R_drewN | apply Kd.R_drew)); exact HO_6.out) (Kd.R_base ho0) hb); have n1_ := Aside0.mk (Kd.R_below (by (with_reducible repeat (first | apply Kd.R_alloc | apply Kd.R_drewN | apply Kd.R_drew)); exact HO_7.out) hb); have n2_ := Aside0.mk (Kd.R_lower (Kd.R_new' ho0 (Kd.R_lt (by (with_reducible repeat (first | apply Kd.R_alloc | apply Kd.R_drewN | apply Kd.R_drew)); exact HO_6.out))) (below_size (by repeat (first | (with_reducible first | exact HB.out | apply below_alloc | apply pw_below_drewN | apply below_drew1 | refine below_set ?_ GE165.out) | exact HB.out)))); have n3_ := Aside0.mk (blk_below (g := gb165) (o := .cells #[.int .i64 a0_0, .int .i64 a0_1, .bool a0_2, .bool a0_3, .int .u32 a0_4, .int .u32 a0_5, .int .u32 a0_6, .int .u32 a0_7, .int .i64 a0_8, .int .i64 a0_9, .int .u32 a0_10, .int .u32 a0_11, .int .u32 a0_12, .slice A0_13 l0_13.length c0_13, .slice A0_14 l0_14.length c0_14] 41 (0, 0)) (by (with_reducible repeat (first | refine blk_drewN ?_ _ | refine blk_drew ?_ | refine blk_alloc ?_ _)); exact BK165.out) hb); have n4_ := Aside0.mk (below_step (by repeat (first | (with_reducible first | exact HB.out | apply below_alloc | apply pw_below_drewN | apply below_drew1 | refine below_set ?_ GE165.out) | exact HB.out)) hb); clear HO_6; clear HO_7; clear BK165; clear HB; have HO_6 := n0_; have HO_7 := n1_; have HO182 := n2_; have BK165 := n3_; have HB := n4_; clear n0_ n1_ n2_ n3_ n4_; (try clear hb); (try clear hb2); (try clear hk); (try clear hi); (try clear ho0); obtain ⟨Ao39, co39, eo39⟩ := Kd.R_slice HO182.out; subst eo39; have q38 : (1 : Int) ≤ ((t180.length : Int) : Int) := of_decide_eq_true (by first | (with_reducible assumption) | assumption); obtain ⟨i038, hi038, _, hsz38, _⟩ := info_parts info5; have hroom38 : t180.length ≤ co39 := (Kd.R_reads' HO182.out).2.1; have hC38 : Kd.C (Kd.int .u8) _ Ao39 t180.length t180 := (Kd.R_reads' HO182.out).2.2; have hcut38 := cut_from (P := Try.prog) 23 5 .i64 Try.underlying23 hi038 1 hsz38 Ao39 t180.length co39 1 (by omega) q38; have hr38 := Kd.C_drop (m := (1 : Int).toNat) (c := co39) hC38 (by omega) hroom38; obtain ⟨A38, hA38⟩ : ∃ A1, A1 = (if co39 = (1 : Int).toNat then Ao39 else (Ao39 : Option Addr).map (·.add ((1 : Int).toNat * 1))) := ⟨_, rfl⟩; obtain ⟨c38, hc38⟩ : ∃ c1, c1 = co39 - (1 : Int).toNat := ⟨_, rfl⟩; have hy38 : y183.length = t180.length - (1 : Int).toNat := (by rw [Ny183.out, List.length_drop] <;> omega); rw [show (t180).drop (1 : Int).toNat = y183 from Ny183.out.symm] at hr38; replace hr38 : Kd.C (Kd.int .u8) _ A38 y183.length y183 := (by rw [hA38]; exact hr38); rw [← hy38, ← hA38, ← hc38] at hcut38; have HR186 := Aside0.mk hr38; have HC186 := Aside0.mk (show y183.length ≤ c38 from by rw [hy38, hc38]; exact Nat.sub_le_sub_right hroom38 _); clear hr38 hC38 hroom38 hi038 hsz38 hc38; have KY38 := Aside0.mk hy38; have KA38 := Aside0.mk hA38; clear hy38 hA38; have KL38 := Aside0.mk (show 1 ≤ t180.length from by omega); replace q38 := eq_true q38) | ((with_reducible refine gate_builtin (b := .append) (xs := #[.tmp 64, .tmp 69]) rfl ?_); at_builtin; refine Kd.R_append_rows (Kd.int .u8) (w0 := w) w.heap.size rfl (.tmp 64) (.tmp 69) 23 5 (.int .u8 0) 1 rfl Try.underlying23 info5 rfl (by decide) (by omega) u6 x6_3 y183 _ _ _ (fun k_ => some k_ ≠ (.slice Ao39 t180.length co39 : Value).ownBlock) (fun _ => False) rfl rfl ?aO ?aR (fun _ _ h => h) (fun _ h => h.elim) ?aF ?aB ?aS ?aL ?_; (case aR => repeat (first | exact (by repeat (first | (with_reducible exact HR186.out) | (with_reducible refine Kd.C_alloc ?_ _) | (with_reducible refine Kd.C_drewN ?_ _) | (with_reducible refine Kd.C_drew ?_) | exact HR186.out)) | (with_reducible refine Kd.C_alloc ?_ _) | (with_reducible refine Kd.C_drewN ?_ _) | (with_reducible refine Kd.C_drew ?_))); (case aB => exact (by repeat (first | (with_reducible first | exact HB.out | apply below_alloc | apply pw_below_drewN | apply below_drew1 | refine below_set ?_ GE165.out) | exact HB.out))); (case aF => exact (fun k_ hk => Kd.fresh' (Kd.R_lt (by (with_reducible repeat (first | apply Kd.R_alloc | apply Kd.R_drewN | apply Kd.R_drew)); exact HO182.out)) k_ hk)); (case aO => exact (by (with_reducible repeat (first | apply Kd.R_alloc | apply Kd.R_drewN | apply Kd.R_drew)); exact Kd.R_mono HO_6.out (fun _ hk => hk.2))); (case aS => exact (below_size (by repeat (first | (with_reducible first | exact HB.out | apply below_alloc | apply pw_below_drewN | apply below_drew1 | refine below_set ?_ GE165.out) | exact HB.out)))); (case aL => have := LMc30.out; omega); intro v188 w40 ho hb hg hat; rw [← Ny187.out] at ho; have n0_ := Aside0.mk (Kd.R_over' (by (with_reducible repeat (first | apply Kd.R_alloc | apply Kd.R_drewN | apply Kd.R_drew)); exact HO_7.out) (Kd.R_typed (by (with_reducible repeat (first | apply Kd.R_alloc | apply Kd.R_drewN | apply Kd.R_drew)); exact HO_6.out)) (by decide) hg); have n1_ := Aside0.mk (blk_grown (g := gb165) (o := .cells #[.int .i64 a0_0, .int .i64 a0_1, .bool a0_2, .bool a0_3, .int .u32 a0_4, .int .u32 a0_5, .int .u32 a0_6, .int .u32 a0_7, .int .i64 a0_8, .int .i64 a0_9, .int .u32 a0_10, .int .u32 a0_11, .int .u32 a0_12, .slice A0_13 l0_13.length c0_13, .slice A0_14 l0_14.length c0_14] 41 (0, 0)) (by (with_reducible repeat (first | refine blk_drewN ?_ _ | refine blk_drew ?_ | refine blk_alloc ?_ _)); exact BK165.out) hg (Kd.R_ne HO_6.out BK165.out (by decide))); have n2_ := Aside0.mk (Kd.R_after (ok := (fun _ => True)) (by (with_reducible repeat (first | apply Kd.R_alloc | apply Kd.R_drewN | apply Kd.R_drew)); exact HO182.out) hg hat); have n3_ := Aside0.mk (hb); have n4_ := Aside0.mk ((show Kd.C (Kd.int .u8) w40 A38 y183.length y183 from by rw [Ny183.out, KA38.out]; exact Kd.C_drop (m := 1) (c := co39) ((Kd.R_reads' (Kd.R_after (ok := (fun _ => True)) (by (with_reducible repeat (first | apply Kd.R_alloc | apply Kd.R_drewN | apply Kd.R_drew)); exact HO182.out) hg hat)).2.2) KL38.out ((Kd.R_reads' (Kd.R_after (ok := (fun _ => True)) (by (with_reducible repeat (first | apply Kd.R_alloc | apply Kd.R_drewN | apply Kd.R_drew)); exact HO182.out) hg hat)).2.1))); have n5_ := Aside0.mk (ho); clear HO_7; clear BK165; clear HO182; clear HB; clear HR186; clear HO_6; have HO_7 := n0_; have BK165 := n1_; have HO182 := n2_; have HB := n3_; have HR186 := n4_; have HO189 := n5_; clear n0_ n1_ n2_ n3_ n4_ n5_; clear ho hb hg hat; have hcz41_0 : w40.cell? ⟨gb165, 0, none⟩ = some (.int .i64 a0_0) := (blk_cell BK165.out 0).trans rfl; have hcz41_1 : w40.cell? ⟨gb165, 1, none⟩ = some (.int .i64 a0_1) := (blk_cell BK165.out 1).trans rfl; have hcz41_2 : w40.cell? ⟨gb165, 2, none⟩ = some (.bool a0_2) := (blk_cell BK165.out 2).trans rfl; have hcz41_3 : w40.cell? ⟨gb165, 3, none⟩ = some (.bool a0_3) := (blk_cell BK165.out 3).trans rfl; have hcz41_4 : w40.cell? ⟨gb165, 4, none⟩ = some (.int .u32 a0_4) := (blk_cell BK165.out 4).trans rfl; have hcz41_5 : w40.cell? ⟨gb165, 5, none⟩ = some (.int .u32 a0_5) := (blk_cell BK165.out 5).trans rfl; have hcz41_6 : w40.cell? ⟨gb165, 6, none⟩ = some (.int .u32 a0_6) := (blk_cell BK165.out 6).trans rfl; have hcz41_7 : w40.cell? ⟨gb165, 7, none⟩ = some (.int .u32 a0_7) := (blk_cell BK165.out 7).trans rfl; have hcz41_8 : w40.cell? ⟨gb165, 8, none⟩ = some (.int .i64 a0_8) := (blk_cell BK165.out 8).trans rfl; have hcz41_9 : w40.cell? ⟨gb165, 9, none⟩ = some (.int .i64 a0_9) := (blk_cell BK165.out 9).trans rfl; have hcz41_10 : w40.cell? ⟨gb165, 10, none⟩ = some (.int .u32 a0_10) := (blk_cell BK165.out 10).trans rfl; have hcz41_11 : w40.cell? ⟨gb165, 11, none⟩ = some (.int .u32 a0_11) := (blk_cell BK165.out 11).trans rfl; have hcz41_12 : w40.cell? ⟨gb165, 12, none⟩ = some (.int .u32 a0_12) := (blk_cell BK165.out 12).trans rfl; have hcz41_13 : w40.cell? ⟨gb165, 13, none⟩ = some (.slice A0_13 l0_13.length c0_13) := (blk_cell BK165.out 13).trans rfl; have hcz41_14 : w40.cell? ⟨gb165, 14, none⟩ = some (.slice A0_14 l0_14.length c0_14) := (blk_cell BK165.out 14).trans rfl; have hfz41_0 := blk_frozen BK165.out 0; have hfz41_1 := blk_frozen BK165.out 1; have hfz41_2 := blk_frozen BK165.out 2; have hfz41_3 := blk_frozen BK165.out 3; have hfz41_4 := blk_frozen BK165.out 4; have hfz41_5 := blk_frozen BK165.out 5; have hfz41_6 := blk_frozen BK165.out 6; have hfz41_7 := blk_frozen BK165.out 7; have hfz41_8 := blk_frozen BK165.out 8; have hfz41_9 := blk_frozen BK165.out 9; have hfz41_10 := blk_frozen BK165.out 10; have hfz41_11 := blk_frozen BK165.out 11; have hfz41_12 := blk_frozen BK165.out 12; have hfz41_13 := blk_frozen BK165.out 13; have hfz41_14 := blk_frozen BK165.out 14) | ((with_reducible refine gate_callee (f := 36) rfl ?_); refine goesL_ (some 75) rfl rfl Try.func36 (by kernel_rfl) rfl #[.int .i64 (wrap64 (a0_11))] rfl (by (try simp only [List.map_toArray, List.map_cons, List.map_nil]); first | done | rfl | (simp only [List.length_drop, List.length_take]; rfl)) ?_; (with_reducible refine (fourinhandref03_Four.calls (wrap64 (a0_11)) t190 _ A31.out).mono ?_); rintro e w42 ⟨v191, rfl, ho0, hb⟩; refine ⟨_, rfl, ?_⟩; have n0_ := Aside0.mk (Kd.R_below (by (with_reducible repeat (first | apply Kd.R_alloc | apply Kd.R_drewN | apply Kd.R_drew)); exact HO_7.out) hb); have n1_ := Aside0.mk (Kd.R_elder' (by (with_reducible repeat (first | apply Kd.R_alloc | apply Kd.R_drewN | apply Kd.R_drew)); exact HO182.out) (Kd.R_base ho0) hb); have n2_ := Aside0.mk (Kd.R_elder' (by (with_reducible repeat (first | apply Kd.R_alloc | apply Kd.R_drewN | apply Kd.R_drew)); exact HO189.out) (Kd.R_base ho0) hb); have n3_ := Aside0.mk (Kd.R_lower (Kd.R_new' (Kd.R_new' ho0 (Kd.R_lt (by (with_reducible repeat (first | apply Kd.R_alloc | apply Kd.R_drewN | apply Kd.R_drew)); exact HO182.out))) (Kd.R_lt (by (with_reducible repeat (first | apply Kd.R_alloc | apply Kd.R_drewN | apply Kd.R_drew)); exact HO189.out))) (below_size (by repeat (first | (with_reducible first | exact HB.out | apply below_alloc | apply pw_below_drewN | apply below_drew1 | refine below_set ?_ GE165.out) | exact HB.out)))); have n4_ := Aside0.mk (blk_below (g := gb165) (o := .cells #[.int .i64 a0_0, .int .i64 a0_1, .bool a0_2, .bool a0_3, .int .u32 a0_4, .int .u32 a0_5, .int .u32 a0_6, .int .u32 a0_7, .int .i64 a0_8, .int .i64 a0_9, .int .u32 a0_10, .int .u32 a0_11, .int .u32 a0_12, .slice A0_13 l0_13.length c0_13, .slice A0_14 l0_14.length c0_14] 41 (0, 0)) (by (with_reducible repeat (first | refine blk_drewN ?_ _ | refine blk_drew ?_ | refine blk_alloc ?_ _)); exact BK165.out) hb); have n5_ := Aside0.mk (Kd.C_below (by repeat (first | (with_reducible exact HR186.out) | (with_reducible refine Kd.C_alloc ?_ _) | (with_reducible refine Kd.C_drewN ?_ _) | (with_reducible refine Kd.C_drew ?_) | exact HR186.out)) hb); have n6_ := Aside0.mk (below_step (by repeat (first | (with_reducible first | exact HB.out | apply below_alloc | apply pw_below_drewN | apply below_drew1 | refine below_set ?_ GE165.out) | exact HB.out)) hb); clear HO_7; clear HO182; clear HO189; clear BK165; clear HR186; clear HB; have HO_7 := n0_; have HO182 := n1_; have HO189 := n2_; have HO192 := n3_; have BK165 := n4_; have HR186 := n5_; have HB := n6_; clear n0_ n1_ n2_ n3_ n4_ n5_ n6_; (try clear hb); (try clear hb2); (try clear hk); (try clear hi); (try clear ho0); obtain ⟨Ao44, co44, eo44⟩ := Kd.R_slice HO192.out; subst eo44) | ((with_reducible refine gate_builtin (b := .append) (xs := #[.tmp 71, .tmp 75]) rfl ?_); at_builtin; refine Kd.R_append_rows (Kd.int .u8) (w0 := w) w.heap.size rfl (.tmp 71) (.tmp 75) 23 5 (.int .u8 0) 1 rfl Try.underlying23 info5 rfl (by decide) (by omega) v188 y187 t190 _ _ _ (fun k_ => some k_ ≠ (.slice Ao39 t180.length co39 : Value).ownBlock ∧ some k_ ≠ (.slice Ao44 t190.length co44 : Value).ownBlock) (fun _ => False) rfl rfl ?aO ?aR (fun _ _ h => h) (fun _ h => h.elim) ?aF ?aB ?aS ?aL ?_; (case aR => repeat (first | exact (Kd.R_reads' HO192.out).2.2 | (with_reducible refine Kd.C_alloc ?_ _) | (with_reducible refine Kd.C_drewN ?_ _) | (with_reducible refine Kd.C_drew ?_))); (case aB => exact (by repeat (first | (with_reducible first | exact HB.out | apply below_alloc | apply pw_below_drewN | apply below_drew1 | refine below_set ?_ GE165.out) | exact HB.out))); (case aF => exact (fun k_ hk => ⟨Kd.fresh' (Kd.R_lt (by (with_reducible repeat (first | apply Kd.R_alloc | apply Kd.R_drewN | apply Kd.R_drew)); exact HO182.out)) k_ hk, Kd.fresh' (Kd.R_lt (by (with_reducible repeat (first | apply Kd.R_alloc | apply Kd.R_drewN | apply Kd.R_drew)); exact HO192.out)) k_ hk⟩)); (case aO => exact (by (with_reducible repeat (first | apply Kd.R_alloc | apply Kd.R_drewN | apply Kd.R_drew)); exact HO189.out)); (case aS => exact (below_size (by repeat (first | (with_reducible first | exact HB.out | apply below_alloc | apply pw_below_drewN | apply below_drew1 | refine below_set ?_ GE165.out) | exact HB.out)))); (case aL => have := LMc32.out; omega); intro v194 w43 ho hb hg hat; rw [← Ny193.out] at ho; have n0_ := Aside0.mk (Kd.R_over' (by (with_reducible repeat (first | apply Kd.R_alloc | apply Kd.R_drewN | apply Kd.R_drew)); exact HO_7.out) (Kd.R_typed (by (with_reducible repeat (first | apply Kd.R_alloc | apply Kd.R_drewN | apply Kd.R_drew)); exact HO189.out)) (by decide) hg); have n1_ := Aside0.mk (blk_grown (g := gb165) (o := .cells #[.int .i64 a0_0, .int .i64 a0_1, .bool a0_2, .bool a0_3, .int .u32 a0_4, .int .u32 a0_5, .int .u32 a0_6, .int .u32 a0_7, .int .i64 a0_8, .int .i64 a0_9, .int .u32 a0_10, .int .u32 a0_11, .int .u32 a0_12, .slice A0_13 l0_13.length c0_13, .slice A0_14 l0_14.length c0_14] 41 (0, 0)) (by (with_reducible repeat (first | refine blk_drewN ?_ _ | refine blk_drew ?_ | refine blk_alloc ?_ _)); exact BK165.out) hg (Kd.R_ne HO189.out BK165.out (by decide))); have n2_ := Aside0.mk (Kd.R_after (ok := (fun k_ => some k_ ≠ (.slice Ao44 t190.length co44 : Value).ownBlock)) (by (with_reducible repeat (first | apply Kd.R_alloc | apply Kd.R_drewN | apply Kd.R_drew)); exact Kd.R_mono HO182.out (fun _ hk => ⟨hk.2, hk.1.2⟩)) hg hat); have n3_ := Aside0.mk (Kd.R_after (ok := (fun k_ => some k_ ≠ (.slice Ao39 t180.length co39 : Value).ownBlock)) (by (with_reducible repeat (first | apply Kd.R_alloc | apply Kd.R_drewN | apply Kd.R_drew)); exact Kd.R_mono HO192.out (fun _ hk => ⟨hk.1.2, hk.2⟩)) hg hat); have n4_ := Aside0.mk (hb); have n5_ := Aside0.mk ((show Kd.C (Kd.int .u8) w43 A38 y183.length y183 from by rw [Ny183.out, KA38.out]; exact Kd.C_drop (m := 1) (c := co39) ((Kd.R_reads' (Kd.R_after (ok := (fun k_ => some k_ ≠ (.slice Ao44 t190.length co44 : Value).ownBlock)) (by (with_reducible repeat (first | apply Kd.R_alloc | apply Kd.R_drewN | apply Kd.R_drew)); exact Kd.R_mono HO182.out (fun _ hk => ⟨hk.2, hk.1.2⟩)) hg hat)).2.2) KL38.out ((Kd.R_reads' (Kd.R_after (ok := (fun k_ => some k_ ≠ (.slice Ao44 t190.length co44 : Value).ownBlock)) (by (with_reducible repeat (first | apply Kd.R_alloc | apply Kd.R_drewN | apply Kd.R_drew)); exact Kd.R_mono HO182.out (fun _ hk => ⟨hk.2, hk.1.2⟩)) hg hat)).2.1))); have n6_ := Aside0.mk (ho); clear HO_7; clear BK165; clear HO182; clear HO192; clear HB; clear HR186; clear HO189; have HO_7 := n0_; have BK165 := n1_; have HO182 := n2_; have HO192 := n3_; have HB := n4_; have HR186 := n5_; have HO195 := n6_; clear n0_ n1_ n2_ n3_ n4_ n5_ n6_; clear ho hb hg hat; have hcz45_0 : w43.cell? ⟨gb165, 0, none⟩ = some (.int .i64 a0_0) := (blk_cell BK165.out 0).trans rfl; have hcz45_1 : w43.cell? ⟨gb165, 1, none⟩ = some (.int .i64 a0_1) := (blk_cell BK165.out 1).trans rfl; have hcz45_2 : w43.cell? ⟨gb165, 2, none⟩ = some (.bool a0_2) := (blk_cell BK165.out 2).trans rfl; have hcz45_3 : w43.cell? ⟨gb165, 3, none⟩ = some (.bool a0_3) := (blk_cell BK165.out 3).trans rfl; have hcz45_4 : w43.cell? ⟨gb165, 4, none⟩ = some (.int .u32 a0_4) := (blk_cell BK165.out 4).trans rfl; have hcz45_5 : w43.cell? ⟨gb165, 5, none⟩ = some (.int .u32 a0_5) := (blk_cell BK165.out 5).trans rfl; have hcz45_6 : w43.cell? ⟨gb165, 6, none⟩ = some (.int .u32 a0_6) := (blk_cell BK165.out 6).trans rfl; have hcz45_7 : w43.cell? ⟨gb165, 7, none⟩ = some (.int .u32 a0_7) := (blk_cell BK165.out 7).trans rfl; have hcz45_8 : w43.cell? ⟨gb165, 8, none⟩ = some (.int .i64 a0_8) := (blk_cell BK165.out 8).trans rfl; have hcz45_9 : w43.cell? ⟨gb165, 9, none⟩ = some (.int .i64 a0_9) := (blk_cell BK165.out 9).trans rfl; have hcz45_10 : w43.cell? ⟨gb165, 10, none⟩ = some (.int .u32 a0_10) := (blk_cell BK165.out 10).trans rfl; have hcz45_11 : w43.cell? ⟨gb165, 11, none⟩ = some (.int .u32 a0_11) := (blk_cell BK165.out 11).trans rfl; have hcz45_12 : w43.cell? ⟨gb165, 12, none⟩ = some (.int .u32 a0_12) := (blk_cell BK165.out 12).trans rfl; have hcz45_13 : w43.cell? ⟨gb165, 13, none⟩ = some (.slice A0_13 l0_13.length c0_13) := (blk_cell BK165.out 13).trans rfl; have hcz45_14 : w43.cell? ⟨gb165, 14, none⟩ = some (.slice A0_14 l0_14.length c0_14) := (blk_cell BK165.out 14).trans rfl; have hfz45_0 := blk_frozen BK165.out 0; have hfz45_1 := blk_frozen BK165.out 1; have hfz45_2 := blk_frozen BK165.out 2; have hfz45_3 := blk_frozen BK165.out 3; have hfz45_4 := blk_frozen BK165.out 4; have hfz45_5 := blk_frozen BK165.out 5; have hfz45_6 := blk_frozen BK165.out 6; have hfz45_7 := blk_frozen BK165.out 7; have hfz45_8 := blk_frozen BK165.out 8; have hfz45_9 := blk_frozen BK165.out 9; have hfz45_10 := blk_frozen BK165.out 10; have hfz45_11 := blk_frozen BK165.out 11; have hfz45_12 := blk_frozen BK165.out 12; have hfz45_13 := blk_frozen BK165.out 13; have hfz45_14 := blk_frozen BK165.out 14) | ((with_reducible refine gate_callee (f := 36) rfl ?_); refine goesL_ (some 81) rfl rfl Try.func36 (by kernel_rfl) rfl #[.int .i64 (wrap64 (a0_12))] rfl (by (try simp only [List.map_toArray, List.map_cons, List.map_nil]); first | done | rfl | (simp only [List.length_drop, List.length_take]; rfl)) ?_; (with_reducible refine (fourinhandref03_Four.calls (wrap64 (a0_12)) t196 _ A33.out).mono ?_); rintro e w46 ⟨v197, rfl, ho0, hb⟩; refine ⟨_, rfl, ?_⟩; have n0_ := Aside0.mk (Kd.R_below (by (with_reducible repeat (first | apply Kd.R_alloc | apply Kd.R_drewN | apply Kd.R_drew)); exact HO_7.out) hb); have n1_ := Aside0.mk (Kd.R_elder' (by (with_reducible repeat (first | apply Kd.R_alloc | apply Kd.R_drewN | apply Kd.R_drew)); exact HO182.out) (Kd.R_base ho0) hb); have n2_ := Aside0.mk (Kd.R_elder' (by (with_reducible repeat (first | apply Kd.R_alloc | apply Kd.R_drewN | apply Kd.R_drew)); exact HO192.out) (Kd.R_base ho0) hb); have n3_ := Aside0.mk (Kd.R_elder' (by (with_reducible repeat (first | apply Kd.R_alloc | apply Kd.R_drewN | apply Kd.R_drew)); exact HO195.out) (Kd.R_base ho0) hb); have n4_ := Aside0.mk (Kd.R_lower (Kd.R_new' (Kd.R_new' (Kd.R_new' ho0 (Kd.R_lt (by (with_reducible repeat (first | apply Kd.R_alloc | apply Kd.R_drewN | apply Kd.R_drew)); exact HO182.out))) (Kd.R_lt (by (with_reducible repeat (first | apply Kd.R_alloc | apply Kd.R_drewN | apply Kd.R_drew)); exact HO192.out))) (Kd.R_lt (by (with_reducible repeat (first | apply Kd.R_alloc | apply Kd.R_drewN | apply Kd.R_drew)); exact HO195.out))) (below_size (by repeat (first | (with_reducible first | exact HB.out | apply below_alloc | apply pw_below_drewN | apply below_drew1 | refine below_set ?_ GE165.out) | exact HB.out)))); have n5_ := Aside0.mk (blk_below (g := gb165) (o := .cells #[.int .i64 a0_0, .int .i64 a0_1, .bool a0_2, .bool a0_3, .int .u32 a0_4, .int .u32 a0_5, .int .u32 a0_6, .int .u32 a0_7, .int .i64 a0_8, .int .i64 a0_9, .int .u32 a0_10, .int .u32 a0_11, .int .u32 a0_12, .slice A0_13 l0_13.length c0_13, .slice A0_14 l0_14.length c0_14] 41 (0, 0)) (by (with_reducible repeat (first | refine blk_drewN ?_ _ | refine blk_drew ?_ | refine blk_alloc ?_ _)); exact BK165.out) hb); have n6_ := Aside0.mk (Kd.C_below (by repeat (first | (with_reducible exact HR186.out) | (with_reducible refine Kd.C_alloc ?_ _) | (with_reducible refine Kd.C_drewN ?_ _) | (with_reducible refine Kd.C_drew ?_) | exact HR186.out)) hb); have n7_ := Aside0.mk (below_step (by repeat (first | (with_reducible first | exact HB.out | apply below_alloc | apply pw_below_drewN | apply below_drew1 | refine below_set ?_ GE165.out) | exact HB.out)) hb); clear HO_7; clear HO182; clear HO192; clear HO195; clear BK165; clear HR186; clear HB; have HO_7 := n0_; have HO182 := n1_; have HO192 := n2_; have HO195 := n3_; have HO198 := n4_; have BK165 := n5_; have HR186 := n6_; have HB := n7_; clear n0_ n1_ n2_ n3_ n4_ n5_ n6_ n7_; (try clear hb); (try clear hb2); (try clear hk); (try clear hi); (try clear ho0); obtain ⟨Ao48, co48, eo48⟩ := Kd.R_slice HO198.out; subst eo48) | ((with_reducible refine gate_builtin (b := .append) (xs := #[.tmp 77, .tmp 81]) rfl ?_); at_builtin; refine Kd.R_append_rows (Kd.int .u8) (w0 := w) w.heap.size rfl (.tmp 77) (.tmp 81) 23 5 (.int .u8 0) 1 rfl Try.underlying23 info5 rfl (by decide) (by omega) v194 y193 t196 _ _ _ (fun k_ => some k_ ≠ (.slice Ao39 t180.length co39 : Value).ownBlock ∧ some k_ ≠ (.slice Ao44 t190.length co44 : Value).ownBlock ∧ some k_ ≠ (.slice Ao48 t196.length co48 : Value).ownBlock) (fun _ => False) rfl rfl ?aO ?aR (fun _ _ h => h) (fun _ h => h.elim) ?aF ?aB ?aS ?aL ?_; (case aR => repeat (first | exact (Kd.R_reads' HO198.out).2.2 | (with_reducible refine Kd.C_alloc ?_ _) | (with_reducible refine Kd.C_drewN ?_ _) | (with_reducible refine Kd.C_drew ?_))); (case aB => exact (by repeat (first | (with_reducible first | exact HB.out | apply below_alloc | apply pw_below_drewN | apply below_drew1 | refine below_set ?_ GE165.out) | exact HB.out))); (case aF => exact (fun k_ hk => ⟨Kd.fresh' (Kd.R_lt (by (with_reducible repeat (first | apply Kd.R_alloc | apply Kd.R_drewN | apply Kd.R_drew)); exact HO182.out)) k_ hk, Kd.fresh' (Kd.R_lt (by (with_reducible repeat (first | apply Kd.R_alloc | apply Kd.R_drewN | apply Kd.R_drew)); exact HO192.out)) k_ hk, Kd.fresh' (Kd.R_lt (by (with_reducible repeat (first | apply Kd.R_alloc | apply Kd.R_drewN | apply Kd.R_drew)); exact HO198.out)) k_ hk⟩)); (case aO => exact (by (with_reducible repeat (first | apply Kd.R_alloc | apply Kd.R_drewN | apply Kd.R_drew)); exact Kd.R_mono HO195.out (fun _ hk => ⟨hk.1.1, ⟨hk.1.2, hk.2⟩⟩))); (case aS => exact (below_size (by repeat (first | (with_reducible first | exact HB.out | apply below_alloc | apply pw_below_drewN | apply below_drew1 | refine below_set ?_ GE165.out) | exact HB.out)))); (case aL => have := LMc34.out; omega); intro v200 w47 ho hb hg hat; rw [← Ny199.out] at ho; have n0_ := Aside0.mk (Kd.R_over' (by (with_reducible repeat (first | apply Kd.R_alloc | apply Kd.R_drewN | apply Kd.R_drew)); exact HO_7.out) (Kd.R_typed (by (with_reducible repeat (first | apply Kd.R_alloc | apply Kd.R_drewN | apply Kd.R_drew)); exact HO195.out)) (by decide) hg); have n1_ := Aside0.mk (blk_grown (g := gb165) (o := .cells #[.int .i64 a0_0, .int .i64 a0_1, .bool a0_2, .bool a0_3, .int .u32 a0_4, .int .u32 a0_5, .int .u32 a0_6, .int .u32 a0_7, .int .i64 a0_8, .int .i64 a0_9, .int .u32 a0_10, .int .u32 a0_11, .int .u32 a0_12, .slice A0_13 l0_13.length c0_13, .slice A0_14 l0_14.length c0_14] 41 (0, 0)) (by (with_reducible repeat (first | refine blk_drewN ?_ _ | refine blk_drew ?_ | refine blk_alloc ?_ _)); exact BK165.out) hg (Kd.R_ne HO195.out BK165.out (by decide))); have n2_ := Aside0.mk (Kd.R_after (ok := (fun k_ => some k_ ≠ (.slice Ao44 t190.length co44 : Value).ownBlock ∧ some k_ ≠ (.slice Ao48 t196.length co48 : Value).ownBlock)) (by (with_reducible repeat (first | apply Kd.R_alloc | apply Kd.R_drewN | apply Kd.R_drew)); exact Kd.R_mono HO182.out (fun _ hk => ⟨⟨hk.1.1, hk.2⟩, hk.1.2⟩)) hg hat); have n3_ := Aside0.mk (Kd.R_after (ok := (fun k_ => some k_ ≠ (.slice Ao39 t180.length co39 : Value).ownBlock ∧ some k_ ≠ (.slice Ao48 t196.length co48 : Value).ownBlock)) (by (with_reducible repeat (first | apply Kd.R_alloc | apply Kd.R_drewN | apply Kd.R_drew)); exact Kd.R_mono HO192.out (fun _ hk => ⟨⟨hk.1.1, hk.2⟩, hk.1.2⟩)) hg hat); have n4_ := Aside0.mk (Kd.R_after (ok := (fun k_ => some k_ ≠ (.slice Ao39 t180.length co39 : Value).ownBlock ∧ some k_ ≠ (.slice Ao44 t190.length co44 : Value).ownBlock)) (by (with_reducible repeat (first | apply Kd.R_alloc | apply Kd.R_drewN | apply Kd.R_drew)); exact Kd.R_mono HO198.out (fun _ hk => ⟨⟨hk.1.1.2, hk.1.2⟩, hk.2⟩)) hg hat); have n5_ := Aside0.mk (hb); have n6_ := Aside0.mk ((show Kd.C (Kd.int .u8) w47 A38 y183.length y183 from by rw [Ny183.out, KA38.out]; exact Kd.C_drop (m := 1) (c := co39) ((Kd.R_reads' (Kd.R_after (ok := (fun k_ => some k_ ≠ (.slice Ao44 t190.length co44 : Value).ownBlock ∧ some k_ ≠ (.slice Ao48 t196.length co48 : Value).ownBlock)) (by (with_reducible repeat (first | apply Kd.R_alloc | apply Kd.R_drewN | apply Kd.R_drew)); exact Kd.R_mono HO182.out (fun _ hk => ⟨⟨hk.1.1, hk.2⟩, hk.1.2⟩)) hg hat)).2.2) KL38.out ((Kd.R_reads' (Kd.R_after (ok := (fun k_ => some k_ ≠ (.slice Ao44 t190.length co44 : Value).ownBlock ∧ some k_ ≠ (.slice Ao48 t196.length co48 : Value).ownBlock)) (by (with_reducible repeat (first | apply Kd.R_alloc | apply Kd.R_drewN | apply Kd.R_drew)); exact Kd.R_mono HO182.out (fun _ hk => ⟨⟨hk.1.1, hk.2⟩, hk.1.2⟩)) hg hat)).2.1))); have n7_ := Aside0.mk (ho); clear HO_7; clear BK165; clear HO182; clear HO192; clear HO198; clear HB; clear HR186; clear HO195; have HO_7 := n0_; have BK165 := n1_; have HO182 := n2_; have HO192 := n3_; have HO198 := n4_; have HB := n5_; have HR186 := n6_; have HO201 := n7_; clear n0_ n1_ n2_ n3_ n4_ n5_ n6_ n7_; clear ho hb hg hat; have hcz49_0 : w47.cell? ⟨gb165, 0, none⟩ = some (.int .i64 a0_0) := (blk_cell BK165.out 0).trans rfl; have hcz49_1 : w47.cell? ⟨gb165, 1, none⟩ = some (.int .i64 a0_1) := (blk_cell BK165.out 1).trans rfl; have hcz49_2 : w47.cell? ⟨gb165, 2, none⟩ = some (.bool a0_2) := (blk_cell BK165.out 2).trans rfl; have hcz49_3 : w47.cell? ⟨gb165, 3, none⟩ = some (.bool a0_3) := (blk_cell BK165.out 3).trans rfl; have hcz49_4 : w47.cell? ⟨gb165, 4, none⟩ = some (.int .u32 a0_4) := (blk_cell BK165.out 4).trans rfl; have hcz49_5 : w47.cell? ⟨gb165, 5, none⟩ = some (.int .u32 a0_5) := (blk_cell BK165.out 5).trans rfl; have hcz49_6 : w47.cell? ⟨gb165, 6, none⟩ = some (.int .u32 a0_6) := (blk_cell BK165.out 6).trans rfl; have hcz49_7 : w47.cell? ⟨gb165, 7, none⟩ = some (.int .u32 a0_7) := (blk_cell BK165.out 7).trans rfl; have hcz49_8 : w47.cell? ⟨gb165, 8, none⟩ = some (.int .i64 a0_8) := (blk_cell BK165.out 8).trans rfl; have hcz49_9 : w47.cell? ⟨gb165, 9, none⟩ = some (.int .i64 a0_9) := (blk_cell BK165.out 9).trans rfl; have hcz49_10 : w47.cell? ⟨gb165, 10, none⟩ = some (.int .u32 a0_10) := (blk_cell BK165.out 10).trans rfl; have hcz49_11 : w47.cell? ⟨gb165, 11, none⟩ = some (.int .u32 a0_11) := (blk_cell BK165.out 11).trans rfl; have hcz49_12 : w47.cell? ⟨gb165, 12, none⟩ = some (.int .u32 a0_12) := (blk_cell BK165.out 12).trans rfl; have hcz49_13 : w47.cell? ⟨gb165, 13, none⟩ = some (.slice A0_13 l0_13.length c0_13) := (blk_cell BK165.out 13).trans rfl; have hcz49_14 : w47.cell? ⟨gb165, 14, none⟩ = some (.slice A0_14 l0_14.length c0_14) := (blk_cell BK165.out 14).trans rfl; have hfz49_0 := blk_frozen BK165.out 0; have hfz49_1 := blk_frozen BK165.out 1; have hfz49_2 := blk_frozen BK165.out 2; have hfz49_3 := blk_frozen BK165.out 3; have hfz49_4 := blk_frozen BK165.out 4; have hfz49_5 := blk_frozen BK165.out 5; have hfz49_6 := blk_frozen BK165.out 6; have hfz49_7 := blk_frozen BK165.out 7; have hfz49_8 := blk_frozen BK165.out 8; have hfz49_9 := blk_frozen BK165.out 9; have hfz49_10 := blk_frozen BK165.out 10; have hfz49_11 := blk_frozen BK165.out 11; have hfz49_12 := blk_frozen BK165.out 12; have hfz49_13 := blk_frozen BK165.out 13; have hfz49_14 := blk_frozen BK165.out 14) | ((with_reducible refine gate_builtin (b := .append) (xs := #[.tmp 83, .tmp 88]) rfl ?_); at_builtin; refine Kd.R_append (Kd.int .u8) (w0 := w) w.heap.size rfl (.tmp 83) (.tmp 88) 23 5 (.int .u8 0) 1 rfl Try.underlying23 info5 rfl (by decide) (by omega) v200 y199 (((l0_13.length : Int)) % 256) [.int .u8 (((l0_13.length : Int)) % 256)] (fun k_ => some k_ ≠ (.slice Ao39 t180.length co39 : Value).ownBlock ∧ some k_ ≠ (.slice Ao44 t190.length co44 : Value).ownBlock ∧ some k_ ≠ (.slice Ao48 t196.length co48 : Value).ownBlock) (fun _ => False) rfl rfl ?aP (fun _ hk => hk.elim) ?aF ?aO ?aB ?aS ?aL ?_; (case aP => exact rfl); (case aB => exact (by repeat (first | (with_reducible first | exact HB.out | apply below_alloc | apply pw_below_drewN | apply below_drew1 | refine below_set ?_ GE165.out) | exact HB.out))); (case aF => exact (fun k_ hk => ⟨Kd.fresh' (Kd.R_lt (by (with_reducible repeat (first | apply Kd.R_alloc | apply Kd.R_drewN | apply Kd.R_drew)); exact HO182.out)) k_ hk, Kd.fresh' (Kd.R_lt (by (with_reducible repeat (first | apply Kd.R_alloc | apply Kd.R_drewN | apply Kd.R_drew)); exact HO192.out)) k_ hk, Kd.fresh' (Kd.R_lt (by (with_reducible repeat (first | apply Kd.R_alloc | apply Kd.R_drewN | apply Kd.R_drew)); exact HO198.out)) k_ hk⟩)); (case aO => exact (by (with_reducible repeat (first | apply Kd.R_alloc | apply Kd.R_drewN | apply Kd.R_drew)); exact HO201.out)); (case aS => exact (below_size (by repeat (first | (with_reducible first | exact HB.out | apply below_alloc | apply pw_below_drewN | apply below_drew1 | refine below_set ?_ GE165.out) | exact HB.out)))); (case aL => have := LMc35.out; omega); intro v203 w50 ho hb hg hat; rw [← Ny202.out] at ho; have n0_ := Aside0.mk (Kd.R_over' (by (with_reducible repeat (first | apply Kd.R_alloc | apply Kd.R_drewN | apply Kd.R_drew)); exact HO_7.out) (Kd.R_typed (by (with_reducible repeat (first | apply Kd.R_alloc | apply Kd.R_drewN | apply Kd.R_drew)); exact HO201.out)) (by decide) hg); have n1_ := Aside0.mk (blk_grown (g := gb165) (o := .cells #[.int .i64 a0_0, .int .i64 a0_1, .bool a0_2, .bool a0_3, .int .u32 a0_4, .int .u32 a0_5, .int .u32 a0_6, .int .u32 a0_7, .int .i64 a0_8, .int .i64 a0_9, .int .u32 a0_10, .int .u32 a0_11, .int .u32 a0_12, .slice A0_13 l0_13.length c0_13, .slice A0_14 l0_14.length c0_14] 41 (0, 0)) (by (with_reducible repeat (first | refine blk_drewN ?_ _ | refine blk_drew ?_ | refine blk_alloc ?_ _)); exact BK165.out) hg (Kd.R_ne HO201.out BK165.out (by decide))); have n2_ := Aside0.mk (Kd.R_after (ok := (fun k_ => some k_ ≠ (.slice Ao44 t190.length co44 : Value).ownBlock ∧ some k_ ≠ (.slice Ao48 t196.length co48 : Value).ownBlock)) (by (with_reducible repeat (first | apply Kd.R_alloc | apply Kd.R_drewN | apply Kd.R_drew)); exact HO182.out) hg hat); have n3_ := Aside0.mk (Kd.R_after (ok := (fun k_ => some k_ ≠ (.slice Ao39 t180.length co39 : Value).ownBlock ∧ some k_ ≠ (.slice Ao48 t196.length co48 : Value).ownBlock)) (by (with_reducible repeat (first | apply Kd.R_alloc | apply Kd.R_drewN | apply Kd.R_drew)); exact HO192.out) hg hat); have n4_ := Aside0.mk (Kd.R_after (ok := (fun k_ => some k_ ≠ (.slice Ao39 t180.length co39 : Value).ownBlock ∧ some k_ ≠ (.slice Ao44 t190.length co44 : Value).ownBlock)) (by (with_reducible repeat (first | apply Kd.R_alloc | apply Kd.R_drewN | apply Kd.R_drew)); exact HO198.out) hg hat); have n5_ := Aside0.mk (hb); have n6_ := Aside0.mk ((show Kd.C (Kd.int .u8) w50 A38 y183.length y183 from by rw [Ny183.out, KA38.out]; exact Kd.C_drop (m := 1) (c := co39) ((Kd.R_reads' (Kd.R_after (ok := (fun k_ => some k_ ≠ (.slice Ao44 t190.length co44 : Value).ownBlock ∧ some k_ ≠ (.slice Ao48 t196.length co48 : Value).ownBlock)) (by (with_reducible repeat (first | apply Kd.R_alloc | apply Kd.R_drewN | apply Kd.R_drew)); exact HO182.out) hg hat)).2.2) KL38.out ((Kd.R_reads' (Kd.R_after (ok := (fun k_ => some k_ ≠ (.slice Ao44 t190.length co44 : Value).ownBlock ∧ some k_ ≠ (.slice Ao48 t196.length co48 : Value).ownBlock)) (by (with_reducible repeat (first | apply Kd.R_alloc | apply Kd.R_drewN | apply Kd.R_drew)); exact HO182.out) hg hat)).2.1))); have n7_ := Aside0.mk (ho); clear HO_7; clear BK165; clear HO182; clear HO192; clear HO198; clear HB; clear HR186; clear HO201; have HO_7 := n0_; have BK165 := n1_; have HO182 := n2_; have HO192 := n3_; have HO198 := n4_; have HB := n5_; have HR186 := n6_; have HO204 := n7_; clear n0_ n1_ n2_ n3_ n4_ n5_ n6_ n7_; clear ho hb hg hat))
                            go_loopg [6, 9] k3 (fun kq v6 v9 w' => ∃ (x6_4 : List Int) (x9_4 : Int), v9 = .int .i64 x9_4 ∧ Aside0 (fourinhandref07_Put.l1 kq x6_4 x9_4 a0_0 a0_1 a0_2 a0_3 a0_4 a0_5 a0_6 a0_7 a0_8 a0_9 a0_10 a0_11 a0_12 l0_13 l0_14 = some (r1, r2)) ∧ Aside0 (kq ≤ k3) ∧ Aside0 (Kd.R (Kd.int .u8) 5 w' w.heap.size (fun _ => True) v6 x6_4) ∧ Aside0 (w'.heap[gb165]? = some (.cells #[.int .i64 a0_0, .int .i64 a0_1, .bool a0_2, .bool a0_3, .int .u32 a0_4, .int .u32 a0_5, .int .u32 a0_6, .int .u32 a0_7, .int .i64 a0_8, .int .i64 a0_9, .int .u32 a0_10, .int .u32 a0_11, .int .u32 a0_12, (.slice A0_13 l0_13.length c0_13), (.slice A0_14 l0_14.length c0_14)] 41 (0, 0))) ∧ Aside0 (Below w.heap.size w w'))
                            case atStart => exact ⟨(y202), (0), (by first | rfl | (simp; done) | (simp [*]; done)), H', ⟨Nat.le_refl _⟩, ⟨by (with_reducible repeat (first | apply Kd.R_alloc | apply Kd.R_drewN | apply Kd.R_drew)); exact Kd.R_mono HO204.out (fun _ hk => trivial)⟩, ⟨by (with_reducible repeat (first | refine blk_drewN ?_ _ | refine blk_drew ?_ | refine blk_alloc ?_ _)); exact BK165.out⟩, ⟨by repeat (first | (with_reducible first | exact HB.out | apply below_alloc | apply pw_below_drewN | apply below_drew1 | refine below_set ?_ GE165.out) | exact HB.out)⟩⟩
                            case round =>
                              clear H'
                              try clear c1
                              try clear p1
                              try clear q1
                              try clear hx1
                              try clear c2
                              try clear p2
                              try clear c3
                              try clear q3
                              try clear p6
                              try clear c9
                              try clear c12
                              try clear p17
                              try clear q17
                              try clear hx17
                              try clear c19
                              try clear c19b0
                              try clear c20
                              try clear c20b0
                              try clear c21
                              try clear c21b0
                              try clear c23
                              try clear c29
                              try clear c29b0
                              try clear c29b1
                              try clear c30
                              try clear c32
                              try clear c34
                              try clear c35
                              try clear c36
                              try clear c38
                              try clear q38
                              try clear hcz11_0
                              try clear hcz11_1
                              try clear hcz11_10
                              try clear hcz11_11
                              try clear hcz11_12
                              try clear hcz11_13
                              try clear hcz11_14
                              try clear hcz11_2
                              try clear hcz11_3
                              try clear hcz11_4
                              try clear hcz11_5
                              try clear hcz11_6
                              try clear hcz11_7
                              try clear hcz11_8
                              try clear hcz11_9
                              try clear hcz13_0
                              try clear hcz13_1
                              try clear hcz13_10
                              try clear hcz13_11
                              try clear hcz13_12
                              try clear hcz13_13
                              try clear hcz13_14
                              try clear hcz13_2
                              try clear hcz13_3
                              try clear hcz13_4
                              try clear hcz13_5
                              try clear hcz13_6
                              try clear hcz13_7
                              try clear hcz13_8
                              try clear hcz13_9
                              try clear hcz16_0
                              try clear hcz16_1
                              try clear hcz16_10
                              try clear hcz16_11
                              try clear hcz16_12
                              try clear hcz16_13
                              try clear hcz16_14
                              try clear hcz16_2
                              try clear hcz16_3
                              try clear hcz16_4
                              try clear hcz16_5
                              try clear hcz16_6
                              try clear hcz16_7
                              try clear hcz16_8
                              try clear hcz16_9
                              try clear hcz36_0
                              try clear hcz36_1
                              try clear hcz36_10
                              try clear hcz36_11
                              try clear hcz36_12
                              try clear hcz36_13
                              try clear hcz36_14
                              try clear hcz36_2
                              try clear hcz36_3
                              try clear hcz36_4
                              try clear hcz36_5
                              try clear hcz36_6
                              try clear hcz36_7
                              try clear hcz36_8
                              try clear hcz36_9
                              try clear hcz41_0
                              try clear hcz41_1
                              try clear hcz41_10
                              try clear hcz41_11
                              try clear hcz41_12
                              try clear hcz41_13
                              try clear hcz41_14
                              try clear hcz41_2
                              try clear hcz41_3
                              try clear hcz41_4
                              try clear hcz41_5
                              try clear hcz41_6
                              try clear hcz41_7
                              try clear hcz41_8
                              try clear hcz41_9
                              try clear hcz45_0
                              try clear hcz45_1
                              try clear hcz45_10
                              try clear hcz45_11
                              try clear hcz45_12
                              try clear hcz45_13
                              try clear hcz45_14
                              try clear hcz45_2
                              try clear hcz45_3
                              try clear hcz45_4
                              try clear hcz45_5
                              try clear hcz45_6
                              try clear hcz45_7
                              try clear hcz45_8
                              try clear hcz45_9
                              try clear hcz49_0
                              try clear hcz49_1
                              try clear hcz49_10
                              try clear hcz49_11
                              try clear hcz49_12
                              try clear hcz49_13
                              try clear hcz49_14
                              try clear hcz49_2
                              try clear hcz49_3
                              try clear hcz49_4
                              try clear hcz49_5
                              try clear hcz49_6
                              try clear hcz49_7
                              try clear hcz49_8
                              try clear hcz49_9
                              try clear hcz6_0
                              try clear hcz6_1
                              try clear hcz6_10
                              try clear hcz6_11
                              try clear hcz6_12
                              try clear hcz6_13
                              try clear hcz6_14
                              try clear hcz6_2
                              try clear hcz6_3
                              try clear hcz6_4
                              try clear hcz6_5
                              try clear hcz6_6
                              try clear hcz6_7
                              try clear hcz6_8
                              try clear hcz6_9
                              try clear hcz8_0
                              try clear hcz8_1
                              try clear hcz8_10
                              try clear hcz8_11
                              try clear hcz8_12
                              try clear hcz8_13
                              try clear hcz8_14
                              try clear hcz8_2
                              try clear hcz8_3
                              try clear hcz8_4
                              try clear hcz8_5
                              try clear hcz8_6
                              try clear hcz8_7
                              try clear hcz8_8
                              try clear hcz8_9
                              try clear hfz11_0
                              try clear hfz11_1
                              try clear hfz11_10
                              try clear hfz11_11
                              try clear hfz11_12
                              try clear hfz11_13
                              try clear hfz11_14
                              try clear hfz11_2
                              try clear hfz11_3
                              try clear hfz11_4
                              try clear hfz11_5
                              try clear hfz11_6
                              try clear hfz11_7
                              try clear hfz11_8
                              try clear hfz11_9
                              try clear hfz13_0
                              try clear hfz13_1
                              try clear hfz13_10
                              try clear hfz13_11
                              try clear hfz13_12
                              try clear hfz13_13
                              try clear hfz13_14
                              try clear hfz13_2
                              try clear hfz13_3
                              try clear hfz13_4
                              try clear hfz13_5
                              try clear hfz13_6
                              try clear hfz13_7
                              try clear hfz13_8
                              try clear hfz13_9
                              try clear hfz16_0
                              try clear hfz16_1
                              try clear hfz16_10
                              try clear hfz16_11
                              try clear hfz16_12
                              try clear hfz16_13
                              try clear hfz16_14
                              try clear hfz16_2
                              try clear hfz16_3
                              try clear hfz16_4
                              try clear hfz16_5
                              try clear hfz16_6
                              try clear hfz16_7
                              try clear hfz16_8
                              try clear hfz16_9
                              try clear hfz36_0
                              try clear hfz36_1
                              try clear hfz36_10
                              try clear hfz36_11
                              try clear hfz36_12
                              try clear hfz36_13
                              try clear hfz36_14
                              try clear hfz36_2
                              try clear hfz36_3
                              try clear hfz36_4
                              try clear hfz36_5
                              try clear hfz36_6
                              try clear hfz36_7
                              try clear hfz36_8
                              try clear hfz36_9
                              try clear hfz41_0
                              try clear hfz41_1
                              try clear hfz41_10
                              try clear hfz41_11
                              try clear hfz41_12
                              try clear hfz41_13
                              try clear hfz41_14
                              try clear hfz41_2
                              try clear hfz41_3
                              try clear hfz41_4
                              try clear hfz41_5
                              try clear hfz41_6
                              try clear hfz41_7
                              try clear hfz41_8
                              try clear hfz41_9
                              try clear hfz45_0
                              try clear hfz45_1
                              try clear hfz45_10
                              try clear hfz45_11
                              try clear hfz45_12
                              try clear hfz45_13
                              try clear hfz45_14
                              try clear hfz45_2
                              try clear hfz45_3
                              try clear hfz45_4
                              try clear hfz45_5
                              try clear hfz45_6
                              try clear hfz45_7
                              try clear hfz45_8
                              try clear hfz45_9
                              try clear hfz49_0
                              try clear hfz49_1
                              try clear hfz49_10
                              try clear hfz49_11
                              try clear hfz49_12
                              try clear hfz49_13
                              try clear hfz49_14
                              try clear hfz49_2
                              try clear hfz49_3
                              try clear hfz49_4
                              try clear hfz49_5
                              try clear hfz49_6
                              try clear hfz49_7
                              try clear hfz49_8
                              try clear hfz49_9
                              try clear hfz6_0
                              try clear hfz6_1
                              try clear hfz6_10
                              try clear hfz6_11
                              try clear hfz6_12
                              try clear hfz6_13
                              try clear hfz6_14
                              try clear hfz6_2
                              try clear hfz6_3
                              try clear hfz6_4
                              try clear hfz6_5
                              try clear hfz6_6
                              try clear hfz6_7
                              try clear hfz6_8
                              try clear hfz6_9
                              try clear hfz8_0
                              try clear hfz8_1
                              try clear hfz8_10
                              try clear hfz8_11
                              try clear hfz8_12
                              try clear hfz8_13
                              try clear hfz8_14
                              try clear hfz8_2
                              try clear hfz8_3
                              try clear hfz8_4
                              try clear hfz8_5
                              try clear hfz8_6
                              try clear hfz8_7
                              try clear hfz8_8
                              try clear hfz8_9
                              try clear hx173_0
                              try clear p173
                              try clear p2
                              try clear p6
                              try clear q173
                              try clear q38
                              obtain ⟨x6_4, x9_4, rfl, HA, HK4, HO_6, BK165, HB⟩ := hrel
                              cases gk with
                              | zero => exact absurd HA.out (by simp [fourinhandref07_Put.l1])
                              | succ k4 =>
                                have H := HA.out
                                clear HA
                                simp only [fourinhandref07_Put.l1] at H
                                by_cases c51 : x9_4 < (l0_13.length : Int)
                                · rw [if_pos c51] at H
                                  have c51b0 : decide (x9_4 < (l0_13.length : Int)) = true := decide_eq_true c51
                                  clear c51
                                  by_cases c52 : 0 ≤ x9_4
                                  · rw [if_pos c52] at H
                                    have c52b0 : decide (0 ≤ x9_4) = true := decide_eq_true c52
                                    clear c52
                                    replace H := Option.bind_eq_some_iff.mp H
                                    obtain ⟨t206, A530, H⟩ := H
                                    replace H : (if x6_4.length + t206.length < 140737488355328 then ((some (x6_4 ++ t206 : List Int)).bind fun y209 => ((fourinhandref03_Four.f (wrap64 ((rd_T58 l0_13 x9_4).f1))).bind fun t213 => (if y209.length + t213.length < 140737488355328 then (fourinhandref07_Put.l1 k4 (y209 ++ t213) (wrap64 (x9_4 + 1)) a0_0 a0_1 a0_2 a0_3 a0_4 a0_5 a0_6 a0_7 a0_8 a0_9 a0_10 a0_11 a0_12 l0_13 l0_14) else (none)))) else (none)) = some (r1, r2) := H
                                    have A53 := Aside0.mk A530
                                    clear A530
                                    by_cases c54 : x6_4.length + t206.length < 140737488355328
                                    · rw [if_pos c54] at H
                                      have LMc54 := Aside0.mk c54
                                      clear c54
                                      obtain ⟨y209, hy209⟩ : ∃ y_ : List Int, y_ = (x6_4 ++ t206) := ⟨_, rfl⟩
                                      replace H : ((fourinhandref03_Four.f (wrap64 ((rd_T58 l0_13 x9_4).f1))).bind fun t213 => (if y209.length + t213.length < 140737488355328 then (fourinhandref07_Put.l1 k4 (y209 ++ t213) (wrap64 (x9_4 + 1)) a0_0 a0_1 a0_2 a0_3 a0_4 a0_5 a0_6 a0_7 a0_8 a0_9 a0_10 a0_11 a0_12 l0_13 l0_14) else (none))) = some (r1, r2) := by first | (rw [hy209]; with_reducible exact H) | (have H2_ := (Option.bind_some _ _).symm.trans H; rw [hy209]; with_reducible exact H2_) | (have H2_ := (Option.bind_some _ _).symm.trans H; with_reducible exact H2_) | with_reducible exact H | (rw [hy209]; exact H) | exact H
                                      have Ny209 := Aside0.mk hy209
                                      clear hy209
                                      replace H := Option.bind_eq_some_iff.mp H
                                      obtain ⟨t213, A550, H⟩ := H
                                      replace H : (if y209.length + t213.length < 140737488355328 then (fourinhandref07_Put.l1 k4 (y209 ++ t213) (wrap64 (x9_4 + 1)) a0_0 a0_1 a0_2 a0_3 a0_4 a0_5 a0_6 a0_7 a0_8 a0_9 a0_10 a0_11 a0_12 l0_13 l0_14) else (none)) = some (r1, r2) := H
                                      have A55 := Aside0.mk A550
                                      clear A550
                                      by_cases c56 : y209.length + t213.length < 140737488355328
                                      · rw [if_pos c56] at H
                                        have LMc56 := Aside0.mk c56
                                        clear c56
                                        obtain ⟨y216, hy216⟩ : ∃ y_ : List Int, y_ = (y209 ++ t213) := ⟨_, rfl⟩
                                        replace H : (fourinhandref07_Put.l1 k4 y216 (wrap64 (x9_4 + 1)) a0_0 a0_1 a0_2 a0_3 a0_4 a0_5 a0_6 a0_7 a0_8 a0_9 a0_10 a0_11 a0_12 l0_13 l0_14) = some (r1, r2) := by first | (rw [hy216]; with_reducible exact H) | (have H2_ := (Option.bind_some _ _).symm.trans H; rw [hy216]; with_reducible exact H2_) | (have H2_ := (Option.bind_some _ _).symm.trans H; with_reducible exact H2_) | with_reducible exact H | (rw [hy216]; exact H) | exact H
                                        have Ny216 := Aside0.mk hy216
                                        clear hy216
                                        have H' := Aside0.mk H
                                        clear H
                                        have hcz57_0 : wr.cell? ⟨gb165, 0, none⟩ = some (.int .i64 a0_0) := (blk_cell BK165.out 0).trans rfl
                                        have hcz57_1 : wr.cell? ⟨gb165, 1, none⟩ = some (.int .i64 a0_1) := (blk_cell BK165.out 1).trans rfl
                                        have hcz57_2 : wr.cell? ⟨gb165, 2, none⟩ = some (.bool a0_2) := (blk_cell BK165.out 2).trans rfl
                                        have hcz57_3 : wr.cell? ⟨gb165, 3, none⟩ = some (.bool a0_3) := (blk_cell BK165.out 3).trans rfl
                                        have hcz57_4 : wr.cell? ⟨gb165, 4, none⟩ = some (.int .u32 a0_4) := (blk_cell BK165.out 4).trans rfl
                                        have hcz57_5 : wr.cell? ⟨gb165, 5, none⟩ = some (.int .u32 a0_5) := (blk_cell BK165.out 5).trans rfl
                                        have hcz57_6 : wr.cell? ⟨gb165, 6, none⟩ = some (.int .u32 a0_6) := (blk_cell BK165.out 6).trans rfl
                                        have hcz57_7 : wr.cell? ⟨gb165, 7, none⟩ = some (.int .u32 a0_7) := (blk_cell BK165.out 7).trans rfl
                                        have hcz57_8 : wr.cell? ⟨gb165, 8, none⟩ = some (.int .i64 a0_8) := (blk_cell BK165.out 8).trans rfl
                                        have hcz57_9 : wr.cell? ⟨gb165, 9, none⟩ = some (.int .i64 a0_9) := (blk_cell BK165.out 9).trans rfl
                                        have hcz57_10 : wr.cell? ⟨gb165, 10, none⟩ = some (.int .u32 a0_10) := (blk_cell BK165.out 10).trans rfl
                                        have hcz57_11 : wr.cell? ⟨gb165, 11, none⟩ = some (.int .u32 a0_11) := (blk_cell BK165.out 11).trans rfl
                                        have hcz57_12 : wr.cell? ⟨gb165, 12, none⟩ = some (.int .u32 a0_12) := (blk_cell BK165.out 12).trans rfl
                                        have hcz57_13 : wr.cell? ⟨gb165, 13, none⟩ = some (.slice A0_13 l0_13.length c0_13) := (blk_cell BK165.out 13).trans rfl
                                        have hcz57_14 : wr.cell? ⟨gb165, 14, none⟩ = some (.slice A0_14 l0_14.length c0_14) := (blk_cell BK165.out 14).trans rfl
                                        have hfz57_0 := blk_frozen BK165.out 0
                                        have hfz57_1 := blk_frozen BK165.out 1
                                        have hfz57_2 := blk_frozen BK165.out 2
                                        have hfz57_3 := blk_frozen BK165.out 3
                                        have hfz57_4 := blk_frozen BK165.out 4
                                        have hfz57_5 := blk_frozen BK165.out 5
                                        have hfz57_6 := blk_frozen BK165.out 6
                                        have hfz57_7 := blk_frozen BK165.out 7
                                        have hfz57_8 := blk_frozen BK165.out 8
                                        have hfz57_9 := blk_frozen BK165.out 9
                                        have hfz57_10 := blk_frozen BK165.out 10
                                        have hfz57_11 := blk_frozen BK165.out 11
                                        have hfz57_12 := blk_frozen BK165.out 12
                                        have hfz57_13 := blk_frozen BK165.out 13
                                        have hfz57_14 := blk_frozen BK165.out 14
                                        have p205 : 0 ≤ (x9_4 : Int) := of_decide_eq_true (by first | (with_reducible assumption) | assumption)
                                        have q205 : x9_4 < (l0_13.length : Int) := of_decide_eq_true (by first | (with_reducible assumption) | assumption)
                                        obtain ⟨ad205, e205, hx205_0, hx205_1⟩ := at_T58 HR0_13.out x9_4 p205 q205
                                        cases e205
                                        replace hx205_0 := (HB.out.cell (World.block_lt_of_cell? w _ hx205_0)).trans hx205_0
                                        replace hx205_1 := (HB.out.cell (World.block_lt_of_cell? w _ hx205_1)).trans hx205_1
                                        replace p205 := eq_true p205
                                        replace q205 := eq_true q205
                                        go_wp2_with (first | ((with_reducible refine gate_callee (f := 36) rfl ?_); refine goesL_ (some 105) rfl rfl Try.func36 (by kernel_rfl) rfl #[.int .i64 (wrap64 ((rd_T58 l0_13 x9_4).f0))] rfl (by (try simp only [List.map_toArray, List.map_cons, List.map_nil]); first | done | rfl | (simp only [List.length_drop, List.length_take]; rfl)) ?_; (with_reducible refine (fourinhandref03_Four.calls (wrap64 ((rd_T58 l0_13 x9_4).f0)) t206 _ A53.out).mono ?_); rintro e w58 ⟨v207, rfl, ho0, hb⟩; refine ⟨_, rfl, ?_⟩; have n0_ := Aside0.mk (Kd.R_elder' (by (with_reducible repeat (first | apply Kd.R_alloc | apply Kd.R_drewN | apply Kd.R_drew)); exact HO_6.out) (Kd.R_base ho0) hb); have n1_ := Aside0.mk (Kd.R_lower (Kd.R_new' ho0 (Kd.R_lt (by (with_reducible repeat (first | apply Kd.R_alloc | apply Kd.R_drewN | apply Kd.R_drew)); exact HO_6.out))) (below_size (by repeat (first | (with_reducible first | exact HB.out | apply below_alloc | apply pw_below_drewN | apply below_drew1 | refine below_set ?_ GE165.out) | exact HB.out)))); have n2_ := Aside0.mk (blk_below (g := gb165) (o := .cells #[.int .i64 a0_0, .int .i64 a0_1, .bool a0_2, .bool a0_3, .int .u32 a0_4, .int .u32 a0_5, .int .u32 a0_6, .int .u32 a0_7, .int .i64 a0_8, .int .i64 a0_9, .int .u32 a0_10, .int .u32 a0_11, .int .u32 a0_12, .slice (some ad205) l0_13.length c0_13, .slice A0_14 l0_14.length c0_14] 41 (0, 0)) (by (with_reducible repeat (first | refine blk_drewN ?_ _ | refine blk_drew ?_ | refine blk_alloc ?_ _)); exact BK165.out) hb); have n3_ := Aside0.mk (below_step (by repeat (first | (with_reducible first | exact HB.out | apply below_alloc | apply pw_below_drewN | apply below_drew1 | refine below_set ?_ GE165.out) | exact HB.out)) hb); clear HO_6; clear BK165; clear HB; have HO_6 := n0_; have HO208 := n1_; have BK165 := n2_; have HB := n3_; clear n0_ n1_ n2_ n3_; (try clear hb); (try clear hb2); (try clear hk); (try clear hi); (try clear ho0); obtain ⟨Ao60, co60, eo60⟩ := Kd.R_slice HO208.out; subst eo60) | ((with_reducible refine gate_builtin (b := .append) (xs := #[.tmp 97, .tmp 105]) rfl ?_); at_builtin; refine Kd.R_append_rows (Kd.int .u8) (w0 := w) w.heap.size rfl (.tmp 97) (.tmp 105) 23 5 (.int .u8 0) 1 rfl Try.underlying23 info5 rfl (by decide) (by omega) u6 x6_4 t206 _ _ _ (fun k_ => some k_ ≠ (.slice Ao60 t206.length co60 : Value).ownBlock) (fun _ => False) rfl rfl ?aO ?aR (fun _ _ h => h) (fun _ h => h.elim) ?aF ?aB ?aS ?aL ?_; (case aR => repeat (first | exact (Kd.R_reads' HO208.out).2.2 | (with_reducible refine Kd.C_alloc ?_ _) | (with_reducible refine Kd.C_drewN ?_ _) | (with_reducible refine Kd.C_drew ?_))); (case aB => exact (by repeat (first | (with_reducible first | exact HB.out | apply below_alloc | apply pw_below_drewN | apply below_drew1 | refine below_set ?_ GE165.out) | exact HB.out))); (case aF => exact (fun k_ hk => Kd.fresh' (Kd.R_lt (by (with_reducible repeat (first | apply Kd.R_alloc | apply Kd.R_drewN | apply Kd.R_drew)); exact HO208.out)) k_ hk)); (case aO => exact (by (with_reducible repeat (first | apply Kd.R_alloc | apply Kd.R_drewN | apply Kd.R_drew)); exact Kd.R_mono HO_6.out (fun _ hk => hk.2))); (case aS => exact (below_size (by repeat (first | (with_reducible first | exact HB.out | apply below_alloc | apply pw_below_drewN | apply below_drew1 | refine below_set ?_ GE165.out) | exact HB.out)))); (case aL => have := LMc54.out; omega); intro v210 w59 ho hb hg hat; rw [← Ny209.out] at ho; have n0_ := Aside0.mk (blk_grown (g := gb165) (o := .cells #[.int .i64 a0_0, .int .i64 a0_1, .bool a0_2, .bool a0_3, .int .u32 a0_4, .int .u32 a0_5, .int .u32 a0_6, .int .u32 a0_7, .int .i64 a0_8, .int .i64 a0_9, .int .u32 a0_10, .int .u32 a0_11, .int .u32 a0_12, .slice (some ad205) l0_13.length c0_13, .slice A0_14 l0_14.length c0_14] 41 (0, 0)) (by (with_reducible repeat (first | refine blk_drewN ?_ _ | refine blk_drew ?_ | refine blk_alloc ?_ _)); exact BK165.out) hg (Kd.R_ne HO_6.out BK165.out (by decide))); have n1_ := Aside0.mk (Kd.R_after (ok := (fun _ => True)) (by (with_reducible repeat (first | apply Kd.R_alloc | apply Kd.R_drewN | apply Kd.R_drew)); exact HO208.out) hg hat); have n2_ := Aside0.mk (hb); have n3_ := Aside0.mk (ho); clear BK165; clear HO208; clear HB; clear HO_6; have BK165 := n0_; have HO208 := n1_; have HB := n2_; have HO211 := n3_; clear n0_ n1_ n2_ n3_; clear ho hb hg hat; have hcz61_0 : w59.cell? ⟨gb165, 0, none⟩ = some (.int .i64 a0_0) := (blk_cell BK165.out 0).trans rfl; have hcz61_1 : w59.cell? ⟨gb165, 1, none⟩ = some (.int .i64 a0_1) := (blk_cell BK165.out 1).trans rfl; have hcz61_2 : w59.cell? ⟨gb165, 2, none⟩ = some (.bool a0_2) := (blk_cell BK165.out 2).trans rfl; have hcz61_3 : w59.cell? ⟨gb165, 3, none⟩ = some (.bool a0_3) := (blk_cell BK165.out 3).trans rfl; have hcz61_4 : w59.cell? ⟨gb165, 4, none⟩ = some (.int .u32 a0_4) := (blk_cell BK165.out 4).trans rfl; have hcz61_5 : w59.cell? ⟨gb165, 5, none⟩ = some (.int .u32 a0_5) := (blk_cell BK165.out 5).trans rfl; have hcz61_6 : w59.cell? ⟨gb165, 6, none⟩ = some (.int .u32 a0_6) := (blk_cell BK165.out 6).trans rfl; have hcz61_7 : w59.cell? ⟨gb165, 7, none⟩ = some (.int .u32 a0_7) := (blk_cell BK165.out 7).trans rfl; have hcz61_8 : w59.cell? ⟨gb165, 8, none⟩ = some (.int .i64 a0_8) := (blk_cell BK165.out 8).trans rfl; have hcz61_9 : w59.cell? ⟨gb165, 9, none⟩ = some (.int .i64 a0_9) := (blk_cell BK165.out 9).trans rfl; have hcz61_10 : w59.cell? ⟨gb165, 10, none⟩ = some (.int .u32 a0_10) := (blk_cell BK165.out 10).trans rfl; have hcz61_11 : w59.cell? ⟨gb165, 11, none⟩ = some (.int .u32 a0_11) := (blk_cell BK165.out 11).trans rfl; have hcz61_12 : w59.cell? ⟨gb165, 12, none⟩ = some (.int .u32 a0_12) := (blk_cell BK165.out 12).trans rfl; have hcz61_13 : w59.cell? ⟨gb165, 13, none⟩ = some (.slice (some ad205) l0_13.length c0_13) := (blk_cell BK165.out 13).trans rfl; have hcz61_14 : w59.cell? ⟨gb165, 14, none⟩ = some (.slice A0_14 l0_14.length c0_14) := (blk_cell BK165.out 14).trans rfl; have hfz61_0 := blk_frozen BK165.out 0; have hfz61_1 := blk_frozen BK165.out 1; have hfz61_2 := blk_frozen BK165.out 2; have hfz61_3 := blk_frozen BK165.out 3; have hfz61_4 := blk_frozen BK165.out 4; have hfz61_5 := blk_frozen BK165.out 5; have hfz61_6 := blk_frozen BK165.out 6; have hfz61_7 := blk_frozen BK165.out 7; have hfz61_8 := blk_frozen BK165.out 8; have hfz61_9 := blk_frozen BK165.out 9; have hfz61_10 := blk_frozen BK165.out 10; have hfz61_11 := blk_frozen BK165.out 11; have hfz61_12 := blk_frozen BK165.out 12; have hfz61_13 := blk_frozen BK165.out 13; have hfz61_14 := blk_frozen BK165.out 14; have p212 : 0 ≤ (x9_4 : Int) := of_decide_eq_true (by first | (with_reducible assumption) | assumption); have q212 : x9_4 < (l0_13.length : Int) := of_decide_eq_true (by first | (with_reducible assumption) | assumption); obtain ⟨ad212, e212, hx212_0, hx212_1⟩ := at_T58 HR0_13.out x9_4 p212 q212; obtain rfl : ad205 = ad212 := (by injection e212); replace hx212_0 := (HB.out.cell (World.block_lt_of_cell? w _ hx212_0)).trans hx212_0; replace hx212_1 := (HB.out.cell (World.block_lt_of_cell? w _ hx212_1)).trans hx212_1; replace p212 := eq_true p212; replace q212 := eq_true q212) | ((with_reducible refine gate_callee (f := 36) rfl ?_); refine goesL_ (some 115) rfl rfl Try.func36 (by kernel_rfl) rfl #[.int .i64 (wrap64 ((rd_T58 l0_13 x9_4).f1))] rfl (by (try simp only [List.map_toArray, List.map_cons, List.map_nil]); first | done | rfl | (simp only [List.length_drop, List.length_take]; rfl)) ?_; (with_reducible refine (fourinhandref03_Four.calls (wrap64 ((rd_T58 l0_13 x9_4).f1)) t213 _ A55.out).mono ?_); rintro e w62 ⟨v214, rfl, ho0, hb⟩; refine ⟨_, rfl, ?_⟩; have n0_ := Aside0.mk (Kd.R_elder' (by (with_reducible repeat (first | apply Kd.R_alloc | apply Kd.R_drewN | apply Kd.R_drew)); exact HO208.out) (Kd.R_base ho0) hb); have n1_ := Aside0.mk (Kd.R_elder' (by (with_reducible repeat (first | apply Kd.R_alloc | apply Kd.R_drewN | apply Kd.R_drew)); exact HO211.out) (Kd.R_base ho0) hb); have n2_ := Aside0.mk (Kd.R_lower (Kd.R_new' (Kd.R_new' ho0 (Kd.R_lt (by (with_reducible repeat (first | apply Kd.R_alloc | apply Kd.R_drewN | apply Kd.R_drew)); exact HO208.out))) (Kd.R_lt (by (with_reducible repeat (first | apply Kd.R_alloc | apply Kd.R_drewN | apply Kd.R_drew)); exact HO211.out))) (below_size (by repeat (first | (with_reducible first | exact HB.out | apply below_alloc | apply pw_below_drewN | apply below_drew1 | refine below_set ?_ GE165.out) | exact HB.out)))); have n3_ := Aside0.mk (blk_below (g := gb165) (o := .cells #[.int .i64 a0_0, .int .i64 a0_1, .bool a0_2, .bool a0_3, .int .u32 a0_4, .int .u32 a0_5, .int .u32 a0_6, .int .u32 a0_7, .int .i64 a0_8, .int .i64 a0_9, .int .u32 a0_10, .int .u32 a0_11, .int .u32 a0_12, .slice (some ad205) l0_13.length c0_13, .slice A0_14 l0_14.length c0_14] 41 (0, 0)) (by (with_reducible repeat (first | refine blk_drewN ?_ _ | refine blk_drew ?_ | refine blk_alloc ?_ _)); exact BK165.out) hb); have n4_ := Aside0.mk (below_step (by repeat (first | (with_reducible first | exact HB.out | apply below_alloc | apply pw_below_drewN | apply below_drew1 | refine below_set ?_ GE165.out) | exact HB.out)) hb); clear HO208; clear HO211; clear BK165; clear HB; have HO208 := n0_; have HO211 := n1_; have HO215 := n2_; have BK165 := n3_; have HB := n4_; clear n0_ n1_ n2_ n3_ n4_; (try clear hb); (try clear hb2); (try clear hk); (try clear hi); (try clear ho0); obtain ⟨Ao64, co64, eo64⟩ := Kd.R_slice HO215.out; subst eo64) | ((with_reducible refine gate_builtin (b := .append) (xs := #[.tmp 107, .tmp 115]) rfl ?_); at_builtin; refine Kd.R_append_rows (Kd.int .u8) (w0 := w) w.heap.size rfl (.tmp 107) (.tmp 115) 23 5 (.int .u8 0) 1 rfl Try.underlying23 info5 rfl (by decide) (by omega) v210 y209 t213 _ _ _ (fun k_ => some k_ ≠ (.slice Ao60 t206.length co60 : Value).ownBlock ∧ some k_ ≠ (.slice Ao64 t213.length co64 : Value).ownBlock) (fun _ => False) rfl rfl ?aO ?aR (fun _ _ h => h) (fun _ h => h.elim) ?aF ?aB ?aS ?aL ?_; (case aR => repeat (first | exact (Kd.R_reads' HO215.out).2.2 | (with_reducible refine Kd.C_alloc ?_ _) | (with_reducible refine Kd.C_drewN ?_ _) | (with_reducible refine Kd.C_drew ?_))); (case aB => exact (by repeat (first | (with_reducible first | exact HB.out | apply below_alloc | apply pw_below_drewN | apply below_drew1 | refine below_set ?_ GE165.out) | exact HB.out))); (case aF => exact (fun k_ hk => ⟨Kd.fresh' (Kd.R_lt (by (with_reducible repeat (first | apply Kd.R_alloc | apply Kd.R_drewN | apply Kd.R_drew)); exact HO208.out)) k_ hk, Kd.fresh' (Kd.R_lt (by (with_reducible repeat (first | apply Kd.R_alloc | apply Kd.R_drewN | apply Kd.R_drew)); exact HO215.out)) k_ hk⟩)); (case aO => exact (by (with_reducible repeat (first | apply Kd.R_alloc | apply Kd.R_drewN | apply Kd.R_drew)); exact HO211.out)); (case aS => exact (below_size (by repeat (first | (with_reducible first | exact HB.out | apply below_alloc | apply pw_below_drewN | apply below_drew1 | refine below_set ?_ GE165.out) | exact HB.out)))); (case aL => have := LMc56.out; omega); intro v217 w63 ho hb hg hat; rw [← Ny216.out] at ho; have n0_ := Aside0.mk (blk_grown (g := gb165) (o := .cells #[.int .i64 a0_0, .int .i64 a0_1, .bool a0_2, .bool a0_3, .int .u32 a0_4, .int .u32 a0_5, .int .u32 a0_6, .int .u32 a0_7, .int .i64 a0_8, .int .i64 a0_9, .int .u32 a0_10, .int .u32 a0_11, .int .u32 a0_12, .slice (some ad205) l0_13.length c0_13, .slice A0_14 l0_14.length c0_14] 41 (0, 0)) (by (with_reducible repeat (first | refine blk_drewN ?_ _ | refine blk_drew ?_ | refine blk_alloc ?_ _)); exact BK165.out) hg (Kd.R_ne HO211.out BK165.out (by decide))); have n1_ := Aside0.mk (Kd.R_after (ok := (fun k_ => some k_ ≠ (.slice Ao64 t213.length co64 : Value).ownBlock)) (by (with_reducible repeat (first | apply Kd.R_alloc | apply Kd.R_drewN | apply Kd.R_drew)); exact Kd.R_mono HO208.out (fun _ hk => ⟨hk.2, hk.1.2⟩)) hg hat); have n2_ := Aside0.mk (Kd.R_after (ok := (fun k_ => some k_ ≠ (.slice Ao60 t206.length co60 : Value).ownBlock)) (by (with_reducible repeat (first | apply Kd.R_alloc | apply Kd.R_drewN | apply Kd.R_drew)); exact Kd.R_mono HO215.out (fun _ hk => ⟨hk.1.2, hk.2⟩)) hg hat); have n3_ := Aside0.mk (hb); have n4_ := Aside0.mk (ho); clear BK165; clear HO208; clear HO215; clear HB; clear HO211; have BK165 := n0_; have HO208 := n1_; have HO215 := n2_; have HB := n3_; have HO218 := n4_; clear n0_ n1_ n2_ n3_ n4_; clear ho hb hg hat))
                                        go_roundg k4
                                        case measure => have := HJ3.out; have := HJ9.out; have := HK3.out; have := HK4.out; omega
                                        case rel => exact ⟨(y216), (wrap64 (x9_4 + 1)), (by first | rfl | (simp; done) | (simp [*]; done)), H', ⟨by have := HJ3.out; have := HJ9.out; have := HK3.out; have := HK4.out; omega⟩, ⟨by (with_reducible repeat (first | apply Kd.R_alloc | apply Kd.R_drewN | apply Kd.R_drew)); exact Kd.R_mono HO218.out (fun _ hk => trivial)⟩, ⟨by (with_reducible repeat (first | refine blk_drewN ?_ _ | refine blk_drew ?_ | refine blk_alloc ?_ _)); exact BK165.out⟩, ⟨by repeat (first | (with_reducible first | exact HB.out | apply below_alloc | apply pw_below_drewN | apply below_drew1 | refine below_set ?_ GE165.out) | exact HB.out)⟩⟩
                                      · rw [if_neg c56] at H
                                        exact absurd H (by simp)
                                    · rw [if_neg c54] at H
                                      exact absurd H (by simp)
                                  · rw [if_neg c52] at H
                                    exact absurd H (by simp)
                                · rw [if_neg c51] at H
                                  have c51b0 : decide (x9_4 < (l0_13.length : Int)) = false := decide_eq_false c51
                                  clear c51
                                  by_cases c65 : x6_4.length + l0_14.length < 140737488355328
                                  · rw [if_pos c65] at H
                                    have LMc65 := Aside0.mk c65
                                    clear c65
                                    obtain ⟨y219, hy219⟩ : ∃ y_ : List Int, y_ = (x6_4 ++ l0_14) := ⟨_, rfl⟩
                                    replace H : ((fourinhandref03_Seal.f k4 y219).bind fun t222 => (some (t222, 0))) = some (r1, r2) := by first | (rw [hy219]; with_reducible exact H) | (have H2_ := (Option.bind_some _ _).symm.trans H; rw [hy219]; with_reducible exact H2_) | (have H2_ := (Option.bind_some _ _).symm.trans H; with_reducible exact H2_) | with_reducible exact H | (rw [hy219]; exact H) | exact H
                                    have Ny219 := Aside0.mk hy219
                                    clear hy219
                                    replace H := Option.bind_eq_some_iff.mp H
                                    obtain ⟨t222, A660, H⟩ := H
                                    replace H : (some (t222, 0)) = some (r1, r2) := H
                                    have A66 := Aside0.mk A660
                                    clear A660
                                    simp only [Option.some.injEq, Prod.mk.injEq] at H
                                    obtain ⟨rfl, rfl⟩ := H
                                    have hcz67_0 : wr.cell? ⟨gb165, 0, none⟩ = some (.int .i64 a0_0) := (blk_cell BK165.out 0).trans rfl
                                    have hcz67_1 : wr.cell? ⟨gb165, 1, none⟩ = some (.int .i64 a0_1) := (blk_cell BK165.out 1).trans rfl
                                    have hcz67_2 : wr.cell? ⟨gb165, 2, none⟩ = some (.bool a0_2) := (blk_cell BK165.out 2).trans rfl
                                    have hcz67_3 : wr.cell? ⟨gb165, 3, none⟩ = some (.bool a0_3) := (blk_cell BK165.out 3).trans rfl
                                    have hcz67_4 : wr.cell? ⟨gb165, 4, none⟩ = some (.int .u32 a0_4) := (blk_cell BK165.out 4).trans rfl
                                    have hcz67_5 : wr.cell? ⟨gb165, 5, none⟩ = some (.int .u32 a0_5) := (blk_cell BK165.out 5).trans rfl
                                    have hcz67_6 : wr.cell? ⟨gb165, 6, none⟩ = some (.int .u32 a0_6) := (blk_cell BK165.out 6).trans rfl
                                    have hcz67_7 : wr.cell? ⟨gb165, 7, none⟩ = some (.int .u32 a0_7) := (blk_cell BK165.out 7).trans rfl
                                    have hcz67_8 : wr.cell? ⟨gb165, 8, none⟩ = some (.int .i64 a0_8) := (blk_cell BK165.out 8).trans rfl
                                    have hcz67_9 : wr.cell? ⟨gb165, 9, none⟩ = some (.int .i64 a0_9) := (blk_cell BK165.out 9).trans rfl
                                    have hcz67_10 : wr.cell? ⟨gb165, 10, none⟩ = some (.int .u32 a0_10) := (blk_cell BK165.out 10).trans rfl
                                    have hcz67_11 : wr.cell? ⟨gb165, 11, none⟩ = some (.int .u32 a0_11) := (blk_cell BK165.out 11).trans rfl
                                    have hcz67_12 : wr.cell? ⟨gb165, 12, none⟩ = some (.int .u32 a0_12) := (blk_cell BK165.out 12).trans rfl
                                    have hcz67_13 : wr.cell? ⟨gb165, 13, none⟩ = some (.slice A0_13 l0_13.length c0_13) := (blk_cell BK165.out 13).trans rfl
                                    have hcz67_14 : wr.cell? ⟨gb165, 14, none⟩ = some (.slice A0_14 l0_14.length c0_14) := (blk_cell BK165.out 14).trans rfl
                                    have hfz67_0 := blk_frozen BK165.out 0
                                    have hfz67_1 := blk_frozen BK165.out 1
                                    have hfz67_2 := blk_frozen BK165.out 2
                                    have hfz67_3 := blk_frozen BK165.out 3
                                    have hfz67_4 := blk_frozen BK165.out 4
                                    have hfz67_5 := blk_frozen BK165.out 5
                                    have hfz67_6 := blk_frozen BK165.out 6
                                    have hfz67_7 := blk_frozen BK165.out 7
                                    have hfz67_8 := blk_frozen BK165.out 8
                                    have hfz67_9 := blk_frozen BK165.out 9
                                    have hfz67_10 := blk_frozen BK165.out 10
                                    have hfz67_11 := blk_frozen BK165.out 11
                                    have hfz67_12 := blk_frozen BK165.out 12
                                    have hfz67_13 := blk_frozen BK165.out 13
                                    have hfz67_14 := blk_frozen BK165.out 14
                                    go_wp2_with (first | ((with_reducible refine gate_builtin (b := .append) (xs := #[.tmp 117, .tmp 119]) rfl ?_); at_builtin; refine Kd.R_append_rows (Kd.int .u8) (w0 := w) w.heap.size rfl (.tmp 117) (.tmp 119) 23 5 (.int .u8 0) 1 rfl Try.underlying23 info5 rfl (by decide) (by omega) u6 x6_4 l0_14 _ _ _ (fun _ => True) (fun _ => False) rfl rfl ?aO ?aR (fun _ _ h => h) (fun _ h => h.elim) ?aF ?aB ?aS ?aL ?_; (case aR => repeat (first | exact (Kd.C_below HR0_14.out HB.out) | (with_reducible refine Kd.C_alloc ?_ _) | (with_reducible refine Kd.C_drewN ?_ _) | (with_reducible refine Kd.C_drew ?_))); (case aB => exact (by repeat (first | (with_reducible first | exact HB.out | apply below_alloc | apply pw_below_drewN | apply below_drew1 | refine below_set ?_ GE165.out) | exact HB.out))); (case aF => exact (fun _ _ => trivial)); (case aO => exact (by (with_reducible repeat (first | apply Kd.R_alloc | apply Kd.R_drewN | apply Kd.R_drew)); exact HO_6.out)); (case aS => exact (below_size (by repeat (first | (with_reducible first | exact HB.out | apply below_alloc | apply pw_below_drewN | apply below_drew1 | refine below_set ?_ GE165.out) | exact HB.out)))); (case aL => have := LMc65.out; omega); intro v220 w68 ho hb hg hat; rw [← Ny219.out] at ho; have n0_ := Aside0.mk (blk_grown (g := gb165) (o := .cells #[.int .i64 a0_0, .int .i64 a0_1, .bool a0_2, .bool a0_3, .int .u32 a0_4, .int .u32 a0_5, .int .u32 a0_6, .int .u32 a0_7, .int .i64 a0_8, .int .i64 a0_9, .int .u32 a0_10, .int .u32 a0_11, .int .u32 a0_12, .slice A0_13 l0_13.length c0_13, .slice A0_14 l0_14.length c0_14] 41 (0, 0)) (by (with_reducible repeat (first | refine blk_drewN ?_ _ | refine blk_drew ?_ | refine blk_alloc ?_ _)); exact BK165.out) hg (Kd.R_ne HO_6.out BK165.out (by decide))); have n1_ := Aside0.mk (hb); have n2_ := Aside0.mk (ho); clear BK165; clear HB; clear HO_6; have BK165 := n0_; have HB := n1_; have HO221 := n2_; clear n0_ n1_ n2_; clear ho hb hg hat; obtain ⟨Ao69, co69, eo69⟩ := Kd.R_slice HO221.out; subst eo69) | ((with_reducible refine gate_callee (f := 20) rfl ?_); refine goesL_ (some 121) rfl rfl Try.func20 (by kernel_rfl) rfl #[.slice Ao69 y219.length co69] rfl (by (try simp only [List.map_toArray, List.map_cons, List.map_nil]); first | done | rfl | (simp only [List.length_drop, List.length_take]; rfl)) ?_; (with_reducible refine (fourinhandref03_Seal.calls k4 _ _ y219 t222 _ ?side1 ?side2 A66.out).mono ?_); (case side1 => repeat (first | exact (Kd.R_reads' HO221.out).2.2 | (with_reducible refine Kd.C_alloc ?_ _) | (with_reducible refine Kd.C_drewN ?_ _) | (with_reducible refine Kd.C_drew ?_))); (case side2 => exact (Kd.R_reads' HO221.out).2.1); rintro e w70 ⟨v223, rfl, ho0, hb⟩; refine ⟨_, rfl, ?_⟩; have n0_ := Aside0.mk (Kd.R_elder' (by (with_reducible repeat (first | apply Kd.R_alloc | apply Kd.R_drewN | apply Kd.R_drew)); exact HO221.out) (Kd.R_base ho0) hb); have n1_ := Aside0.mk (Kd.R_lower (Kd.R_new' ho0 (Kd.R_lt (by (with_reducible repeat (first | apply Kd.R_alloc | apply Kd.R_drewN | apply Kd.R_drew)); exact HO221.out))) (below_size (by repeat (first | (with_reducible first | exact HB.out | apply below_alloc | apply pw_below_drewN | apply below_drew1 | refine below_set ?_ GE165.out) | exact HB.out)))); have n2_ := Aside0.mk (blk_below (g := gb165) (o := .cells #[.int .i64 a0_0, .int .i64 a0_1, .bool a0_2, .bool a0_3, .int .u32 a0_4, .int .u32 a0_5, .int .u32 a0_6, .int .u32 a0_7, .int .i64 a0_8, .int .i64 a0_9, .int .u32 a0_10, .int .u32 a0_11, .int .u32 a0_12, .slice A0_13 l0_13.length c0_13, .slice A0_14 l0_14.length c0_14] 41 (0, 0)) (by (with_reducible repeat (first | refine blk_drewN ?_ _ | refine blk_drew ?_ | refine blk_alloc ?_ _)); exact BK165.out) hb); have n3_ := Aside0.mk (below_step (by repeat (first | (with_reducible first | exact HB.out | apply below_alloc | apply pw_below_drewN | apply below_drew1 | refine below_set ?_ GE165.out) | exact HB.out)) hb); clear HO221; clear BK165; clear HB; have HO221 := n0_; have HO224 := n1_; have BK165 := n2_; have HB := n3_; clear n0_ n1_ n2_ n3_; (try clear hb); (try clear hb2); (try clear hk); (try clear hi); (try clear ho0)))
                                    go_ret2
                                    exact ⟨_, by first | rfl | (simp [errW_none, errW_some] <;> rfl) | (simp [*, errW_none, errW_some] <;> rfl), by (with_reducible repeat (first | apply Kd.R_alloc | apply Kd.R_drewN | apply Kd.R_drew)); exact Kd.R_mono HO224.out (fun _ hk => trivial), by repeat (first | (with_reducible first | exact HB.out | apply below_alloc | apply pw_below_drewN | apply below_drew1 | refine below_set ?_ GE165.out) | exact HB.out)⟩
                                  · rw [if_neg c65] at H
                                    exact absurd H (by simp)
                          · rw [if_neg c35] at H
                            exact absurd H (by simp)
                        · rw [if_neg c34] at H
                          exact absurd H (by simp)
                      · rw [if_neg c32] at H
                        exact absurd H (by simp)
                    · rw [if_neg c30] at H
                      exact absurd H (by simp)
                  · rw [if_neg c29] at H
                    exact absurd H (by simp)
  · replace c3 := Bool.eq_false_iff.mpr c3
    subst c3
    have H1 : (some (([] : List Int), 1)) = some (r1, r2) := by rw [if_neg (show ¬ (false = true) by decide)] at H; exact H
    clear H
    have H := H1
    clear H1
    simp only [Option.some.injEq, Prod.mk.injEq] at H
    obtain ⟨rfl, rfl⟩ := H
    go_enter Try.func27, Try.ntmps27
    go_wp2_with (first | ((with_reducible refine gate_dst (N := 1) rfl ?_); refine box_event ?hg (N := 1) ?hd (cs := #[.int .i64 a0_0, .int .i64 a0_1, .bool a0_2, .bool a0_3, .int .u32 a0_4, .int .u32 a0_5, .int .u32 a0_6, .int .u32 a0_7, .int .i64 a0_8, .int .i64 a0_9, .int .u32 a0_10, .int .u32 a0_11, .int .u32 a0_12, .slice A0_13 l0_13.length c0_13, .slice A0_14 l0_14.length c0_14]) (t := 41) ?hr ?_; (case hd => rfl); (case hg => rfl); (case hr => first | (go_simp; done) | (go_simp; rfl)); intro gb165 hg w71 hbox hb; have n0_ := Aside0.mk (below_step (by repeat (first | (with_reducible first | exact HB.out | apply below_alloc | apply pw_below_drewN | apply below_drew1) | exact HB.out)) hb); have n1_ := Aside0.mk (hbox); have n2_ := Aside0.mk ((by rw [hg]; exact (below_size (by repeat (first | (with_reducible first | exact HB.out | apply below_alloc | apply pw_below_drewN | apply below_drew1) | exact HB.out))) : w.heap.size ≤ gb165)); have n3_ := Aside0.mk ((by rw [hg]; exact (below_size (by repeat (first | (with_reducible first | exact HB.out | apply below_alloc | apply pw_below_drewN | apply below_drew1) | exact HB.out))) : w.heap.size ≤ gb165)); clear HB; have HB := n0_; have BK165 := n1_; have GW165 := n2_; have GE165 := n3_; clear n0_ n1_ n2_ n3_; clear hb hbox hg; have hcz72_0 : w71.cell? ⟨gb165, 0, none⟩ = some (.int .i64 a0_0) := (blk_cell BK165.out 0).trans rfl; have hcz72_1 : w71.cell? ⟨gb165, 1, none⟩ = some (.int .i64 a0_1) := (blk_cell BK165.out 1).trans rfl; have hcz72_2 : w71.cell? ⟨gb165, 2, none⟩ = some (.bool a0_2) := (blk_cell BK165.out 2).trans rfl; have hcz72_3 : w71.cell? ⟨gb165, 3, none⟩ = some (.bool a0_3) := (blk_cell BK165.out 3).trans rfl; have hcz72_4 : w71.cell? ⟨gb165, 4, none⟩ = some (.int .u32 a0_4) := (blk_cell BK165.out 4).trans rfl; have hcz72_5 : w71.cell? ⟨gb165, 5, none⟩ = some (.int .u32 a0_5) := (blk_cell BK165.out 5).trans rfl; have hcz72_6 : w71.cell? ⟨gb165, 6, none⟩ = some (.int .u32 a0_6) := (blk_cell BK165.out 6).trans rfl; have hcz72_7 : w71.cell? ⟨gb165, 7, none⟩ = some (.int .u32 a0_7) := (blk_cell BK165.out 7).trans rfl; have hcz72_8 : w71.cell? ⟨gb165, 8, none⟩ = some (.int .i64 a0_8) := (blk_cell BK165.out 8).trans rfl; have hcz72_9 : w71.cell? ⟨gb165, 9, none⟩ = some (.int .i64 a0_9) := (blk_cell BK165.out 9).trans rfl; have hcz72_10 : w71.cell? ⟨gb165, 10, none⟩ = some (.int .u32 a0_10) := (blk_cell BK165.out 10).trans rfl; have hcz72_11 : w71.cell? ⟨gb165, 11, none⟩ = some (.int .u32 a0_11) := (blk_cell BK165.out 11).trans rfl; have hcz72_12 : w71.cell? ⟨gb165, 12, none⟩ = some (.int .u32 a0_12) := (blk_cell BK165.out 12).trans rfl; have hcz72_13 : w71.cell? ⟨gb165, 13, none⟩ = some (.slice A0_13 l0_13.length c0_13) := (blk_cell BK165.out 13).trans rfl; have hcz72_14 : w71.cell? ⟨gb165, 14, none⟩ = some (.slice A0_14 l0_14.length c0_14) := (blk_cell BK165.out 14).trans rfl; have hfz72_0 := blk_frozen BK165.out 0; have hfz72_1 := blk_frozen BK165.out 1; have hfz72_2 := blk_frozen BK165.out 2; have hfz72_3 := blk_frozen BK165.out 3; have hfz72_4 := blk_frozen BK165.out 4; have hfz72_5 := blk_frozen BK165.out 5; have hfz72_6 := blk_frozen BK165.out 6; have hfz72_7 := blk_frozen BK165.out 7; have hfz72_8 := blk_frozen BK165.out 8; have hfz72_9 := blk_frozen BK165.out 9; have hfz72_10 := blk_frozen BK165.out 10; have hfz72_11 := blk_frozen BK165.out 11; have hfz72_12 := blk_frozen BK165.out 12; have hfz72_13 := blk_frozen BK165.out 13; have hfz72_14 := blk_frozen BK165.out 14) | ((with_reducible refine gate_callee (f := 29) rfl ?_); refine goesL_ (some 11) rfl rfl Try.func29 (by kernel_rfl) rfl #[.agg #[.int .i64 a0_0, .int .i64 a0_1, .bool a0_2, .bool a0_3, .int .u32 a0_4, .int .u32 a0_5, .int .u32 a0_6, .int .u32 a0_7, .int .i64 a0_8, .int .i64 a0_9, .int .u32 a0_10, .int .u32 a0_11, .int .u32 a0_12, .slice A0_13 l0_13.length c0_13, .slice A0_14 l0_14.length c0_14]] rfl (by (try simp only [List.map_toArray, List.map_cons, List.map_nil]); first | done | rfl | (simp only [List.length_drop, List.length_take]; rfl)) ?_; (with_reducible refine (fourinhandref07_May.calls a0_0 a0_1 a0_2 a0_3 a0_4 a0_5 a0_6 a0_7 a0_8 a0_9 a0_10 a0_11 a0_12 _ _ l0_13 _ _ l0_14 false _ ?side1 ?side2 ?side3 ?side4 A2.out).mono ?_); (case side1 => repeat (first | exact (Kd.C_below HR0_13.out HB.out) | (with_reducible refine Kd.C_alloc ?_ _) | (with_reducible refine Kd.C_drewN ?_ _) | (with_reducible refine Kd.C_drew ?_))); (case side2 => exact HC0_13.out); (case side3 => repeat (first | exact (Kd.C_below HR0_14.out HB.out) | (with_reducible refine Kd.C_alloc ?_ _) | (with_reducible refine Kd.C_drewN ?_ _) | (with_reducible refine Kd.C_drew ?_))); (case side4 => exact HC0_14.out); rintro e w73 ⟨rfl, hb⟩; refine ⟨_, rfl, ?_⟩; have n0_ := Aside0.mk (blk_below (g := gb165) (o := .cells #[.int .i64 a0_0, .int .i64 a0_1, .bool a0_2, .bool a0_3, .int .u32 a0_4, .int .u32 a0_5, .int .u32 a0_6, .int .u32 a0_7, .int .i64 a0_8, .int .i64 a0_9, .int .u32 a0_10, .int .u32 a0_11, .int .u32 a0_12, .slice A0_13 l0_13.length c0_13, .slice A0_14 l0_14.length c0_14] 41 (0, 0)) (by (with_reducible repeat (first | refine blk_drewN ?_ _ | refine blk_drew ?_ | refine blk_alloc ?_ _)); exact BK165.out) hb); have n1_ := Aside0.mk (below_step (by repeat (first | (with_reducible first | exact HB.out | apply below_alloc | apply pw_below_drewN | apply below_drew1 | refine below_set ?_ GE165.out) | exact HB.out)) hb); clear BK165; clear HB; have BK165 := n0_; have HB := n1_; clear n0_ n1_; (try clear hb); (try clear hb2); (try clear hk); (try clear hi)))
    go_ret2
    exact ⟨_, by first | rfl | (simp [errW_none, errW_some] <;> rfl) | (simp [*, errW_none, errW_some] <;> rfl), by first | exact Kd.R_nil _ _ _ _ _ | exact Kd.N_nil _ _ _ _ _ | exact Kd.V_nil _ _ _ _ _ | exact Kd.Q_nil _ _ _ _ _ | exact Kd.S_nil _ _ _ _ _, by repeat (first | (with_reducible first | exact HB.out | apply below_alloc | apply pw_below_drewN | apply below_drew1 | refine below_set ?_ GE165.out) | exact HB.out)⟩

end Go.Proofs.Ytbogmogimoleaaa.W
