/- What the program's functions compute, as plain functions, and that they do: walks laid by a program of the session's. -/
import Derived.Test.YtbogmogimoleaaaWx0
import Derived.Test.YtbogmogimoleaaaWx1
import Derived.Test.YtbogmogimoleaaaWx2
namespace Go.Proofs.Ytbogmogimoleaaa.W
open Go.RowKit Go.Proofs.YtbogmogimoleaaaW.PrintWords Go.Proofs.YtbogmogimoleaaaW.PrintLast Go.Proofs.YtbogmogimoleaaaW.PrintMore
open Go.Proofs.Ytbogmogimoleaaa.Given
attribute [local go_sem] max2_int min2_int max_two min_two max_three min_three max_four min_four   -- for this text's walks alone
set_option linter.unusedVariables false
set_option linter.unusedSimpArgs false

attribute [local go_sem high] eqA58
/-! ### fourinhandref07_Same: function 32 -/
mutual
def fourinhandref07_Same.j0 : Nat → Bool → Int → Int → Bool → Bool → Int → Int → Int → Int → Int → Int → Int → Int → Int → List (S58) → List Int → Int → Int → Bool → Bool → Int → Int → Int → Int → Int → Int → Int → Int → Int → List (S58) → List Int → Option (Bool)
  | 0, _, _, _, _, _, _, _, _, _, _, _, _, _, _, _, _, _, _, _, _, _, _, _, _, _, _, _, _, _, _, _ => none
  | k + 1, x69, x272000, x272001, x272002, x272003, x272004, x272005, x272006, x272007, x272008, x272009, x272010, x272011, x272012, x272013, x272014, x273000, x273001, x273002, x273003, x273004, x273005, x273006, x273007, x273008, x273009, x273010, x273011, x273012, x273013, x273014 => if x69 = true then (some false) else (fourinhandref07_Same.l0 k 0 x272000 x272001 x272002 x272003 x272004 x272005 x272006 x272007 x272008 x272009 x272010 x272011 x272012 x272013 x272014 x273000 x273001 x273002 x273003 x273004 x273005 x273006 x273007 x273008 x273009 x273010 x273011 x273012 x273013 x273014)
def fourinhandref07_Same.l0 : Nat → Int → Int → Int → Bool → Bool → Int → Int → Int → Int → Int → Int → Int → Int → Int → List (S58) → List Int → Int → Int → Bool → Bool → Int → Int → Int → Int → Int → Int → Int → Int → Int → List (S58) → List Int → Option (Bool)
  | 0, _, _, _, _, _, _, _, _, _, _, _, _, _, _, _, _, _, _, _, _, _, _, _, _, _, _, _, _, _, _, _ => none
  | k + 1, x5, x272000, x272001, x272002, x272003, x272004, x272005, x272006, x272007, x272008, x272009, x272010, x272011, x272012, x272013, x272014, x273000, x273001, x273002, x273003, x273004, x273005, x273006, x273007, x273008, x273009, x273010, x273011, x273012, x273013, x273014 => if x5 < (x272013.length : Int) then (if 0 ≤ x5 then (if x5 < (x273013.length : Int) then (if (!(((rd_T58 x272013 x5).f0) == ((rd_T58 x273013 x5).f0)) || (!(((rd_T58 x272013 x5).f1) == ((rd_T58 x273013 x5).f1)))) = true then (some false) else (fourinhandref07_Same.l0 k (wrap64 (x5 + 1)) x272000 x272001 x272002 x272003 x272004 x272005 x272006 x272007 x272008 x272009 x272010 x272011 x272012 x272013 x272014 x273000 x273001 x273002 x273003 x273004 x273005 x273006 x273007 x273008 x273009 x273010 x273011 x273012 x273013 x273014)) else (none)) else (none)) else ((fourinhandref03_Same.f k x272014 x273014).bind fun t275 => (if t275 = true then (if x272008 = x273008 then (if x272009 = x273009 then (if x272010 = x273010 then (if x272011 = x273011 then (some (x272012 == x273012)) else (some false)) else (some false)) else (some false)) else (some false)) else (some false)))
end
def fourinhandref07_Same.f (k : Nat) (a0_0 : Int) (a0_1 : Int) (a0_2 : Bool) (a0_3 : Bool) (a0_4 : Int) (a0_5 : Int) (a0_6 : Int) (a0_7 : Int) (a0_8 : Int) (a0_9 : Int) (a0_10 : Int) (a0_11 : Int) (a0_12 : Int) (l0_13 : List (S58)) (l0_14 : List Int) (a1_0 : Int) (a1_1 : Int) (a1_2 : Bool) (a1_3 : Bool) (a1_4 : Int) (a1_5 : Int) (a1_6 : Int) (a1_7 : Int) (a1_8 : Int) (a1_9 : Int) (a1_10 : Int) (a1_11 : Int) (a1_12 : Int) (l1_13 : List (S58)) (l1_14 : List Int) : Option (Bool) := if (l0_13.length : Int) = (l1_13.length : Int) then (if a0_0 = a1_0 then (if a0_1 = a1_1 then (if (a0_2 != a1_2) = true then (fourinhandref07_Same.j0 k true a0_0 a0_1 a0_2 a0_3 a0_4 a0_5 a0_6 a0_7 a0_8 a0_9 a0_10 a0_11 a0_12 l0_13 l0_14 a1_0 a1_1 a1_2 a1_3 a1_4 a1_5 a1_6 a1_7 a1_8 a1_9 a1_10 a1_11 a1_12 l1_13 l1_14) else (if (a0_3 != a1_3) = true then (fourinhandref07_Same.j0 k true a0_0 a0_1 a0_2 a0_3 a0_4 a0_5 a0_6 a0_7 a0_8 a0_9 a0_10 a0_11 a0_12 l0_13 l0_14 a1_0 a1_1 a1_2 a1_3 a1_4 a1_5 a1_6 a1_7 a1_8 a1_9 a1_10 a1_11 a1_12 l1_13 l1_14) else (if a0_4 = a1_4 then (if a0_5 = a1_5 then (if a0_6 = a1_6 then (fourinhandref07_Same.j0 k (a0_7 != a1_7) a0_0 a0_1 a0_2 a0_3 a0_4 a0_5 a0_6 a0_7 a0_8 a0_9 a0_10 a0_11 a0_12 l0_13 l0_14 a1_0 a1_1 a1_2 a1_3 a1_4 a1_5 a1_6 a1_7 a1_8 a1_9 a1_10 a1_11 a1_12 l1_13 l1_14) else (fourinhandref07_Same.j0 k true a0_0 a0_1 a0_2 a0_3 a0_4 a0_5 a0_6 a0_7 a0_8 a0_9 a0_10 a0_11 a0_12 l0_13 l0_14 a1_0 a1_1 a1_2 a1_3 a1_4 a1_5 a1_6 a1_7 a1_8 a1_9 a1_10 a1_11 a1_12 l1_13 l1_14)) else (fourinhandref07_Same.j0 k true a0_0 a0_1 a0_2 a0_3 a0_4 a0_5 a0_6 a0_7 a0_8 a0_9 a0_10 a0_11 a0_12 l0_13 l0_14 a1_0 a1_1 a1_2 a1_3 a1_4 a1_5 a1_6 a1_7 a1_8 a1_9 a1_10 a1_11 a1_12 l1_13 l1_14)) else (fourinhandref07_Same.j0 k true a0_0 a0_1 a0_2 a0_3 a0_4 a0_5 a0_6 a0_7 a0_8 a0_9 a0_10 a0_11 a0_12 l0_13 l0_14 a1_0 a1_1 a1_2 a1_3 a1_4 a1_5 a1_6 a1_7 a1_8 a1_9 a1_10 a1_11 a1_12 l1_13 l1_14)))) else (fourinhandref07_Same.j0 k true a0_0 a0_1 a0_2 a0_3 a0_4 a0_5 a0_6 a0_7 a0_8 a0_9 a0_10 a0_11 a0_12 l0_13 l0_14 a1_0 a1_1 a1_2 a1_3 a1_4 a1_5 a1_6 a1_7 a1_8 a1_9 a1_10 a1_11 a1_12 l1_13 l1_14)) else (fourinhandref07_Same.j0 k true a0_0 a0_1 a0_2 a0_3 a0_4 a0_5 a0_6 a0_7 a0_8 a0_9 a0_10 a0_11 a0_12 l0_13 l0_14 a1_0 a1_1 a1_2 a1_3 a1_4 a1_5 a1_6 a1_7 a1_8 a1_9 a1_10 a1_11 a1_12 l1_13 l1_14)) else (fourinhandref07_Same.j0 k true a0_0 a0_1 a0_2 a0_3 a0_4 a0_5 a0_6 a0_7 a0_8 a0_9 a0_10 a0_11 a0_12 l0_13 l0_14 a1_0 a1_1 a1_2 a1_3 a1_4 a1_5 a1_6 a1_7 a1_8 a1_9 a1_10 a1_11 a1_12 l1_13 l1_14)
theorem fourinhandref07_Same.mono_l : ∀ k, (∀ y0 y1 y2 y3 y4 y5 y6 y7 y8 y9 y10 y11 y12 y13 y14 y15 y16 y17 y18 y19 y20 y21 y22 y23 y24 y25 y26 y27 y28 y29 y30, LeO (fourinhandref07_Same.j0 k y0 y1 y2 y3 y4 y5 y6 y7 y8 y9 y10 y11 y12 y13 y14 y15 y16 y17 y18 y19 y20 y21 y22 y23 y24 y25 y26 y27 y28 y29 y30) (fourinhandref07_Same.j0 (k + 1) y0 y1 y2 y3 y4 y5 y6 y7 y8 y9 y10 y11 y12 y13 y14 y15 y16 y17 y18 y19 y20 y21 y22 y23 y24 y25 y26 y27 y28 y29 y30)) ∧ (∀ y0 y1 y2 y3 y4 y5 y6 y7 y8 y9 y10 y11 y12 y13 y14 y15 y16 y17 y18 y19 y20 y21 y22 y23 y24 y25 y26 y27 y28 y29 y30, LeO (fourinhandref07_Same.l0 k y0 y1 y2 y3 y4 y5 y6 y7 y8 y9 y10 y11 y12 y13 y14 y15 y16 y17 y18 y19 y20 y21 y22 y23 y24 y25 y26 y27 y28 y29 y30) (fourinhandref07_Same.l0 (k + 1) y0 y1 y2 y3 y4 y5 y6 y7 y8 y9 y10 y11 y12 y13 y14 y15 y16 y17 y18 y19 y20 y21 y22 y23 y24 y25 y26 y27 y28 y29 y30))
  | 0 => ⟨fun _ _ _ _ _ _ _ _ _ _ _ _ _ _ _ _ _ _ _ _ _ _ _ _ _ _ _ _ _ _ _ r h => by simp [fourinhandref07_Same.j0] at h, fun _ _ _ _ _ _ _ _ _ _ _ _ _ _ _ _ _ _ _ _ _ _ _ _ _ _ _ _ _ _ _ r h => by simp [fourinhandref07_Same.l0] at h⟩
  | k + 1 => by
    obtain ⟨ih0, ih1⟩ := fourinhandref07_Same.mono_l k
    refine ⟨?_, ?_⟩
    · intro y0 y1 y2 y3 y4 y5 y6 y7 y8 y9 y10 y11 y12 y13 y14 y15 y16 y17 y18 y19 y20 y21 y22 y23 y24 y25 y26 y27 y28 y29 y30
      unfold fourinhandref07_Same.j0
      repeat' first
      | (with_reducible exact ih0 _ _ _ _ _ _ _ _ _ _ _ _ _ _ _ _ _ _ _ _ _ _ _ _ _ _ _ _ _ _ _)
      | (with_reducible exact ih1 _ _ _ _ _ _ _ _ _ _ _ _ _ _ _ _ _ _ _ _ _ _ _ _ _ _ _ _ _ _ _)
      | (with_reducible exact fourinhandref03_Same.mono _ _ _)
      | (with_reducible exact LeO.refl _)
      | (with_reducible exact LeO.none _)
      | (with_reducible refine LeO.ite ?_ ?_)
      | (with_reducible refine LeO.bind ?_ (fun _ => ?_))
      | exact ih0 _ _ _ _ _ _ _ _ _ _ _ _ _ _ _ _ _ _ _ _ _ _ _ _ _ _ _ _ _ _ _
      | exact ih1 _ _ _ _ _ _ _ _ _ _ _ _ _ _ _ _ _ _ _ _ _ _ _ _ _ _ _ _ _ _ _
      | exact fourinhandref03_Same.mono _ _ _
      | exact LeO.none _
      | refine LeO.ite ?_ ?_
      | refine LeO.bind ?_ (fun _ => ?_)
    · intro y0 y1 y2 y3 y4 y5 y6 y7 y8 y9 y10 y11 y12 y13 y14 y15 y16 y17 y18 y19 y20 y21 y22 y23 y24 y25 y26 y27 y28 y29 y30
      unfold fourinhandref07_Same.l0
      repeat' first
      | (with_reducible exact ih0 _ _ _ _ _ _ _ _ _ _ _ _ _ _ _ _ _ _ _ _ _ _ _ _ _ _ _ _ _ _ _)
      | (with_reducible exact ih1 _ _ _ _ _ _ _ _ _ _ _ _ _ _ _ _ _ _ _ _ _ _ _ _ _ _ _ _ _ _ _)
      | (with_reducible exact fourinhandref03_Same.mono _ _ _)
      | (with_reducible exact LeO.refl _)
      | (with_reducible exact LeO.none _)
      | (with_reducible refine LeO.ite ?_ ?_)
      | (with_reducible refine LeO.bind ?_ (fun _ => ?_))
      | exact ih0 _ _ _ _ _ _ _ _ _ _ _ _ _ _ _ _ _ _ _ _ _ _ _ _ _ _ _ _ _ _ _
      | exact ih1 _ _ _ _ _ _ _ _ _ _ _ _ _ _ _ _ _ _ _ _ _ _ _ _ _ _ _ _ _ _ _
      | exact fourinhandref03_Same.mono _ _ _
      | exact LeO.none _
      | refine LeO.ite ?_ ?_
      | refine LeO.bind ?_ (fun _ => ?_)
theorem fourinhandref07_Same.mono : ∀ a0 a1 a2 a3 a4 a5 a6 a7 a8 a9 a10 a11 a12 a13 a14 a15 a16 a17 a18 a19 a20 a21 a22 a23 a24 a25 a26 a27 a28 a29 k, LeO (fourinhandref07_Same.f k a0 a1 a2 a3 a4 a5 a6 a7 a8 a9 a10 a11 a12 a13 a14 a15 a16 a17 a18 a19 a20 a21 a22 a23 a24 a25 a26 a27 a28 a29) (fourinhandref07_Same.f (k + 1) a0 a1 a2 a3 a4 a5 a6 a7 a8 a9 a10 a11 a12 a13 a14 a15 a16 a17 a18 a19 a20 a21 a22 a23 a24 a25 a26 a27 a28 a29) := by
  intro a0 a1 a2 a3 a4 a5 a6 a7 a8 a9 a10 a11 a12 a13 a14 a15 a16 a17 a18 a19 a20 a21 a22 a23 a24 a25 a26 a27 a28 a29 k
  obtain ⟨ih0, ih1⟩ := fourinhandref07_Same.mono_l k
  unfold fourinhandref07_Same.f
  repeat' first
      | (with_reducible exact ih0 _ _ _ _ _ _ _ _ _ _ _ _ _ _ _ _ _ _ _ _ _ _ _ _ _ _ _ _ _ _ _)
      | (with_reducible exact ih1 _ _ _ _ _ _ _ _ _ _ _ _ _ _ _ _ _ _ _ _ _ _ _ _ _ _ _ _ _ _ _)
      | (with_reducible exact fourinhandref03_Same.mono _ _ _)
      | (with_reducible exact LeO.refl _)
      | (with_reducible exact LeO.none _)
      | (with_reducible refine LeO.ite ?_ ?_)
      | (with_reducible refine LeO.bind ?_ (fun _ => ?_))
      | exact ih0 _ _ _ _ _ _ _ _ _ _ _ _ _ _ _ _ _ _ _ _ _ _ _ _ _ _ _ _ _ _ _
      | exact ih1 _ _ _ _ _ _ _ _ _ _ _ _ _ _ _ _ _ _ _ _ _ _ _ _ _ _ _ _ _ _ _
      | exact fourinhandref03_Same.mono _ _ _
      | exact LeO.none _
      | refine LeO.ite ?_ ?_
      | refine LeO.bind ?_ (fun _ => ?_)
set_option maxHeartbeats 8000000 in
set_option maxRecDepth 100000 in
theorem fourinhandref07_Same.calls (k : Nat) (a0_0 : Int) (a0_1 : Int) (a0_2 : Bool) (a0_3 : Bool) (a0_4 : Int) (a0_5 : Int) (a0_6 : Int) (a0_7 : Int) (a0_8 : Int) (a0_9 : Int) (a0_10 : Int) (a0_11 : Int) (a0_12 : Int) (A0_13 : Option Addr) (c0_13 : Nat) (l0_13 : List (S58)) (A0_14 : Option Addr) (c0_14 : Nat) (l0_14 : List Int) (a1_0 : Int) (a1_1 : Int) (a1_2 : Bool) (a1_3 : Bool) (a1_4 : Int) (a1_5 : Int) (a1_6 : Int) (a1_7 : Int) (a1_8 : Int) (a1_9 : Int) (a1_10 : Int) (a1_11 : Int) (a1_12 : Int) (A1_13 : Option Addr) (c1_13 : Nat) (l1_13 : List (S58)) (A1_14 : Option Addr) (c1_14 : Nat) (l1_14 : List Int) (r : Bool) (w : World) (hr0_13 : Kd.C k58 w A0_13 l0_13.length l0_13) (hc0_13 : l0_13.length ≤ c0_13) (hr0_14 : Kd.C (Kd.int .u8) w A0_14 l0_14.length l0_14) (hc0_14 : l0_14.length ≤ c0_14) (hr1_13 : Kd.C k58 w A1_13 l1_13.length l1_13) (hc1_13 : l1_13.length ≤ c1_13) (hr1_14 : Kd.C (Kd.int .u8) w A1_14 l1_14.length l1_14) (hc1_14 : l1_14.length ≤ c1_14) (h : fourinhandref07_Same.f k a0_0 a0_1 a0_2 a0_3 a0_4 a0_5 a0_6 a0_7 a0_8 a0_9 a0_10 a0_11 a0_12 l0_13 l0_14 a1_0 a1_1 a1_2 a1_3 a1_4 a1_5 a1_6 a1_7 a1_8 a1_9 a1_10 a1_11 a1_12 l1_13 l1_14 = some r) :
    Calls Try.prog 32 #[.agg #[.int .i64 a0_0, .int .i64 a0_1, .bool a0_2, .bool a0_3, .int .u32 a0_4, .int .u32 a0_5, .int .u32 a0_6, .int .u32 a0_7, .int .i64 a0_8, .int .i64 a0_9, .int .u32 a0_10, .int .u32 a0_11, .int .u32 a0_12, .slice A0_13 l0_13.length c0_13, .slice A0_14 l0_14.length c0_14], .agg #[.int .i64 a1_0, .int .i64 a1_1, .bool a1_2, .bool a1_3, .int .u32 a1_4, .int .u32 a1_5, .int .u32 a1_6, .int .u32 a1_7, .int .i64 a1_8, .int .i64 a1_9, .int .u32 a1_10, .int .u32 a1_11, .int .u32 a1_12, .slice A1_13 l1_13.length c1_13, .slice A1_14 l1_14.length c1_14]] w fun e w' => e = .returned (.bool r) ∧ Below w.heap.size w w' := by
  have hu41 := Try.underlying41
  have hu58 := Try.underlying58
  have HR0_13 := Aside0.mk hr0_13
  have HC0_13 := Aside0.mk hc0_13
  clear hr0_13 hc0_13
  have HR0_14 := Aside0.mk hr0_14
  have HC0_14 := Aside0.mk hc0_14
  clear hr0_14 hc0_14
  have HR1_13 := Aside0.mk hr1_13
  have HC1_13 := Aside0.mk hc1_13
  clear hr1_13 hc1_13
  have HR1_14 := Aside0.mk hr1_14
  have HC1_14 := Aside0.mk hc1_14
  clear hr1_14 hc1_14
  have HB := Aside0.mk (Below.refl w.heap.size w)
  have H : (if (l0_13.length : Int) = (l1_13.length : Int) then (if a0_0 = a1_0 then (if a0_1 = a1_1 then (if (a0_2 != a1_2) = true then (fourinhandref07_Same.j0 k true a0_0 a0_1 a0_2 a0_3 a0_4 a0_5 a0_6 a0_7 a0_8 a0_9 a0_10 a0_11 a0_12 l0_13 l0_14 a1_0 a1_1 a1_2 a1_3 a1_4 a1_5 a1_6 a1_7 a1_8 a1_9 a1_10 a1_11 a1_12 l1_13 l1_14) else (if (a0_3 != a1_3) = true then (fourinhandref07_Same.j0 k true a0_0 a0_1 a0_2 a0_3 a0_4 a0_5 a0_6 a0_7 a0_8 a0_9 a0_10 a0_11 a0_12 l0_13 l0_14 a1_0 a1_1 a1_2 a1_3 a1_4 a1_5 a1_6 a1_7 a1_8 a1_9 a1_10 a1_11 a1_12 l1_13 l1_14) else (if a0_4 = a1_4 then (if a0_5 = a1_5 then (if a0_6 = a1_6 then (fourinhandref07_Same.j0 k (a0_7 != a1_7) a0_0 a0_1 a0_2 a0_3 a0_4 a0_5 a0_6 a0_7 a0_8 a0_9 a0_10 a0_11 a0_12 l0_13 l0_14 a1_0 a1_1 a1_2 a1_3 a1_4 a1_5 a1_6 a1_7 a1_8 a1_9 a1_10 a1_11 a1_12 l1_13 l1_14) else (fourinhandref07_Same.j0 k true a0_0 a0_1 a0_2 a0_3 a0_4 a0_5 a0_6 a0_7 a0_8 a0_9 a0_10 a0_11 a0_12 l0_13 l0_14 a1_0 a1_1 a1_2 a1_3 a1_4 a1_5 a1_6 a1_7 a1_8 a1_9 a1_10 a1_11 a1_12 l1_13 l1_14)) else (fourinhandref07_Same.j0 k true a0_0 a0_1 a0_2 a0_3 a0_4 a0_5 a0_6 a0_7 a0_8 a0_9 a0_10 a0_11 a0_12 l0_13 l0_14 a1_0 a1_1 a1_2 a1_3 a1_4 a1_5 a1_6 a1_7 a1_8 a1_9 a1_10 a1_11 a1_12 l1_13 l1_14)) else (fourinhandref07_Same.j0 k true a0_0 a0_1 a0_2 a0_3 a0_4 a0_5 a0_6 a0_7 a0_8 a0_9 a0_10 a0_11 a0_12 l0_13 l0_14 a1_0 a1_1 a1_2 a1_3 a1_4 a1_5 a1_6 a1_7 a1_8 a1_9 a1_10 a1_11 a1_12 l1_13 l1_14)))) else (fourinhandref07_Same.j0 k true a0_0 a0_1 a0_2 a0_3 a0_4 a0_5 a0_6 a0_7 a0_8 a0_9 a0_10 a0_11 a0_12 l0_13 l0_14 a1_0 a1_1 a1_2 a1_3 a1_4 a1_5 a1_6 a1_7 a1_8 a1_9 a1_10 a1_11 a1_12 l1_13 l1_14)) else (fourinhandref07_Same.j0 k true a0_0 a0_1 a0_2 a0_3 a0_4 a0_5 a0_6 a0_7 a0_8 a0_9 a0_10 a0_11 a0_12 l0_13 l0_14 a1_0 a1_1 a1_2 a1_3 a1_4 a1_5 a1_6 a1_7 a1_8 a1_9 a1_10 a1_11 a1_12 l1_13 l1_14)) else (fourinhandref07_Same.j0 k true a0_0 a0_1 a0_2 a0_3 a0_4 a0_5 a0_6 a0_7 a0_8 a0_9 a0_10 a0_11 a0_12 l0_13 l0_14 a1_0 a1_1 a1_2 a1_3 a1_4 a1_5 a1_6 a1_7 a1_8 a1_9 a1_10 a1_11 a1_12 l1_13 l1_14)) = some r := h
  clear h
  have HC3 := Aside0.mk H
  clear H
  go_enter Try.func32, Try.ntmps32
  go_upto_region 1 with (first | ((with_reducible refine gate_dst (N := 2) rfl ?_); refine box_event ?hg (N := 2) ?hd (cs := #[.int .i64 a0_0, .int .i64 a0_1, .bool a0_2, .bool a0_3, .int .u32 a0_4, .int .u32 a0_5, .int .u32 a0_6, .int .u32 a0_7, .int .i64 a0_8, .int .i64 a0_9, .int .u32 a0_10, .int .u32 a0_11, .int .u32 a0_12, .slice A0_13 l0_13.length c0_13, .slice A0_14 l0_14.length c0_14]) (t := 41) ?hr ?_; (case hd => rfl); (case hg => rfl); (case hr => first | (go_simp; done) | (go_simp; rfl)); intro gb271 hg w4 hbox hb; have n0_ := Aside0.mk (below_step (by repeat (first | (with_reducible first | exact HB.out | apply below_alloc | apply pw_below_drewN | apply below_drew1) | exact HB.out)) hb); have n1_ := Aside0.mk (hbox); have n2_ := Aside0.mk ((by rw [hg]; exact (below_size (by repeat (first | (with_reducible first | exact HB.out | apply below_alloc | apply pw_below_drewN | apply below_drew1) | exact HB.out))) : w.heap.size ≤ gb271)); have n3_ := Aside0.mk ((by rw [hg]; exact (below_size (by repeat (first | (with_reducible first | exact HB.out | apply below_alloc | apply pw_below_drewN | apply below_drew1) | exact HB.out))) : w.heap.size ≤ gb271)); clear HB; have HB := n0_; have BK271 := n1_; have GW271 := n2_; have GE271 := n3_; clear n0_ n1_ n2_ n3_; clear hb hbox hg) | ((with_reducible refine gate_dst (N := 3) rfl ?_); refine box_event ?hg (N := 3) ?hd (cs := #[.int .i64 a1_0, .int .i64 a1_1, .bool a1_2, .bool a1_3, .int .u32 a1_4, .int .u32 a1_5, .int .u32 a1_6, .int .u32 a1_7, .int .i64 a1_8, .int .i64 a1_9, .int .u32 a1_10, .int .u32 a1_11, .int .u32 a1_12, .slice A1_13 l1_13.length c1_13, .slice A1_14 l1_14.length c1_14]) (t := 41) ?hr ?_; (case hd => rfl); (case hg => rfl); (case hr => first | (go_simp; done) | (go_simp; rfl)); intro gb272 hg w5 hbox hb; have n0_ := Aside0.mk (blk_below (g := gb271) (o := .cells #[.int .i64 a0_0, .int .i64 a0_1, .bool a0_2, .bool a0_3, .int .u32 a0_4, .int .u32 a0_5, .int .u32 a0_6, .int .u32 a0_7, .int .i64 a0_8, .int .i64 a0_9, .int .u32 a0_10, .int .u32 a0_11, .int .u32 a0_12, .slice A0_13 l0_13.length c0_13, .slice A0_14 l0_14.length c0_14] 41 (0, 0)) (by (with_reducible repeat (first | refine blk_drewN ?_ _ | refine blk_drew ?_ | refine blk_alloc ?_ _)); exact BK271.out) hb); have n1_ := Aside0.mk (below_step (by repeat (first | (with_reducible first | exact HB.out | apply below_alloc | apply pw_below_drewN | apply below_drew1 | refine below_set ?_ GE271.out) | exact HB.out)) hb); have n2_ := Aside0.mk (hbox); have n3_ := Aside0.mk ((by rw [hg]; exact (below_size (by repeat (first | (with_reducible first | exact HB.out | apply below_alloc | apply pw_below_drewN | apply below_drew1 | refine below_set ?_ GE271.out) | exact HB.out))) : w.heap.size ≤ gb272)); have n4_ := Aside0.mk ((by rw [hg]; exact (below_size (by repeat (first | (with_reducible first | exact HB.out | apply below_alloc | apply pw_below_drewN | apply below_drew1 | refine below_set ?_ GE271.out) | exact HB.out))) : w.heap.size ≤ gb272)); have n5_ := Aside0.mk ((by rw [hg]; exact Nat.ne_of_lt (blk_lt (g := gb271) (o := .cells #[.int .i64 a0_0, .int .i64 a0_1, .bool a0_2, .bool a0_3, .int .u32 a0_4, .int .u32 a0_5, .int .u32 a0_6, .int .u32 a0_7, .int .i64 a0_8, .int .i64 a0_9, .int .u32 a0_10, .int .u32 a0_11, .int .u32 a0_12, .slice A0_13 l0_13.length c0_13, .slice A0_14 l0_14.length c0_14] 41 (0, 0)) (by (with_reducible repeat (first | refine blk_drewN ?_ _ | refine blk_drew ?_ | refine blk_alloc ?_ _)); exact BK271.out)) : gb271 ≠ gb272)); have n6_ := Aside0.mk ((by rw [hg]; exact Nat.ne_of_gt (blk_lt (g := gb271) (o := .cells #[.int .i64 a0_0, .int .i64 a0_1, .bool a0_2, .bool a0_3, .int .u32 a0_4, .int .u32 a0_5, .int .u32 a0_6, .int .u32 a0_7, .int .i64 a0_8, .int .i64 a0_9, .int .u32 a0_10, .int .u32 a0_11, .int .u32 a0_12, .slice A0_13 l0_13.length c0_13, .slice A0_14 l0_14.length c0_14] 41 (0, 0)) (by (with_reducible repeat (first | refine blk_drewN ?_ _ | refine blk_drew ?_ | refine blk_alloc ?_ _)); exact BK271.out)) : gb272 ≠ gb271)); clear BK271; clear HB; have BK271 := n0_; have HB := n1_; have BK272 := n2_; have GW272 := n3_; have GE272 := n4_; have NB271_272 := n5_; have NB272_271 := n6_; clear n0_ n1_ n2_ n3_ n4_ n5_ n6_; clear hb hbox hg))
  repeat (go_quiet (first | ((with_reducible refine gate_dst (N := 2) rfl ?_); refine box_event ?hg (N := 2) ?hd (cs := #[.int .i64 a0_0, .int .i64 a0_1, .bool a0_2, .bool a0_3, .int .u32 a0_4, .int .u32 a0_5, .int .u32 a0_6, .int .u32 a0_7, .int .i64 a0_8, .int .i64 a0_9, .int .u32 a0_10, .int .u32 a0_11, .int .u32 a0_12, .slice A0_13 l0_13.length c0_13, .slice A0_14 l0_14.length c0_14]) (t := 41) ?hr ?_; (case hd => rfl); (case hg => rfl); (case hr => first | (go_simp; done) | (go_simp; rfl)); intro gb271 hg w4 hbox hb; have n0_ := Aside0.mk (below_step (by repeat (first | (with_reducible first | exact HB.out | apply below_alloc | apply pw_below_drewN | apply below_drew1) | exact HB.out)) hb); have n1_ := Aside0.mk (hbox); have n2_ := Aside0.mk ((by rw [hg]; exact (below_size (by repeat (first | (with_reducible first | exact HB.out | apply below_alloc | apply pw_below_drewN | apply below_drew1) | exact HB.out))) : w.heap.size ≤ gb271)); have n3_ := Aside0.mk ((by rw [hg]; exact (below_size (by repeat (first | (with_reducible first | exact HB.out | apply below_alloc | apply pw_below_drewN | apply below_drew1) | exact HB.out))) : w.heap.size ≤ gb271)); clear HB; have HB := n0_; have BK271 := n1_; have GW271 := n2_; have GE271 := n3_; clear n0_ n1_ n2_ n3_; clear hb hbox hg) | ((with_reducible refine gate_dst (N := 3) rfl ?_); refine box_event ?hg (N := 3) ?hd (cs := #[.int .i64 a1_0, .int .i64 a1_1, .bool a1_2, .bool a1_3, .int .u32 a1_4, .int .u32 a1_5, .int .u32 a1_6, .int .u32 a1_7, .int .i64 a1_8, .int .i64 a1_9, .int .u32 a1_10, .int .u32 a1_11, .int .u32 a1_12, .slice A1_13 l1_13.length c1_13, .slice A1_14 l1_14.length c1_14]) (t := 41) ?hr ?_; (case hd => rfl); (case hg => rfl); (case hr => first | (go_simp; done) | (go_simp; rfl)); intro gb272 hg w5 hbox hb; have n0_ := Aside0.mk (blk_below (g := gb271) (o := .cells #[.int .i64 a0_0, .int .i64 a0_1, .bool a0_2, .bool a0_3, .int .u32 a0_4, .int .u32 a0_5, .int .u32 a0_6, .int .u32 a0_7, .int .i64 a0_8, .int .i64 a0_9, .int .u32 a0_10, .int .u32 a0_11, .int .u32 a0_12, .slice A0_13 l0_13.length c0_13, .slice A0_14 l0_14.length c0_14] 41 (0, 0)) (by (with_reducible repeat (first | refine blk_drewN ?_ _ | refine blk_drew ?_ | refine blk_alloc ?_ _)); exact BK271.out) hb); have n1_ := Aside0.mk (below_step (by repeat (first | (with_reducible first | exact HB.out | apply below_alloc | apply pw_below_drewN | apply below_drew1 | refine below_set ?_ GE271.out) | exact HB.out)) hb); have n2_ := Aside0.mk (hbox); have n3_ := Aside0.mk ((by rw [hg]; exact (below_size (by repeat (first | (with_reducible first | exact HB.out | apply below_alloc | apply pw_below_drewN | apply below_drew1 | refine below_set ?_ GE271.out) | exact HB.out))) : w.heap.size ≤ gb272)); have n4_ := Aside0.mk ((by rw [hg]; exact (below_size (by repeat (first | (with_reducible first | exact HB.out | apply below_alloc | apply pw_below_drewN | apply below_drew1 | refine below_set ?_ GE271.out) | exact HB.out))) : w.heap.size ≤ gb272)); have n5_ := Aside0.mk ((by rw [hg]; exact Nat.ne_of_lt (blk_lt (g := gb271) (o := .cells #[.int .i64 a0_0, .int .i64 a0_1, .bool a0_2, .bool a0_3, .int .u32 a0_4, .int .u32 a0_5, .int .u32 a0_6, .int .u32 a0_7, .int .i64 a0_8, .int .i64 a0_9, .int .u32 a0_10, .int .u32 a0_11, .int .u32 a0_12, .slice A0_13 l0_13.length c0_13, .slice A0_14 l0_14.length c0_14] 41 (0, 0)) (by (with_reducible repeat (first | refine blk_drewN ?_ _ | refine blk_drew ?_ | refine blk_alloc ?_ _)); exact BK271.out)) : gb271 ≠ gb272)); have n6_ := Aside0.mk ((by rw [hg]; exact Nat.ne_of_gt (blk_lt (g := gb271) (o := .cells #[.int .i64 a0_0, .int .i64 a0_1, .bool a0_2, .bool a0_3, .int .u32 a0_4, .int .u32 a0_5, .int .u32 a0_6, .int .u32 a0_7, .int .i64 a0_8, .int .i64 a0_9, .int .u32 a0_10, .int .u32 a0_11, .int .u32 a0_12, .slice A0_13 l0_13.length c0_13, .slice A0_14 l0_14.length c0_14] 41 (0, 0)) (by (with_reducible repeat (first | refine blk_drewN ?_ _ | refine blk_drew ?_ | refine blk_alloc ?_ _)); exact BK271.out)) : gb272 ≠ gb271)); clear BK271; clear HB; have BK271 := n0_; have HB := n1_; have BK272 := n2_; have GW272 := n3_; have GE272 := n4_; have NB271_272 := n5_; have NB272_271 := n6_; clear n0_ n1_ n2_ n3_ n4_ n5_ n6_; clear hb hbox hg)); go_upto_region 1 with (first | ((with_reducible refine gate_dst (N := 2) rfl ?_); refine box_event ?hg (N := 2) ?hd (cs := #[.int .i64 a0_0, .int .i64 a0_1, .bool a0_2, .bool a0_3, .int .u32 a0_4, .int .u32 a0_5, .int .u32 a0_6, .int .u32 a0_7, .int .i64 a0_8, .int .i64 a0_9, .int .u32 a0_10, .int .u32 a0_11, .int .u32 a0_12, .slice A0_13 l0_13.length c0_13, .slice A0_14 l0_14.length c0_14]) (t := 41) ?hr ?_; (case hd => rfl); (case hg => rfl); (case hr => first | (go_simp; done) | (go_simp; rfl)); intro gb271 hg w4 hbox hb; have n0_ := Aside0.mk (below_step (by repeat (first | (with_reducible first | exact HB.out | apply below_alloc | apply pw_below_drewN | apply below_drew1) | exact HB.out)) hb); have n1_ := Aside0.mk (hbox); have n2_ := Aside0.mk ((by rw [hg]; exact (below_size (by repeat (first | (with_reducible first | exact HB.out | apply below_alloc | apply pw_below_drewN | apply below_drew1) | exact HB.out))) : w.heap.size ≤ gb271)); have n3_ := Aside0.mk ((by rw [hg]; exact (below_size (by repeat (first | (with_reducible first | exact HB.out | apply below_alloc | apply pw_below_drewN | apply below_drew1) | exact HB.out))) : w.heap.size ≤ gb271)); clear HB; have HB := n0_; have BK271 := n1_; have GW271 := n2_; have GE271 := n3_; clear n0_ n1_ n2_ n3_; clear hb hbox hg) | ((with_reducible refine gate_dst (N := 3) rfl ?_); refine box_event ?hg (N := 3) ?hd (cs := #[.int .i64 a1_0, .int .i64 a1_1, .bool a1_2, .bool a1_3, .int .u32 a1_4, .int .u32 a1_5, .int .u32 a1_6, .int .u32 a1_7, .int .i64 a1_8, .int .i64 a1_9, .int .u32 a1_10, .int .u32 a1_11, .int .u32 a1_12, .slice A1_13 l1_13.length c1_13, .slice A1_14 l1_14.length c1_14]) (t := 41) ?hr ?_; (case hd => rfl); (case hg => rfl); (case hr => first | (go_simp; done) | (go_simp; rfl)); intro gb272 hg w5 hbox hb; have n0_ := Aside0.mk (blk_below (g := gb271) (o := .cells #[.int .i64 a0_0, .int .i64 a0_1, .bool a0_2, .bool a0_3, .int .u32 a0_4, .int .u32 a0_5, .int .u32 a0_6, .int .u32 a0_7, .int .i64 a0_8, .int .i64 a0_9, .int .u32 a0_10, .int .u32 a0_11, .int .u32 a0_12, .slice A0_13 l0_13.length c0_13, .slice A0_14 l0_14.length c0_14] 41 (0, 0)) (by (with_reducible repeat (first | refine blk_drewN ?_ _ | refine blk_drew ?_ | refine blk_alloc ?_ _)); exact BK271.out) hb); have n1_ := Aside0.mk (below_step (by repeat (first | (with_reducible first | exact HB.out | apply below_alloc | apply pw_below_drewN | apply below_drew1 | refine below_set ?_ GE271.out) | exact HB.out)) hb); have n2_ := Aside0.mk (hbox); have n3_ := Aside0.mk ((by rw [hg]; exact (below_size (by repeat (first | (with_reducible first | exact HB.out | apply below_alloc | apply pw_below_drewN | apply below_drew1 | refine below_set ?_ GE271.out) | exact HB.out))) : w.heap.size ≤ gb272)); have n4_ := Aside0.mk ((by rw [hg]; exact (below_size (by repeat (first | (with_reducible first | exact HB.out | apply below_alloc | apply pw_below_drewN | apply below_drew1 | refine below_set ?_ GE271.out) | exact HB.out))) : w.heap.size ≤ gb272)); have n5_ := Aside0.mk ((by rw [hg]; exact Nat.ne_of_lt (blk_lt (g := gb271) (o := .cells #[.int .i64 a0_0, .int .i64 a0_1, .bool a0_2, .bool a0_3, .int .u32 a0_4, .int .u32 a0_5, .int .u32 a0_6, .int .u32 a0_7, .int .i64 a0_8, .int .i64 a0_9, .int .u32 a0_10, .int .u32 a0_11, .int .u32 a0_12, .slice A0_13 l0_13.length c0_13, .slice A0_14 l0_14.length c0_14] 41 (0, 0)) (by (with_reducible repeat (first | refine blk_drewN ?_ _ | refine blk_drew ?_ | refine blk_alloc ?_ _)); exact BK271.out)) : gb271 ≠ gb272)); have n6_ := Aside0.mk ((by rw [hg]; exact Nat.ne_of_gt (blk_lt (g := gb271) (o := .cells #[.int .i64 a0_0, .int .i64 a0_1, .bool a0_2, .bool a0_3, .int .u32 a0_4, .int .u32 a0_5, .int .u32 a0_6, .int .u32 a0_7, .int .i64 a0_8, .int .i64 a0_9, .int .u32 a0_10, .int .u32 a0_11, .int .u32 a0_12, .slice A0_13 l0_13.length c0_13, .slice A0_14 l0_14.length c0_14] 41 (0, 0)) (by (with_reducible repeat (first | refine blk_drewN ?_ _ | refine blk_drew ?_ | refine blk_alloc ?_ _)); exact BK271.out)) : gb272 ≠ gb271)); clear BK271; clear HB; have BK271 := n0_; have HB := n1_; have BK272 := n2_; have GW272 := n3_; have GE272 := n4_; have NB271_272 := n5_; have NB272_271 := n6_; clear n0_ n1_ n2_ n3_ n4_ n5_ n6_; clear hb hbox hg)))
  (try simp only [Act.put, List.setIfInBounds_toArray, List.set_cons_zero, List.set_cons_succ])
  go_cut [69] (fun v69 wc => ∃ (kq : Nat) (x69_2 : Bool), v69 = .bool x69_2 ∧ Aside0 (fourinhandref07_Same.j0 kq x69_2 a0_0 a0_1 a0_2 a0_3 a0_4 a0_5 a0_6 a0_7 a0_8 a0_9 a0_10 a0_11 a0_12 l0_13 l0_14 a1_0 a1_1 a1_2 a1_3 a1_4 a1_5 a1_6 a1_7 a1_8 a1_9 a1_10 a1_11 a1_12 l1_13 l1_14 = some r) ∧ Aside0 (kq ≤ k) ∧ Aside0 (wc.heap[gb271]? = some (.cells #[.int .i64 a0_0, .int .i64 a0_1, .bool a0_2, .bool a0_3, .int .u32 a0_4, .int .u32 a0_5, .int .u32 a0_6, .int .u32 a0_7, .int .i64 a0_8, .int .i64 a0_9, .int .u32 a0_10, .int .u32 a0_11, .int .u32 a0_12, (.slice A0_13 l0_13.length c0_13), (.slice A0_14 l0_14.length c0_14)] 41 (0, 0))) ∧ Aside0 (wc.heap[gb272]? = some (.cells #[.int .i64 a1_0, .int .i64 a1_1, .bool a1_2, .bool a1_3, .int .u32 a1_4, .int .u32 a1_5, .int .u32 a1_6, .int .u32 a1_7, .int .i64 a1_8, .int .i64 a1_9, .int .u32 a1_10, .int .u32 a1_11, .int .u32 a1_12, (.slice A1_13 l1_13.length c1_13), (.slice A1_14 l1_14.length c1_14)] 41 (0, 0))) ∧ Aside0 (Below w.heap.size w wc))
  case first =>
    have H := HC3.out
    clear HC3
    by_cases c6 : (l0_13.length : Int) = (l1_13.length : Int)
    · rw [if_pos c6] at H
      have c6b0 : ((l0_13.length : Int) == (l1_13.length : Int)) = true := beq_iff_eq.mpr c6
      have c6b1 : ((l0_13.length : Int) != (l1_13.length : Int)) = false := bne_eq_false_iff_eq.mpr c6
      have c6b2 : (l0_13.length == l1_13.length) = true := by first | simpa using c6 | (simp at c6 ⊢; omega)
      clear c6
      (first | rw [c6b0] | (simp only [i64_w, i32_w]; rw [c6b0]) | skip)
      by_cases c7 : a0_0 = a1_0
      · rw [if_pos c7] at H
        have c7b0 : (a0_0 == a1_0) = true := beq_iff_eq.mpr c7
        have c7b1 : (a0_0 != a1_0) = false := bne_eq_false_iff_eq.mpr c7
        clear c7
        by_cases c8 : a0_1 = a1_1
        · rw [if_pos c8] at H
          have c8b0 : (a0_1 == a1_1) = true := beq_iff_eq.mpr c8
          have c8b1 : (a0_1 != a1_1) = false := bne_eq_false_iff_eq.mpr c8
          clear c8
          by_cases c9 : (a0_2 != a1_2) = true
          · rw [if_pos c9] at H
            have c9b0 : (a0_2 != a1_2) = true := c9
            (try (have c9b1 : decide (a0_2 = a1_2) = false := by simpa using c9))
            (try (have c9b2 : (a0_2 == a1_2) = false := by simpa using c9))
            (try (have c9b3 : ¬ (a0_2 = a1_2) := by simpa using c9))
            clear c9
            have H' := Aside0.mk H
            clear H
            have hnb10 := NB271_272.out
            have hnc10 := NB272_271.out
            have hcz11_0 : w5.cell? ⟨gb271, 0, none⟩ = some (.int .i64 a0_0) := (blk_cell BK271.out 0).trans rfl
            have hcz11_1 : w5.cell? ⟨gb271, 1, none⟩ = some (.int .i64 a0_1) := (blk_cell BK271.out 1).trans rfl
            have hcz11_2 : w5.cell? ⟨gb271, 2, none⟩ = some (.bool a0_2) := (blk_cell BK271.out 2).trans rfl
            have hcz11_3 : w5.cell? ⟨gb271, 3, none⟩ = some (.bool a0_3) := (blk_cell BK271.out 3).trans rfl
            have hcz11_4 : w5.cell? ⟨gb271, 4, none⟩ = some (.int .u32 a0_4) := (blk_cell BK271.out 4).trans rfl
            have hcz11_5 : w5.cell? ⟨gb271, 5, none⟩ = some (.int .u32 a0_5) := (blk_cell BK271.out 5).trans rfl
            have hcz11_6 : w5.cell? ⟨gb271, 6, none⟩ = some (.int .u32 a0_6) := (blk_cell BK271.out 6).trans rfl
            have hcz11_7 : w5.cell? ⟨gb271, 7, none⟩ = some (.int .u32 a0_7) := (blk_cell BK271.out 7).trans rfl
            have hcz11_8 : w5.cell? ⟨gb271, 8, none⟩ = some (.int .i64 a0_8) := (blk_cell BK271.out 8).trans rfl
            have hcz11_9 : w5.cell? ⟨gb271, 9, none⟩ = some (.int .i64 a0_9) := (blk_cell BK271.out 9).trans rfl
            have hcz11_10 : w5.cell? ⟨gb271, 10, none⟩ = some (.int .u32 a0_10) := (blk_cell BK271.out 10).trans rfl
            have hcz11_11 : w5.cell? ⟨gb271, 11, none⟩ = some (.int .u32 a0_11) := (blk_cell BK271.out 11).trans rfl
            have hcz11_12 : w5.cell? ⟨gb271, 12, none⟩ = some (.int .u32 a0_12) := (blk_cell BK271.out 12).trans rfl
            have hcz11_13 : w5.cell? ⟨gb271, 13, none⟩ = some (.slice A0_13 l0_13.length c0_13) := (blk_cell BK271.out 13).trans rfl
            have hcz11_14 : w5.cell? ⟨gb271, 14, none⟩ = some (.slice A0_14 l0_14.length c0_14) := (blk_cell BK271.out 14).trans rfl
            have hfz11_0 := blk_frozen BK271.out 0
            have hfz11_1 := blk_frozen BK271.out 1
            have hfz11_2 := blk_frozen BK271.out 2
            have hfz11_3 := blk_frozen BK271.out 3
            have hfz11_4 := blk_frozen BK271.out 4
            have hfz11_5 := blk_frozen BK271.out 5
            have hfz11_6 := blk_frozen BK271.out 6
            have hfz11_7 := blk_frozen BK271.out 7
            have hfz11_8 := blk_frozen BK271.out 8
            have hfz11_9 := blk_frozen BK271.out 9
            have hfz11_10 := blk_frozen BK271.out 10
            have hfz11_11 := blk_frozen BK271.out 11
            have hfz11_12 := blk_frozen BK271.out 12
            have hfz11_13 := blk_frozen BK271.out 13
            have hfz11_14 := blk_frozen BK271.out 14
            have hcz12_0 : w5.cell? ⟨gb272, 0, none⟩ = some (.int .i64 a1_0) := (blk_cell BK272.out 0).trans rfl
            have hcz12_1 : w5.cell? ⟨gb272, 1, none⟩ = some (.int .i64 a1_1) := (blk_cell BK272.out 1).trans rfl
            have hcz12_2 : w5.cell? ⟨gb272, 2, none⟩ = some (.bool a1_2) := (blk_cell BK272.out 2).trans rfl
            have hcz12_3 : w5.cell? ⟨gb272, 3, none⟩ = some (.bool a1_3) := (blk_cell BK272.out 3).trans rfl
            have hcz12_4 : w5.cell? ⟨gb272, 4, none⟩ = some (.int .u32 a1_4) := (blk_cell BK272.out 4).trans rfl
            have hcz12_5 : w5.cell? ⟨gb272, 5, none⟩ = some (.int .u32 a1_5) := (blk_cell BK272.out 5).trans rfl
            have hcz12_6 : w5.cell? ⟨gb272, 6, none⟩ = some (.int .u32 a1_6) := (blk_cell BK272.out 6).trans rfl
            have hcz12_7 : w5.cell? ⟨gb272, 7, none⟩ = some (.int .u32 a1_7) := (blk_cell BK272.out 7).trans rfl
            have hcz12_8 : w5.cell? ⟨gb272, 8, none⟩ = some (.int .i64 a1_8) := (blk_cell BK272.out 8).trans rfl
            have hcz12_9 : w5.cell? ⟨gb272, 9, none⟩ = some (.int .i64 a1_9) := (blk_cell BK272.out 9).trans rfl
            have hcz12_10 : w5.cell? ⟨gb272, 10, none⟩ = some (.int .u32 a1_10) := (blk_cell BK272.out 10).trans rfl
            have hcz12_11 : w5.cell? ⟨gb272, 11, none⟩ = some (.int .u32 a1_11) := (blk_cell BK272.out 11).trans rfl
            have hcz12_12 : w5.cell? ⟨gb272, 12, none⟩ = some (.int .u32 a1_12) := (blk_cell BK272.out 12).trans rfl
            have hcz12_13 : w5.cell? ⟨gb272, 13, none⟩ = some (.slice A1_13 l1_13.length c1_13) := (blk_cell BK272.out 13).trans rfl
            have hcz12_14 : w5.cell? ⟨gb272, 14, none⟩ = some (.slice A1_14 l1_14.length c1_14) := (blk_cell BK272.out 14).trans rfl
            have hfz12_0 := blk_frozen BK272.out 0
            have hfz12_1 := blk_frozen BK272.out 1
            have hfz12_2 := blk_frozen BK272.out 2
            have hfz12_3 := blk_frozen BK272.out 3
            have hfz12_4 := blk_frozen BK272.out 4
            have hfz12_5 := blk_frozen BK272.out 5
            have hfz12_6 := blk_frozen BK272.out 6
            have hfz12_7 := blk_frozen BK272.out 7
            have hfz12_8 := blk_frozen BK272.out 8
            have hfz12_9 := blk_frozen BK272.out 9
            have hfz12_10 := blk_frozen BK272.out 10
            have hfz12_11 := blk_frozen BK272.out 11
            have hfz12_12 := blk_frozen BK272.out 12
            have hfz12_13 := blk_frozen BK272.out 13
            have hfz12_14 := blk_frozen BK272.out 14
            go_wp2
            repeat (go_quiet (fail); try go_wp2)
            go_meet
            case rel => exact ⟨_, (true), (by first | rfl | (simp; done) | (simp [*]; done)), H', ⟨by first | omega | exact Nat.le_refl _⟩, ⟨by (with_reducible repeat (first | refine blk_drewN ?_ _ | refine blk_drew ?_ | refine blk_alloc ?_ _)); exact BK271.out⟩, ⟨by (with_reducible repeat (first | refine blk_drewN ?_ _ | refine blk_drew ?_ | refine blk_alloc ?_ _)); exact BK272.out⟩, ⟨by repeat (first | (with_reducible first | exact HB.out | apply below_alloc | apply pw_below_drewN | apply below_drew1 | refine below_set ?_ GE271.out | refine below_set ?_ GE272.out) | exact HB.out)⟩⟩
          · rw [if_neg c9] at H
            have c9b0 : (a0_2 != a1_2) = false := by simpa using c9
            (try (have c9b1 : decide (a0_2 = a1_2) = true := by simpa using c9))
            (try (have c9b2 : (a0_2 == a1_2) = true := by simpa using c9))
            clear c9
            by_cases c13 : (a0_3 != a1_3) = true
            · rw [if_pos c13] at H
              have c13b0 : (a0_3 != a1_3) = true := c13
              (try (have c13b1 : decide (a0_3 = a1_3) = false := by simpa using c13))
              (try (have c13b2 : (a0_3 == a1_3) = false := by simpa using c13))
              (try (have c13b3 : ¬ (a0_3 = a1_3) := by simpa using c13))
              clear c13
              have H' := Aside0.mk H
              clear H
              have hnb14 := NB271_272.out
              have hnc14 := NB272_271.out
              have hcz15_0 : w5.cell? ⟨gb271, 0, none⟩ = some (.int .i64 a0_0) := (blk_cell BK271.out 0).trans rfl
              have hcz15_1 : w5.cell? ⟨gb271, 1, none⟩ = some (.int .i64 a0_1) := (blk_cell BK271.out 1).trans rfl
              have hcz15_2 : w5.cell? ⟨gb271, 2, none⟩ = some (.bool a0_2) := (blk_cell BK271.out 2).trans rfl
              have hcz15_3 : w5.cell? ⟨gb271, 3, none⟩ = some (.bool a0_3) := (blk_cell BK271.out 3).trans rfl
              have hcz15_4 : w5.cell? ⟨gb271, 4, none⟩ = some (.int .u32 a0_4) := (blk_cell BK271.out 4).trans rfl
              have hcz15_5 : w5.cell? ⟨gb271, 5, none⟩ = some (.int .u32 a0_5) := (blk_cell BK271.out 5).trans rfl
              have hcz15_6 : w5.cell? ⟨gb271, 6, none⟩ = some (.int .u32 a0_6) := (blk_cell BK271.out 6).trans rfl
              have hcz15_7 : w5.cell? ⟨gb271, 7, none⟩ = some (.int .u32 a0_7) := (blk_cell BK271.out 7).trans rfl
              have hcz15_8 : w5.cell? ⟨gb271, 8, none⟩ = some (.int .i64 a0_8) := (blk_cell BK271.out 8).trans rfl
              have hcz15_9 : w5.cell? ⟨gb271, 9, none⟩ = some (.int .i64 a0_9) := (blk_cell BK271.out 9).trans rfl
              have hcz15_10 : w5.cell? ⟨gb271, 10, none⟩ = some (.int .u32 a0_10) := (blk_cell BK271.out 10).trans rfl
              have hcz15_11 : w5.cell? ⟨gb271, 11, none⟩ = some (.int .u32 a0_11) := (blk_cell BK271.out 11).trans rfl
              have hcz15_12 : w5.cell? ⟨gb271, 12, none⟩ = some (.int .u32 a0_12) := (blk_cell BK271.out 12).trans rfl
              have hcz15_13 : w5.cell? ⟨gb271, 13, none⟩ = some (.slice A0_13 l0_13.length c0_13) := (blk_cell BK271.out 13).trans rfl
              have hcz15_14 : w5.cell? ⟨gb271, 14, none⟩ = some (.slice A0_14 l0_14.length c0_14) := (blk_cell BK271.out 14).trans rfl
              have hfz15_0 := blk_frozen BK271.out 0
              have hfz15_1 := blk_frozen BK271.out 1
              have hfz15_2 := blk_frozen BK271.out 2
              have hfz15_3 := blk_frozen BK271.out 3
              have hfz15_4 := blk_frozen BK271.out 4
              have hfz15_5 := blk_frozen BK271.out 5
              have hfz15_6 := blk_frozen BK271.out 6
              have hfz15_7 := blk_frozen BK271.out 7
              have hfz15_8 := blk_frozen BK271.out 8
              have hfz15_9 := blk_frozen BK271.out 9
              have hfz15_10 := blk_frozen BK271.out 10
              have hfz15_11 := blk_frozen BK271.out 11
              have hfz15_12 := blk_frozen BK271.out 12
              have hfz15_13 := blk_frozen BK271.out 13
              have hfz15_14 := blk_frozen BK271.out 14
              have hcz16_0 : w5.cell? ⟨gb272, 0, none⟩ = some (.int .i64 a1_0) := (blk_cell BK272.out 0).trans rfl
              have hcz16_1 : w5.cell? ⟨gb272, 1, none⟩ = some (.int .i64 a1_1) := (blk_cell BK272.out 1).trans rfl
              have hcz16_2 : w5.cell? ⟨gb272, 2, none⟩ = some (.bool a1_2) := (blk_cell BK272.out 2).trans rfl
              have hcz16_3 : w5.cell? ⟨gb272, 3, none⟩ = some (.bool a1_3) := (blk_cell BK272.out 3).trans rfl
              have hcz16_4 : w5.cell? ⟨gb272, 4, none⟩ = some (.int .u32 a1_4) := (blk_cell BK272.out 4).trans rfl
              have hcz16_5 : w5.cell? ⟨gb272, 5, none⟩ = some (.int .u32 a1_5) := (blk_cell BK272.out 5).trans rfl
              have hcz16_6 : w5.cell? ⟨gb272, 6, none⟩ = some (.int .u32 a1_6) := (blk_cell BK272.out 6).trans rfl
              have hcz16_7 : w5.cell? ⟨gb272, 7, none⟩ = some (.int .u32 a1_7) := (blk_cell BK272.out 7).trans rfl
              have hcz16_8 : w5.cell? ⟨gb272, 8, none⟩ = some (.int .i64 a1_8) := (blk_cell BK272.out 8).trans rfl
              have hcz16_9 : w5.cell? ⟨gb272, 9, none⟩ = some (.int .i64 a1_9) := (blk_cell BK272.out 9).trans rfl
              have hcz16_10 : w5.cell? ⟨gb272, 10, none⟩ = some (.int .u32 a1_10) := (blk_cell BK272.out 10).trans rfl
              have hcz16_11 : w5.cell? ⟨gb272, 11, none⟩ = some (.int .u32 a1_11) := (blk_cell BK272.out 11).trans rfl
              have hcz16_12 : w5.cell? ⟨gb272, 12, none⟩ = some (.int .u32 a1_12) := (blk_cell BK272.out 12).trans rfl
              have hcz16_13 : w5.cell? ⟨gb272, 13, none⟩ = some (.slice A1_13 l1_13.length c1_13) := (blk_cell BK272.out 13).trans rfl
              have hcz16_14 : w5.cell? ⟨gb272, 14, none⟩ = some (.slice A1_14 l1_14.length c1_14) := (blk_cell BK272.out 14).trans rfl
              have hfz16_0 := blk_frozen BK272.out 0
              have hfz16_1 := blk_frozen BK272.out 1
              have hfz16_2 := blk_frozen BK272.out 2
              have hfz16_3 := blk_frozen BK272.out 3
              have hfz16_4 := blk_frozen BK272.out 4
              have hfz16_5 := blk_frozen BK272.out 5
              have hfz16_6 := blk_frozen BK272.out 6
              have hfz16_7 := blk_frozen BK272.out 7
              have hfz16_8 := blk_frozen BK272.out 8
              have hfz16_9 := blk_frozen BK272.out 9
              have hfz16_10 := blk_frozen BK272.out 10
              have hfz16_11 := blk_frozen BK272.out 11
              have hfz16_12 := blk_frozen BK272.out 12
              have hfz16_13 := blk_frozen BK272.out 13
              have hfz16_14 := blk_frozen BK272.out 14
              go_wp2
              repeat (go_quiet (fail); try go_wp2)
              go_meet
              case rel => exact ⟨_, (true), (by first | rfl | (simp; done) | (simp [*]; done)), H', ⟨by first | omega | exact Nat.le_refl _⟩, ⟨by (with_reducible repeat (first | refine blk_drewN ?_ _ | refine blk_drew ?_ | refine blk_alloc ?_ _)); exact BK271.out⟩, ⟨by (with_reducible repeat (first | refine blk_drewN ?_ _ | refine blk_drew ?_ | refine blk_alloc ?_ _)); exact BK272.out⟩, ⟨by repeat (first | (with_reducible first | exact HB.out | apply below_alloc | apply pw_below_drewN | apply below_drew1 | refine below_set ?_ GE271.out | refine below_set ?_ GE272.out) | exact HB.out)⟩⟩
            · rw [if_neg c13] at H
              have c13b0 : (a0_3 != a1_3) = false := by simpa using c13
              (try (have c13b1 : decide (a0_3 = a1_3) = true := by simpa using c13))
              (try (have c13b2 : (a0_3 == a1_3) = true := by simpa using c13))
              clear c13
              by_cases c17 : a0_4 = a1_4
              · rw [if_pos c17] at H
                have c17b0 : (a0_4 == a1_4) = true := beq_iff_eq.mpr c17
                have c17b1 : (a0_4 != a1_4) = false := bne_eq_false_iff_eq.mpr c17
                clear c17
                by_cases c18 : a0_5 = a1_5
                · rw [if_pos c18] at H
                  have c18b0 : (a0_5 == a1_5) = true := beq_iff_eq.mpr c18
                  have c18b1 : (a0_5 != a1_5) = false := bne_eq_false_iff_eq.mpr c18
                  clear c18
                  by_cases c19 : a0_6 = a1_6
                  · rw [if_pos c19] at H
                    have c19b0 : (a0_6 == a1_6) = true := beq_iff_eq.mpr c19
                    have c19b1 : (a0_6 != a1_6) = false := bne_eq_false_iff_eq.mpr c19
                    clear c19
                    have H' := Aside0.mk H
                    clear H
                    have hnb20 := NB271_272.out
                    have hnc20 := NB272_271.out
                    have hcz21_0 : w5.cell? ⟨gb271, 0, none⟩ = some (.int .i64 a0_0) := (blk_cell BK271.out 0).trans rfl
                    have hcz21_1 : w5.cell? ⟨gb271, 1, none⟩ = some (.int .i64 a0_1) := (blk_cell BK271.out 1).trans rfl
                    have hcz21_2 : w5.cell? ⟨gb271, 2, none⟩ = some (.bool a0_2) := (blk_cell BK271.out 2).trans rfl
                    have hcz21_3 : w5.cell? ⟨gb271, 3, none⟩ = some (.bool a0_3) := (blk_cell BK271.out 3).trans rfl
                    have hcz21_4 : w5.cell? ⟨gb271, 4, none⟩ = some (.int .u32 a0_4) := (blk_cell BK271.out 4).trans rfl
                    have hcz21_5 : w5.cell? ⟨gb271, 5, none⟩ = some (.int .u32 a0_5) := (blk_cell BK271.out 5).trans rfl
                    have hcz21_6 : w5.cell? ⟨gb271, 6, none⟩ = some (.int .u32 a0_6) := (blk_cell BK271.out 6).trans rfl
                    have hcz21_7 : w5.cell? ⟨gb271, 7, none⟩ = some (.int .u32 a0_7) := (blk_cell BK271.out 7).trans rfl
                    have hcz21_8 : w5.cell? ⟨gb271, 8, none⟩ = some (.int .i64 a0_8) := (blk_cell BK271.out 8).trans rfl
                    have hcz21_9 : w5.cell? ⟨gb271, 9, none⟩ = some (.int .i64 a0_9) := (blk_cell BK271.out 9).trans rfl
                    have hcz21_10 : w5.cell? ⟨gb271, 10, none⟩ = some (.int .u32 a0_10) := (blk_cell BK271.out 10).trans rfl
                    have hcz21_11 : w5.cell? ⟨gb271, 11, none⟩ = some (.int .u32 a0_11) := (blk_cell BK271.out 11).trans rfl
                    have hcz21_12 : w5.cell? ⟨gb271, 12, none⟩ = some (.int .u32 a0_12) := (blk_cell BK271.out 12).trans rfl
                    have hcz21_13 : w5.cell? ⟨gb271, 13, none⟩ = some (.slice A0_13 l0_13.length c0_13) := (blk_cell BK271.out 13).trans rfl
                    have hcz21_14 : w5.cell? ⟨gb271, 14, none⟩ = some (.slice A0_14 l0_14.length c0_14) := (blk_cell BK271.out 14).trans rfl
                    have hfz21_0 := blk_frozen BK271.out 0
                    have hfz21_1 := blk_frozen BK271.out 1
                    have hfz21_2 := blk_frozen BK271.out 2
                    have hfz21_3 := blk_frozen BK271.out 3
                    have hfz21_4 := blk_frozen BK271.out 4
                    have hfz21_5 := blk_frozen BK271.out 5
                    have hfz21_6 := blk_frozen BK271.out 6
                    have hfz21_7 := blk_frozen BK271.out 7
                    have hfz21_8 := blk_frozen BK271.out 8
                    have hfz21_9 := blk_frozen BK271.out 9
                    have hfz21_10 := blk_frozen BK271.out 10
                    have hfz21_11 := blk_frozen BK271.out 11
                    have hfz21_12 := blk_frozen BK271.out 12
                    have hfz21_13 := blk_frozen BK271.out 13
                    have hfz21_14 := blk_frozen BK271.out 14
                    have hcz22_0 : w5.cell? ⟨gb272, 0, none⟩ = some (.int .i64 a1_0) := (blk_cell BK272.out 0).trans rfl
                    have hcz22_1 : w5.cell? ⟨gb272, 1, none⟩ = some (.int .i64 a1_1) := (blk_cell BK272.out 1).trans rfl
                    have hcz22_2 : w5.cell? ⟨gb272, 2, none⟩ = some (.bool a1_2) := (blk_cell BK272.out 2).trans rfl
                    have hcz22_3 : w5.cell? ⟨gb272, 3, none⟩ = some (.bool a1_3) := (blk_cell BK272.out 3).trans rfl
                    have hcz22_4 : w5.cell? ⟨gb272, 4, none⟩ = some (.int .u32 a1_4) := (blk_cell BK272.out 4).trans rfl
                    have hcz22_5 : w5.cell? ⟨gb272, 5, none⟩ = some (.int .u32 a1_5) := (blk_cell BK272.out 5).trans rfl
                    have hcz22_6 : w5.cell? ⟨gb272, 6, none⟩ = some (.int .u32 a1_6) := (blk_cell BK272.out 6).trans rfl
                    have hcz22_7 : w5.cell? ⟨gb272, 7, none⟩ = some (.int .u32 a1_7) := (blk_cell BK272.out 7).trans rfl
                    have hcz22_8 : w5.cell? ⟨gb272, 8, none⟩ = some (.int .i64 a1_8) := (blk_cell BK272.out 8).trans rfl
                    have hcz22_9 : w5.cell? ⟨gb272, 9, none⟩ = some (.int .i64 a1_9) := (blk_cell BK272.out 9).trans rfl
                    have hcz22_10 : w5.cell? ⟨gb272, 10, none⟩ = some (.int .u32 a1_10) := (blk_cell BK272.out 10).trans rfl
                    have hcz22_11 : w5.cell? ⟨gb272, 11, none⟩ = some (.int .u32 a1_11) := (blk_cell BK272.out 11).trans rfl
                    have hcz22_12 : w5.cell? ⟨gb272, 12, none⟩ = some (.int .u32 a1_12) := (blk_cell BK272.out 12).trans rfl
                    have hcz22_13 : w5.cell? ⟨gb272, 13, none⟩ = some (.slice A1_13 l1_13.length c1_13) := (blk_cell BK272.out 13).trans rfl
                    have hcz22_14 : w5.cell? ⟨gb272, 14, none⟩ = some (.slice A1_14 l1_14.length c1_14) := (blk_cell BK272.out 14).trans rfl
                    have hfz22_0 := blk_frozen BK272.out 0
                    have hfz22_1 := blk_frozen BK272.out 1
                    have hfz22_2 := blk_frozen BK272.out 2
                    have hfz22_3 := blk_frozen BK272.out 3
                    have hfz22_4 := blk_frozen BK272.out 4
                    have hfz22_5 := blk_frozen BK272.out 5
                    have hfz22_6 := blk_frozen BK272.out 6
                    have hfz22_7 := blk_frozen BK272.out 7
                    have hfz22_8 := blk_frozen BK272.out 8
                    have hfz22_9 := blk_frozen BK272.out 9
                    have hfz22_10 := blk_frozen BK272.out 10
                    have hfz22_11 := blk_frozen BK272.out 11
                    have hfz22_12 := blk_frozen BK272.out 12
                    have hfz22_13 := blk_frozen BK272.out 13
                    have hfz22_14 := blk_frozen BK272.out 14
                    go_wp2
                    repeat (go_quiet (fail); try go_wp2)
                    go_meet
                    case rel => exact ⟨_, ((a0_7 != a1_7)), (by first | rfl | (simp; done) | (simp [*]; done)), H', ⟨by first | omega | exact Nat.le_refl _⟩, ⟨by (with_reducible repeat (first | refine blk_drewN ?_ _ | refine blk_drew ?_ | refine blk_alloc ?_ _)); exact BK271.out⟩, ⟨by (with_reducible repeat (first | refine blk_drewN ?_ _ | refine blk_drew ?_ | refine blk_alloc ?_ _)); exact BK272.out⟩, ⟨by repeat (first | (with_reducible first | exact HB.out | apply below_alloc | apply pw_below_drewN | apply below_drew1 | refine below_set ?_ GE271.out | refine below_set ?_ GE272.out) | exact HB.out)⟩⟩
                  · rw [if_neg c19] at H
                    have c19b0 : (a0_6 == a1_6) = false := beq_eq_false_iff_ne.mpr c19
                    have c19b1 : (a0_6 != a1_6) = true := bne_iff_ne.mpr c19
                    have H' := Aside0.mk H
                    clear H
                    have hnb23 := NB271_272.out
                    have hnc23 := NB272_271.out
                    have hcz24_0 : w5.cell? ⟨gb271, 0, none⟩ = some (.int .i64 a0_0) := (blk_cell BK271.out 0).trans rfl
                    have hcz24_1 : w5.cell? ⟨gb271, 1, none⟩ = some (.int .i64 a0_1) := (blk_cell BK271.out 1).trans rfl
                    have hcz24_2 : w5.cell? ⟨gb271, 2, none⟩ = some (.bool a0_2) := (blk_cell BK271.out 2).trans rfl
                    have hcz24_3 : w5.cell? ⟨gb271, 3, none⟩ = some (.bool a0_3) := (blk_cell BK271.out 3).trans rfl
                    have hcz24_4 : w5.cell? ⟨gb271, 4, none⟩ = some (.int .u32 a0_4) := (blk_cell BK271.out 4).trans rfl
                    have hcz24_5 : w5.cell? ⟨gb271, 5, none⟩ = some (.int .u32 a0_5) := (blk_cell BK271.out 5).trans rfl
                    have hcz24_6 : w5.cell? ⟨gb271, 6, none⟩ = some (.int .u32 a0_6) := (blk_cell BK271.out 6).trans rfl
                    have hcz24_7 : w5.cell? ⟨gb271, 7, none⟩ = some (.int .u32 a0_7) := (blk_cell BK271.out 7).trans rfl
                    have hcz24_8 : w5.cell? ⟨gb271, 8, none⟩ = some (.int .i64 a0_8) := (blk_cell BK271.out 8).trans rfl
                    have hcz24_9 : w5.cell? ⟨gb271, 9, none⟩ = some (.int .i64 a0_9) := (blk_cell BK271.out 9).trans rfl
                    have hcz24_10 : w5.cell? ⟨gb271, 10, none⟩ = some (.int .u32 a0_10) := (blk_cell BK271.out 10).trans rfl
                    have hcz24_11 : w5.cell? ⟨gb271, 11, none⟩ = some (.int .u32 a0_11) := (blk_cell BK271.out 11).trans rfl
                    have hcz24_12 : w5.cell? ⟨gb271, 12, none⟩ = some (.int .u32 a0_12) := (blk_cell BK271.out 12).trans rfl
                    have hcz24_13 : w5.cell? ⟨gb271, 13, none⟩ = some (.slice A0_13 l0_13.length c0_13) := (blk_cell BK271.out 13).trans rfl
                    have hcz24_14 : w5.cell? ⟨gb271, 14, none⟩ = some (.slice A0_14 l0_14.length c0_14) := (blk_cell BK271.out 14).trans rfl
                    have hfz24_0 := blk_frozen BK271.out 0
                    have hfz24_1 := blk_frozen BK271.out 1
                    have hfz24_2 := blk_frozen BK271.out 2
                    have hfz24_3 := blk_frozen BK271.out 3
                    have hfz24_4 := blk_frozen BK271.out 4
                    have hfz24_5 := blk_frozen BK271.out 5
                    have hfz24_6 := blk_frozen BK271.out 6
                    have hfz24_7 := blk_frozen BK271.out 7
                    have hfz24_8 := blk_frozen BK271.out 8
                    have hfz24_9 := blk_frozen BK271.out 9
                    have hfz24_10 := blk_frozen BK271.out 10
                    have hfz24_11 := blk_frozen BK271.out 11
                    have hfz24_12 := blk_frozen BK271.out 12
                    have hfz24_13 := blk_frozen BK271.out 13
                    have hfz24_14 := blk_frozen BK271.out 14
                    have hcz25_0 : w5.cell? ⟨gb272, 0, none⟩ = some (.int .i64 a1_0) := (blk_cell BK272.out 0).trans rfl
                    have hcz25_1 : w5.cell? ⟨gb272, 1, none⟩ = some (.int .i64 a1_1) := (blk_cell BK272.out 1).trans rfl
                    have hcz25_2 : w5.cell? ⟨gb272, 2, none⟩ = some (.bool a1_2) := (blk_cell BK272.out 2).trans rfl
                    have hcz25_3 : w5.cell? ⟨gb272, 3, none⟩ = some (.bool a1_3) := (blk_cell BK272.out 3).trans rfl
                    have hcz25_4 : w5.cell? ⟨gb272, 4, none⟩ = some (.int .u32 a1_4) := (blk_cell BK272.out 4).trans rfl
                    have hcz25_5 : w5.cell? ⟨gb272, 5, none⟩ = some (.int .u32 a1_5) := (blk_cell BK272.out 5).trans rfl
                    have hcz25_6 : w5.cell? ⟨gb272, 6, none⟩ = some (.int .u32 a1_6) := (blk_cell BK272.out 6).trans rfl
                    have hcz25_7 : w5.cell? ⟨gb272, 7, none⟩ = some (.int .u32 a1_7) := (blk_cell BK272.out 7).trans rfl
                    have hcz25_8 : w5.cell? ⟨gb272, 8, none⟩ = some (.int .i64 a1_8) := (blk_cell BK272.out 8).trans rfl
                    have hcz25_9 : w5.cell? ⟨gb272, 9, none⟩ = some (.int .i64 a1_9) := (blk_cell BK272.out 9).trans rfl
                    have hcz25_10 : w5.cell? ⟨gb272, 10, none⟩ = some (.int .u32 a1_10) := (blk_cell BK272.out 10).trans rfl
                    have hcz25_11 : w5.cell? ⟨gb272, 11, none⟩ = some (.int .u32 a1_11) := (blk_cell BK272.out 11).trans rfl
                    have hcz25_12 : w5.cell? ⟨gb272, 12, none⟩ = some (.int .u32 a1_12) := (blk_cell BK272.out 12).trans rfl
                    have hcz25_13 : w5.cell? ⟨gb272, 13, none⟩ = some (.slice A1_13 l1_13.length c1_13) := (blk_cell BK272.out 13).trans rfl
                    have hcz25_14 : w5.cell? ⟨gb272, 14, none⟩ = some (.slice A1_14 l1_14.length c1_14) := (blk_cell BK272.out 14).trans rfl
                    have hfz25_0 := blk_frozen BK272.out 0
                    have hfz25_1 := blk_frozen BK272.out 1
                    have hfz25_2 := blk_frozen BK272.out 2
                    have hfz25_3 := blk_frozen BK272.out 3
                    have hfz25_4 := blk_frozen BK272.out 4
                    have hfz25_5 := blk_frozen BK272.out 5
                    have hfz25_6 := blk_frozen BK272.out 6
                    have hfz25_7 := blk_frozen BK272.out 7
                    have hfz25_8 := blk_frozen BK272.out 8
                    have hfz25_9 := blk_frozen BK272.out 9
                    have hfz25_10 := blk_frozen BK272.out 10
                    have hfz25_11 := blk_frozen BK272.out 11
                    have hfz25_12 := blk_frozen BK272.out 12
                    have hfz25_13 := blk_frozen BK272.out 13
                    have hfz25_14 := blk_frozen BK272.out 14
                    go_wp2
                    repeat (go_quiet (fail); try go_wp2)
                    go_meet
                    case rel => exact ⟨_, (true), (by first | rfl | (simp; done) | (simp [*]; done)), H', ⟨by first | omega | exact Nat.le_refl _⟩, ⟨by (with_reducible repeat (first | refine blk_drewN ?_ _ | refine blk_drew ?_ | refine blk_alloc ?_ _)); exact BK271.out⟩, ⟨by (with_reducible repeat (first | refine blk_drewN ?_ _ | refine blk_drew ?_ | refine blk_alloc ?_ _)); exact BK272.out⟩, ⟨by repeat (first | (with_reducible first | exact HB.out | apply below_alloc | apply pw_below_drewN | apply below_drew1 | refine below_set ?_ GE271.out | refine below_set ?_ GE272.out) | exact HB.out)⟩⟩
                · rw [if_neg c18] at H
                  have c18b0 : (a0_5 == a1_5) = false := beq_eq_false_iff_ne.mpr c18
                  have c18b1 : (a0_5 != a1_5) = true := bne_iff_ne.mpr c18
                  have H' := Aside0.mk H
                  clear H
                  have hnb26 := NB271_272.out
                  have hnc26 := NB272_271.out
                  have hcz27_0 : w5.cell? ⟨gb271, 0, none⟩ = some (.int .i64 a0_0) := (blk_cell BK271.out 0).trans rfl
                  have hcz27_1 : w5.cell? ⟨gb271, 1, none⟩ = some (.int .i64 a0_1) := (blk_cell BK271.out 1).trans rfl
                  have hcz27_2 : w5.cell? ⟨gb271, 2, none⟩ = some (.bool a0_2) := (blk_cell BK271.out 2).trans rfl
                  have hcz27_3 : w5.cell? ⟨gb271, 3, none⟩ = some (.bool a0_3) := (blk_cell BK271.out 3).trans rfl
                  have hcz27_4 : w5.cell? ⟨gb271, 4, none⟩ = some (.int .u32 a0_4) := (blk_cell BK271.out 4).trans rfl
                  have hcz27_5 : w5.cell? ⟨gb271, 5, none⟩ = some (.int .u32 a0_5) := (blk_cell BK271.out 5).trans rfl
                  have hcz27_6 : w5.cell? ⟨gb271, 6, none⟩ = some (.int .u32 a0_6) := (blk_cell BK271.out 6).trans rfl
                  have hcz27_7 : w5.cell? ⟨gb271, 7, none⟩ = some (.int .u32 a0_7) := (blk_cell BK271.out 7).trans rfl
                  have hcz27_8 : w5.cell? ⟨gb271, 8, none⟩ = some (.int .i64 a0_8) := (blk_cell BK271.out 8).trans rfl
                  have hcz27_9 : w5.cell? ⟨gb271, 9, none⟩ = some (.int .i64 a0_9) := (blk_cell BK271.out 9).trans rfl
                  have hcz27_10 : w5.cell? ⟨gb271, 10, none⟩ = some (.int .u32 a0_10) := (blk_cell BK271.out 10).trans rfl
                  have hcz27_11 : w5.cell? ⟨gb271, 11, none⟩ = some (.int .u32 a0_11) := (blk_cell BK271.out 11).trans rfl
                  have hcz27_12 : w5.cell? ⟨gb271, 12, none⟩ = some (.int .u32 a0_12) := (blk_cell BK271.out 12).trans rfl
                  have hcz27_13 : w5.cell? ⟨gb271, 13, none⟩ = some (.slice A0_13 l0_13.length c0_13) := (blk_cell BK271.out 13).trans rfl
                  have hcz27_14 : w5.cell? ⟨gb271, 14, none⟩ = some (.slice A0_14 l0_14.length c0_14) := (blk_cell BK271.out 14).trans rfl
                  have hfz27_0 := blk_frozen BK271.out 0
                  have hfz27_1 := blk_frozen BK271.out 1
                  have hfz27_2 := blk_frozen BK271.out 2
                  have hfz27_3 := blk_frozen BK271.out 3
                  have hfz27_4 := blk_frozen BK271.out 4
                  have hfz27_5 := blk_frozen BK271.out 5
                  have hfz27_6 := blk_frozen BK271.out 6
                  have hfz27_7 := blk_frozen BK271.out 7
                  have hfz27_8 := blk_frozen BK271.out 8
                  have hfz27_9 := blk_frozen BK271.out 9
                  have hfz27_10 := blk_frozen BK271.out 10
                  have hfz27_11 := blk_frozen BK271.out 11
                  have hfz27_12 := blk_frozen BK271.out 12
                  have hfz27_13 := blk_frozen BK271.out 13
                  have hfz27_14 := blk_frozen BK271.out 14
                  have hcz28_0 : w5.cell? ⟨gb272, 0, none⟩ = some (.int .i64 a1_0) := (blk_cell BK272.out 0).trans rfl
                  have hcz28_1 : w5.cell? ⟨gb272, 1, none⟩ = some (.int .i64 a1_1) := (blk_cell BK272.out 1).trans rfl
                  have hcz28_2 : w5.cell? ⟨gb272, 2, none⟩ = some (.bool a1_2) := (blk_cell BK272.out 2).trans rfl
                  have hcz28_3 : w5.cell? ⟨gb272, 3, none⟩ = some (.bool a1_3) := (blk_cell BK272.out 3).trans rfl
                  have hcz28_4 : w5.cell? ⟨gb272, 4, none⟩ = some (.int .u32 a1_4) := (blk_cell BK272.out 4).trans rfl
                  have hcz28_5 : w5.cell? ⟨gb272, 5, none⟩ = some (.int .u32 a1_5) := (blk_cell BK272.out 5).trans rfl
                  have hcz28_6 : w5.cell? ⟨gb272, 6, none⟩ = some (.int .u32 a1_6) := (blk_cell BK272.out 6).trans rfl
                  have hcz28_7 : w5.cell? ⟨gb272, 7, none⟩ = some (.int .u32 a1_7) := (blk_cell BK272.out 7).trans rfl
                  have hcz28_8 : w5.cell? ⟨gb272, 8, none⟩ = some (.int .i64 a1_8) := (blk_cell BK272.out 8).trans rfl
                  have hcz28_9 : w5.cell? ⟨gb272, 9, none⟩ = some (.int .i64 a1_9) := (blk_cell BK272.out 9).trans rfl
                  have hcz28_10 : w5.cell? ⟨gb272, 10, none⟩ = some (.int .u32 a1_10) := (blk_cell BK272.out 10).trans rfl
                  have hcz28_11 : w5.cell? ⟨gb272, 11, none⟩ = some (.int .u32 a1_11) := (blk_cell BK272.out 11).trans rfl
                  have hcz28_12 : w5.cell? ⟨gb272, 12, none⟩ = some (.int .u32 a1_12) := (blk_cell BK272.out 12).trans rfl
                  have hcz28_13 : w5.cell? ⟨gb272, 13, none⟩ = some (.slice A1_13 l1_13.length c1_13) := (blk_cell BK272.out 13).trans rfl
                  have hcz28_14 : w5.cell? ⟨gb272, 14, none⟩ = some (.slice A1_14 l1_14.length c1_14) := (blk_cell BK272.out 14).trans rfl
                  have hfz28_0 := blk_frozen BK272.out 0
                  have hfz28_1 := blk_frozen BK272.out 1
                  have hfz28_2 := blk_frozen BK272.out 2
                  have hfz28_3 := blk_frozen BK272.out 3
                  have hfz28_4 := blk_frozen BK272.out 4
                  have hfz28_5 := blk_frozen BK272.out 5
                  have hfz28_6 := blk_frozen BK272.out 6
                  have hfz28_7 := blk_frozen BK272.out 7
                  have hfz28_8 := blk_frozen BK272.out 8
                  have hfz28_9 := blk_frozen BK272.out 9
                  have hfz28_10 := blk_frozen BK272.out 10
                  have hfz28_11 := blk_frozen BK272.out 11
                  have hfz28_12 := blk_frozen BK272.out 12
                  have hfz28_13 := blk_frozen BK272.out 13
                  have hfz28_14 := blk_frozen BK272.out 14
                  go_wp2
                  repeat (go_quiet (fail); try go_wp2)
                  go_meet
                  case rel => exact ⟨_, (true), (by first | rfl | (simp; done) | (simp [*]; done)), H', ⟨by first | omega | exact Nat.le_refl _⟩, ⟨by (with_reducible repeat (first | refine blk_drewN ?_ _ | refine blk_drew ?_ | refine blk_alloc ?_ _)); exact BK271.out⟩, ⟨by (with_reducible repeat (first | refine blk_drewN ?_ _ | refine blk_drew ?_ | refine blk_alloc ?_ _)); exact BK272.out⟩, ⟨by repeat (first | (with_reducible first | exact HB.out | apply below_alloc | apply pw_below_drewN | apply below_drew1 | refine below_set ?_ GE271.out | refine below_set ?_ GE272.out) | exact HB.out)⟩⟩
              · rw [if_neg c17] at H
                have c17b0 : (a0_4 == a1_4) = false := beq_eq_false_iff_ne.mpr c17
                have c17b1 : (a0_4 != a1_4) = true := bne_iff_ne.mpr c17
                have H' := Aside0.mk H
                clear H
                have hnb29 := NB271_272.out
                have hnc29 := NB272_271.out
                have hcz30_0 : w5.cell? ⟨gb271, 0, none⟩ = some (.int .i64 a0_0) := (blk_cell BK271.out 0).trans rfl
                have hcz30_1 : w5.cell? ⟨gb271, 1, none⟩ = some (.int .i64 a0_1) := (blk_cell BK271.out 1).trans rfl
                have hcz30_2 : w5.cell? ⟨gb271, 2, none⟩ = some (.bool a0_2) := (blk_cell BK271.out 2).trans rfl
                have hcz30_3 : w5.cell? ⟨gb271, 3, none⟩ = some (.bool a0_3) := (blk_cell BK271.out 3).trans rfl
                have hcz30_4 : w5.cell? ⟨gb271, 4, none⟩ = some (.int .u32 a0_4) := (blk_cell BK271.out 4).trans rfl
                have hcz30_5 : w5.cell? ⟨gb271, 5, none⟩ = some (.int .u32 a0_5) := (blk_cell BK271.out 5).trans rfl
                have hcz30_6 : w5.cell? ⟨gb271, 6, none⟩ = some (.int .u32 a0_6) := (blk_cell BK271.out 6).trans rfl
                have hcz30_7 : w5.cell? ⟨gb271, 7, none⟩ = some (.int .u32 a0_7) := (blk_cell BK271.out 7).trans rfl
                have hcz30_8 : w5.cell? ⟨gb271, 8, none⟩ = some (.int .i64 a0_8) := (blk_cell BK271.out 8).trans rfl
                have hcz30_9 : w5.cell? ⟨gb271, 9, none⟩ = some (.int .i64 a0_9) := (blk_cell BK271.out 9).trans rfl
                have hcz30_10 : w5.cell? ⟨gb271, 10, none⟩ = some (.int .u32 a0_10) := (blk_cell BK271.out 10).trans rfl
                have hcz30_11 : w5.cell? ⟨gb271, 11, none⟩ = some (.int .u32 a0_11) := (blk_cell BK271.out 11).trans rfl
                have hcz30_12 : w5.cell? ⟨gb271, 12, none⟩ = some (.int .u32 a0_12) := (blk_cell BK271.out 12).trans rfl
                have hcz30_13 : w5.cell? ⟨gb271, 13, none⟩ = some (.slice A0_13 l0_13.length c0_13) := (blk_cell BK271.out 13).trans rfl
                have hcz30_14 : w5.cell? ⟨gb271, 14, none⟩ = some (.slice A0_14 l0_14.length c0_14) := (blk_cell BK271.out 14).trans rfl
                have hfz30_0 := blk_frozen BK271.out 0
                have hfz30_1 := blk_frozen BK271.out 1
                have hfz30_2 := blk_frozen BK271.out 2
                have hfz30_3 := blk_frozen BK271.out 3
                have hfz30_4 := blk_frozen BK271.out 4
                have hfz30_5 := blk_frozen BK271.out 5
                have hfz30_6 := blk_frozen BK271.out 6
                have hfz30_7 := blk_frozen BK271.out 7
                have hfz30_8 := blk_frozen BK271.out 8
                have hfz30_9 := blk_frozen BK271.out 9
                have hfz30_10 := blk_frozen BK271.out 10
                have hfz30_11 := blk_frozen BK271.out 11
                have hfz30_12 := blk_frozen BK271.out 12
                have hfz30_13 := blk_frozen BK271.out 13
                have hfz30_14 := blk_frozen BK271.out 14
                have hcz31_0 : w5.cell? ⟨gb272, 0, none⟩ = some (.int .i64 a1_0) := (blk_cell BK272.out 0).trans rfl
                have hcz31_1 : w5.cell? ⟨gb272, 1, none⟩ = some (.int .i64 a1_1) := (blk_cell BK272.out 1).trans rfl
                have hcz31_2 : w5.cell? ⟨gb272, 2, none⟩ = some (.bool a1_2) := (blk_cell BK272.out 2).trans rfl
                have hcz31_3 : w5.cell? ⟨gb272, 3, none⟩ = some (.bool a1_3) := (blk_cell BK272.out 3).trans rfl
                have hcz31_4 : w5.cell? ⟨gb272, 4, none⟩ = some (.int .u32 a1_4) := (blk_cell BK272.out 4).trans rfl
                have hcz31_5 : w5.cell? ⟨gb272, 5, none⟩ = some (.int .u32 a1_5) := (blk_cell BK272.out 5).trans rfl
                have hcz31_6 : w5.cell? ⟨gb272, 6, none⟩ = some (.int .u32 a1_6) := (blk_cell BK272.out 6).trans rfl
                have hcz31_7 : w5.cell? ⟨gb272, 7, none⟩ = some (.int .u32 a1_7) := (blk_cell BK272.out 7).trans rfl
                have hcz31_8 : w5.cell? ⟨gb272, 8, none⟩ = some (.int .i64 a1_8) := (blk_cell BK272.out 8).trans rfl
                have hcz31_9 : w5.cell? ⟨gb272, 9, none⟩ = some (.int .i64 a1_9) := (blk_cell BK272.out 9).trans rfl
                have hcz31_10 : w5.cell? ⟨gb272, 10, none⟩ = some (.int .u32 a1_10) := (blk_cell BK272.out 10).trans rfl
                have hcz31_11 : w5.cell? ⟨gb272, 11, none⟩ = some (.int .u32 a1_11) := (blk_cell BK272.out 11).trans rfl
                have hcz31_12 : w5.cell? ⟨gb272, 12, none⟩ = some (.int .u32 a1_12) := (blk_cell BK272.out 12).trans rfl
                have hcz31_13 : w5.cell? ⟨gb272, 13, none⟩ = some (.slice A1_13 l1_13.length c1_13) := (blk_cell BK272.out 13).trans rfl
                have hcz31_14 : w5.cell? ⟨gb272, 14, none⟩ = some (.slice A1_14 l1_14.length c1_14) := (blk_cell BK272.out 14).trans rfl
                have hfz31_0 := blk_frozen BK272.out 0
                have hfz31_1 := blk_frozen BK272.out 1
                have hfz31_2 := blk_frozen BK272.out 2
                have hfz31_3 := blk_frozen BK272.out 3
                have hfz31_4 := blk_frozen BK272.out 4
                have hfz31_5 := blk_frozen BK272.out 5
                have hfz31_6 := blk_frozen BK272.out 6
                have hfz31_7 := blk_frozen BK272.out 7
                have hfz31_8 := blk_frozen BK272.out 8
                have hfz31_9 := blk_frozen BK272.out 9
                have hfz31_10 := blk_frozen BK272.out 10
                have hfz31_11 := blk_frozen BK272.out 11
                have hfz31_12 := blk_frozen BK272.out 12
                have hfz31_13 := blk_frozen BK272.out 13
                have hfz31_14 := blk_frozen BK272.out 14
                go_wp2
                repeat (go_quiet (fail); try go_wp2)
                go_meet
                case rel => exact ⟨_, (true), (by first | rfl | (simp; done) | (simp [*]; done)), H', ⟨by first | omega | exact Nat.le_refl _⟩, ⟨by (with_reducible repeat (first | refine blk_drewN ?_ _ | refine blk_drew ?_ | refine blk_alloc ?_ _)); exact BK271.out⟩, ⟨by (with_reducible repeat (first | refine blk_drewN ?_ _ | refine blk_drew ?_ | refine blk_alloc ?_ _)); exact BK272.out⟩, ⟨by repeat (first | (with_reducible first | exact HB.out | apply below_alloc | apply pw_below_drewN | apply below_drew1 | refine below_set ?_ GE271.out | refine below_set ?_ GE272.out) | exact HB.out)⟩⟩
        · rw [if_neg c8] at H
          have c8b0 : (a0_1 == a1_1) = false := beq_eq_false_iff_ne.mpr c8
          have c8b1 : (a0_1 != a1_1) = true := bne_iff_ne.mpr c8
          have H' := Aside0.mk H
          clear H
          have hnb32 := NB271_272.out
          have hnc32 := NB272_271.out
          have hcz33_0 : w5.cell? ⟨gb271, 0, none⟩ = some (.int .i64 a0_0) := (blk_cell BK271.out 0).trans rfl
          have hcz33_1 : w5.cell? ⟨gb271, 1, none⟩ = some (.int .i64 a0_1) := (blk_cell BK271.out 1).trans rfl
          have hcz33_2 : w5.cell? ⟨gb271, 2, none⟩ = some (.bool a0_2) := (blk_cell BK271.out 2).trans rfl
          have hcz33_3 : w5.cell? ⟨gb271, 3, none⟩ = some (.bool a0_3) := (blk_cell BK271.out 3).trans rfl
          have hcz33_4 : w5.cell? ⟨gb271, 4, none⟩ = some (.int .u32 a0_4) := (blk_cell BK271.out 4).trans rfl
          have hcz33_5 : w5.cell? ⟨gb271, 5, none⟩ = some (.int .u32 a0_5) := (blk_cell BK271.out 5).trans rfl
          have hcz33_6 : w5.cell? ⟨gb271, 6, none⟩ = some (.int .u32 a0_6) := (blk_cell BK271.out 6).trans rfl
          have hcz33_7 : w5.cell? ⟨gb271, 7, none⟩ = some (.int .u32 a0_7) := (blk_cell BK271.out 7).trans rfl
          have hcz33_8 : w5.cell? ⟨gb271, 8, none⟩ = some (.int .i64 a0_8) := (blk_cell BK271.out 8).trans rfl
          have hcz33_9 : w5.cell? ⟨gb271, 9, none⟩ = some (.int .i64 a0_9) := (blk_cell BK271.out 9).trans rfl
          have hcz33_10 : w5.cell? ⟨gb271, 10, none⟩ = some (.int .u32 a0_10) := (blk_cell BK271.out 10).trans rfl
          have hcz33_11 : w5.cell? ⟨gb271, 11, none⟩ = some (.int .u32 a0_11) := (blk_cell BK271.out 11).trans rfl
          have hcz33_12 : w5.cell? ⟨gb271, 12, none⟩ = some (.int .u32 a0_12) := (blk_cell BK271.out 12).trans rfl
          have hcz33_13 : w5.cell? ⟨gb271, 13, none⟩ = some (.slice A0_13 l0_13.length c0_13) := (blk_cell BK271.out 13).trans rfl
          have hcz33_14 : w5.cell? ⟨gb271, 14, none⟩ = some (.slice A0_14 l0_14.length c0_14) := (blk_cell BK271.out 14).trans rfl
          have hfz33_0 := blk_frozen BK271.out 0
          have hfz33_1 := blk_frozen BK271.out 1
          have hfz33_2 := blk_frozen BK271.out 2
          have hfz33_3 := blk_frozen BK271.out 3
          have hfz33_4 := blk_frozen BK271.out 4
          have hfz33_5 := blk_frozen BK271.out 5
          have hfz33_6 := blk_frozen BK271.out 6
          have hfz33_7 := blk_frozen BK271.out 7
          have hfz33_8 := blk_frozen BK271.out 8
          have hfz33_9 := blk_frozen BK271.out 9
          have hfz33_10 := blk_frozen BK271.out 10
          have hfz33_11 := blk_frozen BK271.out 11
          have hfz33_12 := blk_frozen BK271.out 12
          have hfz33_13 := blk_frozen BK271.out 13
          have hfz33_14 := blk_frozen BK271.out 14
          have hcz34_0 : w5.cell? ⟨gb272, 0, none⟩ = some (.int .i64 a1_0) := (blk_cell BK272.out 0).trans rfl
          have hcz34_1 : w5.cell? ⟨gb272, 1, none⟩ = some (.int .i64 a1_1) := (blk_cell BK272.out 1).trans rfl
          have hcz34_2 : w5.cell? ⟨gb272, 2, none⟩ = some (.bool a1_2) := (blk_cell BK272.out 2).trans rfl
          have hcz34_3 : w5.cell? ⟨gb272, 3, none⟩ = some (.bool a1_3) := (blk_cell BK272.out 3).trans rfl
          have hcz34_4 : w5.cell? ⟨gb272, 4, none⟩ = some (.int .u32 a1_4) := (blk_cell BK272.out 4).trans rfl
          have hcz34_5 : w5.cell? ⟨gb272, 5, none⟩ = some (.int .u32 a1_5) := (blk_cell BK272.out 5).trans rfl
          have hcz34_6 : w5.cell? ⟨gb272, 6, none⟩ = some (.int .u32 a1_6) := (blk_cell BK272.out 6).trans rfl
          have hcz34_7 : w5.cell? ⟨gb272, 7, none⟩ = some (.int .u32 a1_7) := (blk_cell BK272.out 7).trans rfl
          have hcz34_8 : w5.cell? ⟨gb272, 8, none⟩ = some (.int .i64 a1_8) := (blk_cell BK272.out 8).trans rfl
          have hcz34_9 : w5.cell? ⟨gb272, 9, none⟩ = some (.int .i64 a1_9) := (blk_cell BK272.out 9).trans rfl
          have hcz34_10 : w5.cell? ⟨gb272, 10, none⟩ = some (.int .u32 a1_10) := (blk_cell BK272.out 10).trans rfl
          have hcz34_11 : w5.cell? ⟨gb272, 11, none⟩ = some (.int .u32 a1_11) := (blk_cell BK272.out 11).trans rfl
          have hcz34_12 : w5.cell? ⟨gb272, 12, none⟩ = some (.int .u32 a1_12) := (blk_cell BK272.out 12).trans rfl
          have hcz34_13 : w5.cell? ⟨gb272, 13, none⟩ = some (.slice A1_13 l1_13.length c1_13) := (blk_cell BK272.out 13).trans rfl
          have hcz34_14 : w5.cell? ⟨gb272, 14, none⟩ = some (.slice A1_14 l1_14.length c1_14) := (blk_cell BK272.out 14).trans rfl
          have hfz34_0 := blk_frozen BK272.out 0
          have hfz34_1 := blk_frozen BK272.out 1
          have hfz34_2 := blk_frozen BK272.out 2
          have hfz34_3 := blk_frozen BK272.out 3
          have hfz34_4 := blk_frozen BK272.out 4
          have hfz34_5 := blk_frozen BK272.out 5
          have hfz34_6 := blk_frozen BK272.out 6
          have hfz34_7 := blk_frozen BK272.out 7
          have hfz34_8 := blk_frozen BK272.out 8
          have hfz34_9 := blk_frozen BK272.out 9
          have hfz34_10 := blk_frozen BK272.out 10
          have hfz34_11 := blk_frozen BK272.out 11
          have hfz34_12 := blk_frozen BK272.out 12
          have hfz34_13 := blk_frozen BK272.out 13
          have hfz34_14 := blk_frozen BK272.out 14
          go_wp2
          repeat (go_quiet (fail); try go_wp2)
          go_meet
          case rel => exact ⟨_, (true), (by first | rfl | (simp; done) | (simp [*]; done)), H', ⟨by first | omega | exact Nat.le_refl _⟩, ⟨by (with_reducible repeat (first | refine blk_drewN ?_ _ | refine blk_drew ?_ | refine blk_alloc ?_ _)); exact BK271.out⟩, ⟨by (with_reducible repeat (first | refine blk_drewN ?_ _ | refine blk_drew ?_ | refine blk_alloc ?_ _)); exact BK272.out⟩, ⟨by repeat (first | (with_reducible first | exact HB.out | apply below_alloc | apply pw_below_drewN | apply below_drew1 | refine below_set ?_ GE271.out | refine below_set ?_ GE272.out) | exact HB.out)⟩⟩
      · rw [if_neg c7] at H
        have c7b0 : (a0_0 == a1_0) = false := beq_eq_false_iff_ne.mpr c7
        have c7b1 : (a0_0 != a1_0) = true := bne_iff_ne.mpr c7
        have H' := Aside0.mk H
        clear H
        have hnb35 := NB271_272.out
        have hnc35 := NB272_271.out
        have hcz36_0 : w5.cell? ⟨gb271, 0, none⟩ = some (.int .i64 a0_0) := (blk_cell BK271.out 0).trans rfl
        have hcz36_1 : w5.cell? ⟨gb271, 1, none⟩ = some (.int .i64 a0_1) := (blk_cell BK271.out 1).trans rfl
        have hcz36_2 : w5.cell? ⟨gb271, 2, none⟩ = some (.bool a0_2) := (blk_cell BK271.out 2).trans rfl
        have hcz36_3 : w5.cell? ⟨gb271, 3, none⟩ = some (.bool a0_3) := (blk_cell BK271.out 3).trans rfl
        have hcz36_4 : w5.cell? ⟨gb271, 4, none⟩ = some (.int .u32 a0_4) := (blk_cell BK271.out 4).trans rfl
        have hcz36_5 : w5.cell? ⟨gb271, 5, none⟩ = some (.int .u32 a0_5) := (blk_cell BK271.out 5).trans rfl
        have hcz36_6 : w5.cell? ⟨gb271, 6, none⟩ = some (.int .u32 a0_6) := (blk_cell BK271.out 6).trans rfl
        have hcz36_7 : w5.cell? ⟨gb271, 7, none⟩ = some (.int .u32 a0_7) := (blk_cell BK271.out 7).trans rfl
        have hcz36_8 : w5.cell? ⟨gb271, 8, none⟩ = some (.int .i64 a0_8) := (blk_cell BK271.out 8).trans rfl
        have hcz36_9 : w5.cell? ⟨gb271, 9, none⟩ = some (.int .i64 a0_9) := (blk_cell BK271.out 9).trans rfl
        have hcz36_10 : w5.cell? ⟨gb271, 10, none⟩ = some (.int .u32 a0_10) := (blk_cell BK271.out 10).trans rfl
        have hcz36_11 : w5.cell? ⟨gb271, 11, none⟩ = some (.int .u32 a0_11) := (blk_cell BK271.out 11).trans rfl
        have hcz36_12 : w5.cell? ⟨gb271, 12, none⟩ = some (.int .u32 a0_12) := (blk_cell BK271.out 12).trans rfl
        have hcz36_13 : w5.cell? ⟨gb271, 13, none⟩ = some (.slice A0_13 l0_13.length c0_13) := (blk_cell BK271.out 13).trans rfl
        have hcz36_14 : w5.cell? ⟨gb271, 14, none⟩ = some (.slice A0_14 l0_14.length c0_14) := (blk_cell BK271.out 14).trans rfl
        have hfz36_0 := blk_frozen BK271.out 0
        have hfz36_1 := blk_frozen BK271.out 1
        have hfz36_2 := blk_frozen BK271.out 2
        have hfz36_3 := blk_frozen BK271.out 3
        have hfz36_4 := blk_frozen BK271.out 4
        have hfz36_5 := blk_frozen BK271.out 5
        have hfz36_6 := blk_frozen BK271.out 6
        have hfz36_7 := blk_frozen BK271.out 7
        have hfz36_8 := blk_frozen BK271.out 8
        have hfz36_9 := blk_frozen BK271.out 9
        have hfz36_10 := blk_frozen BK271.out 10
        have hfz36_11 := blk_frozen BK271.out 11
        have hfz36_12 := blk_frozen BK271.out 12
        have hfz36_13 := blk_frozen BK271.out 13
        have hfz36_14 := blk_frozen BK271.out 14
        have hcz37_0 : w5.cell? ⟨gb272, 0, none⟩ = some (.int .i64 a1_0) := (blk_cell BK272.out 0).trans rfl
        have hcz37_1 : w5.cell? ⟨gb272, 1, none⟩ = some (.int .i64 a1_1) := (blk_cell BK272.out 1).trans rfl
        have hcz37_2 : w5.cell? ⟨gb272, 2, none⟩ = some (.bool a1_2) := (blk_cell BK272.out 2).trans rfl
        have hcz37_3 : w5.cell? ⟨gb272, 3, none⟩ = some (.bool a1_3) := (blk_cell BK272.out 3).trans rfl
        have hcz37_4 : w5.cell? ⟨gb272, 4, none⟩ = some (.int .u32 a1_4) := (blk_cell BK272.out 4).trans rfl
        have hcz37_5 : w5.cell? ⟨gb272, 5, none⟩ = some (.int .u32 a1_5) := (blk_cell BK272.out 5).trans rfl
        have hcz37_6 : w5.cell? ⟨gb272, 6, none⟩ = some (.int .u32 a1_6) := (blk_cell BK272.out 6).trans rfl
        have hcz37_7 : w5.cell? ⟨gb272, 7, none⟩ = some (.int .u32 a1_7) := (blk_cell BK272.out 7).trans rfl
        have hcz37_8 : w5.cell? ⟨gb272, 8, none⟩ = some (.int .i64 a1_8) := (blk_cell BK272.out 8).trans rfl
        have hcz37_9 : w5.cell? ⟨gb272, 9, none⟩ = some (.int .i64 a1_9) := (blk_cell BK272.out 9).trans rfl
        have hcz37_10 : w5.cell? ⟨gb272, 10, none⟩ = some (.int .u32 a1_10) := (blk_cell BK272.out 10).trans rfl
        have hcz37_11 : w5.cell? ⟨gb272, 11, none⟩ = some (.int .u32 a1_11) := (blk_cell BK272.out 11).trans rfl
        have hcz37_12 : w5.cell? ⟨gb272, 12, none⟩ = some (.int .u32 a1_12) := (blk_cell BK272.out 12).trans rfl
        have hcz37_13 : w5.cell? ⟨gb272, 13, none⟩ = some (.slice A1_13 l1_13.length c1_13) := (blk_cell BK272.out 13).trans rfl
        have hcz37_14 : w5.cell? ⟨gb272, 14, none⟩ = some (.slice A1_14 l1_14.length c1_14) := (blk_cell BK272.out 14).trans rfl
        have hfz37_0 := blk_frozen BK272.out 0
        have hfz37_1 := blk_frozen BK272.out 1
        have hfz37_2 := blk_frozen BK272.out 2
        have hfz37_3 := blk_frozen BK272.out 3
        have hfz37_4 := blk_frozen BK272.out 4
        have hfz37_5 := blk_frozen BK272.out 5
        have hfz37_6 := blk_frozen BK272.out 6
        have hfz37_7 := blk_frozen BK272.out 7
        have hfz37_8 := blk_frozen BK272.out 8
        have hfz37_9 := blk_frozen BK272.out 9
        have hfz37_10 := blk_frozen BK272.out 10
        have hfz37_11 := blk_frozen BK272.out 11
        have hfz37_12 := blk_frozen BK272.out 12
        have hfz37_13 := blk_frozen BK272.out 13
        have hfz37_14 := blk_frozen BK272.out 14
        go_wp2
        repeat (go_quiet (fail); try go_wp2)
        go_meet
        case rel => exact ⟨_, (true), (by first | rfl | (simp; done) | (simp [*]; done)), H', ⟨by first | omega | exact Nat.le_refl _⟩, ⟨by (with_reducible repeat (first | refine blk_drewN ?_ _ | refine blk_drew ?_ | refine blk_alloc ?_ _)); exact BK271.out⟩, ⟨by (with_reducible repeat (first | refine blk_drewN ?_ _ | refine blk_drew ?_ | refine blk_alloc ?_ _)); exact BK272.out⟩, ⟨by repeat (first | (with_reducible first | exact HB.out | apply below_alloc | apply pw_below_drewN | apply below_drew1 | refine below_set ?_ GE271.out | refine below_set ?_ GE272.out) | exact HB.out)⟩⟩
    · rw [if_neg c6] at H
      have c6b0 : ((l0_13.length : Int) == (l1_13.length : Int)) = false := beq_eq_false_iff_ne.mpr c6
      have c6b1 : ((l0_13.length : Int) != (l1_13.length : Int)) = true := bne_iff_ne.mpr c6
      have c6b2 : (l0_13.length == l1_13.length) = false := by first | simpa using c6 | (simp at c6 ⊢; omega)
      (first | rw [c6b0] | (simp only [i64_w, i32_w]; rw [c6b0]) | skip)
      have H' := Aside0.mk H
      clear H
      have hnb38 := NB271_272.out
      have hnc38 := NB272_271.out
      have hcz39_0 : w5.cell? ⟨gb271, 0, none⟩ = some (.int .i64 a0_0) := (blk_cell BK271.out 0).trans rfl
      have hcz39_1 : w5.cell? ⟨gb271, 1, none⟩ = some (.int .i64 a0_1) := (blk_cell BK271.out 1).trans rfl
      have hcz39_2 : w5.cell? ⟨gb271, 2, none⟩ = some (.bool a0_2) := (blk_cell BK271.out 2).trans rfl
      have hcz39_3 : w5.cell? ⟨gb271, 3, none⟩ = some (.bool a0_3) := (blk_cell BK271.out 3).trans rfl
      have hcz39_4 : w5.cell? ⟨gb271, 4, none⟩ = some (.int .u32 a0_4) := (blk_cell BK271.out 4).trans rfl
      have hcz39_5 : w5.cell? ⟨gb271, 5, none⟩ = some (.int .u32 a0_5) := (blk_cell BK271.out 5).trans rfl
      have hcz39_6 : w5.cell? ⟨gb271, 6, none⟩ = some (.int .u32 a0_6) := (blk_cell BK271.out 6).trans rfl
      have hcz39_7 : w5.cell? ⟨gb271, 7, none⟩ = some (.int .u32 a0_7) := (blk_cell BK271.out 7).trans rfl
      have hcz39_8 : w5.cell? ⟨gb271, 8, none⟩ = some (.int .i64 a0_8) := (blk_cell BK271.out 8).trans rfl
      have hcz39_9 : w5.cell? ⟨gb271, 9, none⟩ = some (.int .i64 a0_9) := (blk_cell BK271.out 9).trans rfl
      have hcz39_10 : w5.cell? ⟨gb271, 10, none⟩ = some (.int .u32 a0_10) := (blk_cell BK271.out 10).trans rfl
      have hcz39_11 : w5.cell? ⟨gb271, 11, none⟩ = some (.int .u32 a0_11) := (blk_cell BK271.out 11).trans rfl
      have hcz39_12 : w5.cell? ⟨gb271, 12, none⟩ = some (.int .u32 a0_12) := (blk_cell BK271.out 12).trans rfl
      have hcz39_13 : w5.cell? ⟨gb271, 13, none⟩ = some (.slice A0_13 l0_13.length c0_13) := (blk_cell BK271.out 13).trans rfl
      have hcz39_14 : w5.cell? ⟨gb271, 14, none⟩ = some (.slice A0_14 l0_14.length c0_14) := (blk_cell BK271.out 14).trans rfl
      have hfz39_0 := blk_frozen BK271.out 0
      have hfz39_1 := blk_frozen BK271.out 1
      have hfz39_2 := blk_frozen BK271.out 2
      have hfz39_3 := blk_frozen BK271.out 3
      have hfz39_4 := blk_frozen BK271.out 4
      have hfz39_5 := blk_frozen BK271.out 5
      have hfz39_6 := blk_frozen BK271.out 6
      have hfz39_7 := blk_frozen BK271.out 7
      have hfz39_8 := blk_frozen BK271.out 8
      have hfz39_9 := blk_frozen BK271.out 9
      have hfz39_10 := blk_frozen BK271.out 10
      have hfz39_11 := blk_frozen BK271.out 11
      have hfz39_12 := blk_frozen BK271.out 12
      have hfz39_13 := blk_frozen BK271.out 13
      have hfz39_14 := blk_frozen BK271.out 14
      have hcz40_0 : w5.cell? ⟨gb272, 0, none⟩ = some (.int .i64 a1_0) := (blk_cell BK272.out 0).trans rfl
      have hcz40_1 : w5.cell? ⟨gb272, 1, none⟩ = some (.int .i64 a1_1) := (blk_cell BK272.out 1).trans rfl
      have hcz40_2 : w5.cell? ⟨gb272, 2, none⟩ = some (.bool a1_2) := (blk_cell BK272.out 2).trans rfl
      have hcz40_3 : w5.cell? ⟨gb272, 3, none⟩ = some (.bool a1_3) := (blk_cell BK272.out 3).trans rfl
      have hcz40_4 : w5.cell? ⟨gb272, 4, none⟩ = some (.int .u32 a1_4) := (blk_cell BK272.out 4).trans rfl
      have hcz40_5 : w5.cell? ⟨gb272, 5, none⟩ = some (.int .u32 a1_5) := (blk_cell BK272.out 5).trans rfl
      have hcz40_6 : w5.cell? ⟨gb272, 6, none⟩ = some (.int .u32 a1_6) := (blk_cell BK272.out 6).trans rfl
      have hcz40_7 : w5.cell? ⟨gb272, 7, none⟩ = some (.int .u32 a1_7) := (blk_cell BK272.out 7).trans rfl
      have hcz40_8 : w5.cell? ⟨gb272, 8, none⟩ = some (.int .i64 a1_8) := (blk_cell BK272.out 8).trans rfl
      have hcz40_9 : w5.cell? ⟨gb272, 9, none⟩ = some (.int .i64 a1_9) := (blk_cell BK272.out 9).trans rfl
      have hcz40_10 : w5.cell? ⟨gb272, 10, none⟩ = some (.int .u32 a1_10) := (blk_cell BK272.out 10).trans rfl
      have hcz40_11 : w5.cell? ⟨gb272, 11, none⟩ = some (.int .u32 a1_11) := (blk_cell BK272.out 11).trans rfl
      have hcz40_12 : w5.cell? ⟨gb272, 12, none⟩ = some (.int .u32 a1_12) := (blk_cell BK272.out 12).trans rfl
      have hcz40_13 : w5.cell? ⟨gb272, 13, none⟩ = some (.slice A1_13 l1_13.length c1_13) := (blk_cell BK272.out 13).trans rfl
      have hcz40_14 : w5.cell? ⟨gb272, 14, none⟩ = some (.slice A1_14 l1_14.length c1_14) := (blk_cell BK272.out 14).trans rfl
      have hfz40_0 := blk_frozen BK272.out 0
      have hfz40_1 := blk_frozen BK272.out 1
      have hfz40_2 := blk_frozen BK272.out 2
      have hfz40_3 := blk_frozen BK272.out 3
      have hfz40_4 := blk_frozen BK272.out 4
      have hfz40_5 := blk_frozen BK272.out 5
      have hfz40_6 := blk_frozen BK272.out 6
      have hfz40_7 := blk_frozen BK272.out 7
      have hfz40_8 := blk_frozen BK272.out 8
      have hfz40_9 := blk_frozen BK272.out 9
      have hfz40_10 := blk_frozen BK272.out 10
      have hfz40_11 := blk_frozen BK272.out 11
      have hfz40_12 := blk_frozen BK272.out 12
      have hfz40_13 := blk_frozen BK272.out 13
      have hfz40_14 := blk_frozen BK272.out 14
      go_wp2
      repeat (go_quiet (fail); try go_wp2)
      go_meet
      case rel => exact ⟨_, (true), (by first | rfl | (simp; done) | (simp [*]; done)), H', ⟨by first | omega | exact Nat.le_refl _⟩, ⟨by (with_reducible repeat (first | refine blk_drewN ?_ _ | refine blk_drew ?_ | refine blk_alloc ?_ _)); exact BK271.out⟩, ⟨by (with_reducible repeat (first | refine blk_drewN ?_ _ | refine blk_drew ?_ | refine blk_alloc ?_ _)); exact BK272.out⟩, ⟨by repeat (first | (with_reducible first | exact HB.out | apply below_alloc | apply pw_below_drewN | apply below_drew1 | refine below_set ?_ GE271.out | refine below_set ?_ GE272.out) | exact HB.out)⟩⟩
  case rest =>
    clear HC3
    try clear c1
    try clear c2
    try clear p2
    try clear c3
    try clear c6
    try clear c6b0
    try clear c6b1
    try clear c6b2
    try clear c7
    try clear c7b0
    try clear c7b1
    try clear c8
    try clear c8b0
    try clear c8b1
    try clear c9
    try clear c9b0
    try clear c9b1
    try clear c9b2
    try clear c13
    try clear c13b0
    try clear c13b1
    try clear c13b2
    try clear c14
    try clear c17
    try clear c17b0
    try clear c17b1
    try clear c18
    try clear c18b0
    try clear c18b1
    try clear c19
    try clear c19b0
    try clear c19b1
    try clear c20
    try clear c23
    try clear c26
    try clear c29
    try clear c32
    try clear c35
    try clear c38
    try clear hcz15_0
    try clear hcz15_1
    try clear hcz15_10
    try clear hcz15_11
    try clear hcz15_12
    try clear hcz15_13
    try clear hcz15_14
    try clear hcz15_2
    try clear hcz15_3
    try clear hcz15_4
    try clear hcz15_5
    try clear hcz15_6
    try clear hcz15_7
    try clear hcz15_8
    try clear hcz15_9
    try clear hcz16_0
    try clear hcz16_1
    try clear hcz16_10
    try clear hcz16_11
    try clear hcz16_12
    try clear hcz16_13
    try clear hcz16_14
    try clear hcz16_2
    try clear hcz16_3
    try clear hcz16_4
    try clear hcz16_5
    try clear hcz16_6
    try clear hcz16_7
    try clear hcz16_8
    try clear hcz16_9
    try clear hcz21_0
    try clear hcz21_1
    try clear hcz21_10
    try clear hcz21_11
    try clear hcz21_12
    try clear hcz21_13
    try clear hcz21_14
    try clear hcz21_2
    try clear hcz21_3
    try clear hcz21_4
    try clear hcz21_5
    try clear hcz21_6
    try clear hcz21_7
    try clear hcz21_8
    try clear hcz21_9
    try clear hcz22_0
    try clear hcz22_1
    try clear hcz22_10
    try clear hcz22_11
    try clear hcz22_12
    try clear hcz22_13
    try clear hcz22_14
    try clear hcz22_2
    try clear hcz22_3
    try clear hcz22_4
    try clear hcz22_5
    try clear hcz22_6
    try clear hcz22_7
    try clear hcz22_8
    try clear hcz22_9
    try clear hcz24_0
    try clear hcz24_1
    try clear hcz24_10
    try clear hcz24_11
    try clear hcz24_12
    try clear hcz24_13
    try clear hcz24_14
    try clear hcz24_2
    try clear hcz24_3
    try clear hcz24_4
    try clear hcz24_5
    try clear hcz24_6
    try clear hcz24_7
    try clear hcz24_8
    try clear hcz24_9
    try clear hcz25_0
    try clear hcz25_1
    try clear hcz25_10
    try clear hcz25_11
    try clear hcz25_12
    try clear hcz25_13
    try clear hcz25_14
    try clear hcz25_2
    try clear hcz25_3
    try clear hcz25_4
    try clear hcz25_5
    try clear hcz25_6
    try clear hcz25_7
    try clear hcz25_8
    try clear hcz25_9
    try clear hcz27_0
    try clear hcz27_1
    try clear hcz27_10
    try clear hcz27_11
    try clear hcz27_12
    try clear hcz27_13
    try clear hcz27_14
    try clear hcz27_2
    try clear hcz27_3
    try clear hcz27_4
    try clear hcz27_5
    try clear hcz27_6
    try clear hcz27_7
    try clear hcz27_8
    try clear hcz27_9
    try clear hcz28_0
    try clear hcz28_1
    try clear hcz28_10
    try clear hcz28_11
    try clear hcz28_12
    try clear hcz28_13
    try clear hcz28_14
    try clear hcz28_2
    try clear hcz28_3
    try clear hcz28_4
    try clear hcz28_5
    try clear hcz28_6
    try clear hcz28_7
    try clear hcz28_8
    try clear hcz28_9
    try clear hcz30_0
    try clear hcz30_1
    try clear hcz30_10
    try clear hcz30_11
    try clear hcz30_12
    try clear hcz30_13
    try clear hcz30_14
    try clear hcz30_2
    try clear hcz30_3
    try clear hcz30_4
    try clear hcz30_5
    try clear hcz30_6
    try clear hcz30_7
    try clear hcz30_8
    try clear hcz30_9
    try clear hcz31_0
    try clear hcz31_1
    try clear hcz31_10
    try clear hcz31_11
    try clear hcz31_12
    try clear hcz31_13
    try clear hcz31_14
    try clear hcz31_2
    try clear hcz31_3
    try clear hcz31_4
    try clear hcz31_5
    try clear hcz31_6
    try clear hcz31_7
    try clear hcz31_8
    try clear hcz31_9
    try clear hcz33_0
    try clear hcz33_1
    try clear hcz33_10
    try clear hcz33_11
    try clear hcz33_12
    try clear hcz33_13
    try clear hcz33_14
    try clear hcz33_2
    try clear hcz33_3
    try clear hcz33_4
    try clear hcz33_5
    try clear hcz33_6
    try clear hcz33_7
    try clear hcz33_8
    try clear hcz33_9
    try clear hcz34_0
    try clear hcz34_1
    try clear hcz34_10
    try clear hcz34_11
    try clear hcz34_12
    try clear hcz34_13
    try clear hcz34_14
    try clear hcz34_2
    try clear hcz34_3
    try clear hcz34_4
    try clear hcz34_5
    try clear hcz34_6
    try clear hcz34_7
    try clear hcz34_8
    try clear hcz34_9
    try clear hcz36_0
    try clear hcz36_1
    try clear hcz36_10
    try clear hcz36_11
    try clear hcz36_12
    try clear hcz36_13
    try clear hcz36_14
    try clear hcz36_2
    try clear hcz36_3
    try clear hcz36_4
    try clear hcz36_5
    try clear hcz36_6
    try clear hcz36_7
    try clear hcz36_8
    try clear hcz36_9
    try clear hcz37_0
    try clear hcz37_1
    try clear hcz37_10
    try clear hcz37_11
    try clear hcz37_12
    try clear hcz37_13
    try clear hcz37_14
    try clear hcz37_2
    try clear hcz37_3
    try clear hcz37_4
    try clear hcz37_5
    try clear hcz37_6
    try clear hcz37_7
    try clear hcz37_8
    try clear hcz37_9
    try clear hcz39_0
    try clear hcz39_1
    try clear hcz39_10
    try clear hcz39_11
    try clear hcz39_12
    try clear hcz39_13
    try clear hcz39_14
    try clear hcz39_2
    try clear hcz39_3
    try clear hcz39_4
    try clear hcz39_5
    try clear hcz39_6
    try clear hcz39_7
    try clear hcz39_8
    try clear hcz39_9
    try clear hcz40_0
    try clear hcz40_1
    try clear hcz40_10
    try clear hcz40_11
    try clear hcz40_12
    try clear hcz40_13
    try clear hcz40_14
    try clear hcz40_2
    try clear hcz40_3
    try clear hcz40_4
    try clear hcz40_5
    try clear hcz40_6
    try clear hcz40_7
    try clear hcz40_8
    try clear hcz40_9
    try clear hfz15_0
    try clear hfz15_1
    try clear hfz15_10
    try clear hfz15_11
    try clear hfz15_12
    try clear hfz15_13
    try clear hfz15_14
    try clear hfz15_2
    try clear hfz15_3
    try clear hfz15_4
    try clear hfz15_5
    try clear hfz15_6
    try clear hfz15_7
    try clear hfz15_8
    try clear hfz15_9
    try clear hfz16_0
    try clear hfz16_1
    try clear hfz16_10
    try clear hfz16_11
    try clear hfz16_12
    try clear hfz16_13
    try clear hfz16_14
    try clear hfz16_2
    try clear hfz16_3
    try clear hfz16_4
    try clear hfz16_5
    try clear hfz16_6
    try clear hfz16_7
    try clear hfz16_8
    try clear hfz16_9
    try clear hfz21_0
    try clear hfz21_1
    try clear hfz21_10
    try clear hfz21_11
    try clear hfz21_12
    try clear hfz21_13
    try clear hfz21_14
    try clear hfz21_2
    try clear hfz21_3
    try clear hfz21_4
    try clear hfz21_5
    try clear hfz21_6
    try clear hfz21_7
    try clear hfz21_8
    try clear hfz21_9
    try clear hfz22_0
    try clear hfz22_1
    try clear hfz22_10
    try clear hfz22_11
    try clear hfz22_12
    try clear hfz22_13
    try clear hfz22_14
    try clear hfz22_2
    try clear hfz22_3
    try clear hfz22_4
    try clear hfz22_5
    try clear hfz22_6
    try clear hfz22_7
    try clear hfz22_8
    try clear hfz22_9
    try clear hfz24_0
    try clear hfz24_1
    try clear hfz24_10
    try clear hfz24_11
    try clear hfz24_12
    try clear hfz24_13
    try clear hfz24_14
    try clear hfz24_2
    try clear hfz24_3
    try clear hfz24_4
    try clear hfz24_5
    try clear hfz24_6
    try clear hfz24_7
    try clear hfz24_8
    try clear hfz24_9
    try clear hfz25_0
    try clear hfz25_1
    try clear hfz25_10
    try clear hfz25_11
    try clear hfz25_12
    try clear hfz25_13
    try clear hfz25_14
    try clear hfz25_2
    try clear hfz25_3
    try clear hfz25_4
    try clear hfz25_5
    try clear hfz25_6
    try clear hfz25_7
    try clear hfz25_8
    try clear hfz25_9
    try clear hfz27_0
    try clear hfz27_1
    try clear hfz27_10
    try clear hfz27_11
    try clear hfz27_12
    try clear hfz27_13
    try clear hfz27_14
    try clear hfz27_2
    try clear hfz27_3
    try clear hfz27_4
    try clear hfz27_5
    try clear hfz27_6
    try clear hfz27_7
    try clear hfz27_8
    try clear hfz27_9
    try clear hfz28_0
    try clear hfz28_1
    try clear hfz28_10
    try clear hfz28_11
    try clear hfz28_12
    try clear hfz28_13
    try clear hfz28_14
    try clear hfz28_2
    try clear hfz28_3
    try clear hfz28_4
    try clear hfz28_5
    try clear hfz28_6
    try clear hfz28_7
    try clear hfz28_8
    try clear hfz28_9
    try clear hfz30_0
    try clear hfz30_1
    try clear hfz30_10
    try clear hfz30_11
    try clear hfz30_12
    try clear hfz30_13
    try clear hfz30_14
    try clear hfz30_2
    try clear hfz30_3
    try clear hfz30_4
    try clear hfz30_5
    try clear hfz30_6
    try clear hfz30_7
    try clear hfz30_8
    try clear hfz30_9
    try clear hfz31_0
    try clear hfz31_1
    try clear hfz31_10
    try clear hfz31_11
    try clear hfz31_12
    try clear hfz31_13
    try clear hfz31_14
    try clear hfz31_2
    try clear hfz31_3
    try clear hfz31_4
    try clear hfz31_5
    try clear hfz31_6
    try clear hfz31_7
    try clear hfz31_8
    try clear hfz31_9
    try clear hfz33_0
    try clear hfz33_1
    try clear hfz33_10
    try clear hfz33_11
    try clear hfz33_12
    try clear hfz33_13
    try clear hfz33_14
    try clear hfz33_2
    try clear hfz33_3
    try clear hfz33_4
    try clear hfz33_5
    try clear hfz33_6
    try clear hfz33_7
    try clear hfz33_8
    try clear hfz33_9
    try clear hfz34_0
    try clear hfz34_1
    try clear hfz34_10
    try clear hfz34_11
    try clear hfz34_12
    try clear hfz34_13
    try clear hfz34_14
    try clear hfz34_2
    try clear hfz34_3
    try clear hfz34_4
    try clear hfz34_5
    try clear hfz34_6
    try clear hfz34_7
    try clear hfz34_8
    try clear hfz34_9
    try clear hfz36_0
    try clear hfz36_1
    try clear hfz36_10
    try clear hfz36_11
    try clear hfz36_12
    try clear hfz36_13
    try clear hfz36_14
    try clear hfz36_2
    try clear hfz36_3
    try clear hfz36_4
    try clear hfz36_5
    try clear hfz36_6
    try clear hfz36_7
    try clear hfz36_8
    try clear hfz36_9
    try clear hfz37_0
    try clear hfz37_1
    try clear hfz37_10
    try clear hfz37_11
    try clear hfz37_12
    try clear hfz37_13
    try clear hfz37_14
    try clear hfz37_2
    try clear hfz37_3
    try clear hfz37_4
    try clear hfz37_5
    try clear hfz37_6
    try clear hfz37_7
    try clear hfz37_8
    try clear hfz37_9
    try clear hfz39_0
    try clear hfz39_1
    try clear hfz39_10
    try clear hfz39_11
    try clear hfz39_12
    try clear hfz39_13
    try clear hfz39_14
    try clear hfz39_2
    try clear hfz39_3
    try clear hfz39_4
    try clear hfz39_5
    try clear hfz39_6
    try clear hfz39_7
    try clear hfz39_8
    try clear hfz39_9
    try clear hfz40_0
    try clear hfz40_1
    try clear hfz40_10
    try clear hfz40_11
    try clear hfz40_12
    try clear hfz40_13
    try clear hfz40_14
    try clear hfz40_2
    try clear hfz40_3
    try clear hfz40_4
    try clear hfz40_5
    try clear hfz40_6
    try clear hfz40_7
    try clear hfz40_8
    try clear hfz40_9
    obtain ⟨kq, x69_2, rfl, HA, HJ2, BK271, BK272, HB⟩ := hcut
    cases kq with
    | zero => exact absurd HA.out (by simp [fourinhandref07_Same.j0])
    | succ kj2 =>
      have H := HA.out
      clear HA
      simp only [fourinhandref07_Same.j0] at H
      by_cases c41 : x69_2 = true
      · subst c41
        have H1 : (some false) = some r := by rw [if_pos rfl] at H; exact H
        clear H
        have H := H1
        clear H1
        obtain rfl := Option.some.inj H
        go_wp2
        repeat (go_quiet (fail); try go_wp2)
        go_ret
        exact ⟨by first | rfl | (simp [errW_none, errW_some] <;> rfl) | (simp [*, errW_none, errW_some] <;> rfl), by repeat (first | (with_reducible first | exact HB.out | apply below_alloc | apply pw_below_drewN | apply below_drew1 | refine below_set ?_ GE271.out | refine below_set ?_ GE272.out) | exact HB.out)⟩
      · replace c41 := Bool.eq_false_iff.mpr c41
        subst c41
        have H1 : (fourinhandref07_Same.l0 kj2 0 a0_0 a0_1 a0_2 a0_3 a0_4 a0_5 a0_6 a0_7 a0_8 a0_9 a0_10 a0_11 a0_12 l0_13 l0_14 a1_0 a1_1 a1_2 a1_3 a1_4 a1_5 a1_6 a1_7 a1_8 a1_9 a1_10 a1_11 a1_12 l1_13 l1_14) = some r := by rw [if_neg (show ¬ (false = true) by decide)] at H; exact H
        clear H
        have H := H1
        clear H1
        have H' := Aside0.mk H
        clear H
        go_wp2
        repeat (go_quiet (fail); try go_wp2)
        go_loopg [5] kj2 (fun kq v5 w' => ∃ (x5_2 : Int), v5 = .int .i64 x5_2 ∧ Aside0 (fourinhandref07_Same.l0 kq x5_2 a0_0 a0_1 a0_2 a0_3 a0_4 a0_5 a0_6 a0_7 a0_8 a0_9 a0_10 a0_11 a0_12 l0_13 l0_14 a1_0 a1_1 a1_2 a1_3 a1_4 a1_5 a1_6 a1_7 a1_8 a1_9 a1_10 a1_11 a1_12 l1_13 l1_14 = some r) ∧ Aside0 (kq ≤ kj2) ∧ Aside0 (w'.heap[gb271]? = some (.cells #[.int .i64 a0_0, .int .i64 a0_1, .bool a0_2, .bool a0_3, .int .u32 a0_4, .int .u32 a0_5, .int .u32 a0_6, .int .u32 a0_7, .int .i64 a0_8, .int .i64 a0_9, .int .u32 a0_10, .int .u32 a0_11, .int .u32 a0_12, (.slice A0_13 l0_13.length c0_13), (.slice A0_14 l0_14.length c0_14)] 41 (0, 0))) ∧ Aside0 (w'.heap[gb272]? = some (.cells #[.int .i64 a1_0, .int .i64 a1_1, .bool a1_2, .bool a1_3, .int .u32 a1_4, .int .u32 a1_5, .int .u32 a1_6, .int .u32 a1_7, .int .i64 a1_8, .int .i64 a1_9, .int .u32 a1_10, .int .u32 a1_11, .int .u32 a1_12, (.slice A1_13 l1_13.length c1_13), (.slice A1_14 l1_14.length c1_14)] 41 (0, 0))) ∧ Aside0 (Below w.heap.size w w'))
        case atStart => exact ⟨(0), (by first | rfl | (simp; done) | (simp [*]; done)), H', ⟨Nat.le_refl _⟩, ⟨by (with_reducible repeat (first | refine blk_drewN ?_ _ | refine blk_drew ?_ | refine blk_alloc ?_ _)); exact BK271.out⟩, ⟨by (with_reducible repeat (first | refine blk_drewN ?_ _ | refine blk_drew ?_ | refine blk_alloc ?_ _)); exact BK272.out⟩, ⟨by repeat (first | (with_reducible first | exact HB.out | apply below_alloc | apply pw_below_drewN | apply below_drew1 | refine below_set ?_ GE271.out | refine below_set ?_ GE272.out) | exact HB.out)⟩⟩
        case round =>
          clear H'
          try clear c1
          try clear c2
          try clear p2
          try clear c3
          try clear c4
          try clear c6
          try clear c6b0
          try clear c6b1
          try clear c6b2
          try clear c7
          try clear c7b0
          try clear c7b1
          try clear c8
          try clear c8b0
          try clear c8b1
          try clear c9
          try clear c9b0
          try clear c9b1
          try clear c9b2
          try clear c13
          try clear c13b0
          try clear c13b1
          try clear c13b2
          try clear c14
          try clear c17
          try clear c17b0
          try clear c17b1
          try clear c18
          try clear c18b0
          try clear c18b1
          try clear c19
          try clear c19b0
          try clear c19b1
          try clear c20
          try clear c23
          try clear c26
          try clear c29
          try clear c32
          try clear c35
          try clear c38
          try clear c41
          try clear hcz15_0
          try clear hcz15_1
          try clear hcz15_10
          try clear hcz15_11
          try clear hcz15_12
          try clear hcz15_13
          try clear hcz15_14
          try clear hcz15_2
          try clear hcz15_3
          try clear hcz15_4
          try clear hcz15_5
          try clear hcz15_6
          try clear hcz15_7
          try clear hcz15_8
          try clear hcz15_9
          try clear hcz16_0
          try clear hcz16_1
          try clear hcz16_10
          try clear hcz16_11
          try clear hcz16_12
          try clear hcz16_13
          try clear hcz16_14
          try clear hcz16_2
          try clear hcz16_3
          try clear hcz16_4
          try clear hcz16_5
          try clear hcz16_6
          try clear hcz16_7
          try clear hcz16_8
          try clear hcz16_9
          try clear hcz21_0
          try clear hcz21_1
          try clear hcz21_10
          try clear hcz21_11
          try clear hcz21_12
          try clear hcz21_13
          try clear hcz21_14
          try clear hcz21_2
          try clear hcz21_3
          try clear hcz21_4
          try clear hcz21_5
          try clear hcz21_6
          try clear hcz21_7
          try clear hcz21_8
          try clear hcz21_9
          try clear hcz22_0
          try clear hcz22_1
          try clear hcz22_10
          try clear hcz22_11
          try clear hcz22_12
          try clear hcz22_13
          try clear hcz22_14
          try clear hcz22_2
          try clear hcz22_3
          try clear hcz22_4
          try clear hcz22_5
          try clear hcz22_6
          try clear hcz22_7
          try clear hcz22_8
          try clear hcz22_9
          try clear hcz24_0
          try clear hcz24_1
          try clear hcz24_10
          try clear hcz24_11
          try clear hcz24_12
          try clear hcz24_13
          try clear hcz24_14
          try clear hcz24_2
          try clear hcz24_3
          try clear hcz24_4
          try clear hcz24_5
          try clear hcz24_6
          try clear hcz24_7
          try clear hcz24_8
          try clear hcz24_9
          try clear hcz25_0
          try clear hcz25_1
          try clear hcz25_10
          try clear hcz25_11
          try clear hcz25_12
          try clear hcz25_13
          try clear hcz25_14
          try clear hcz25_2
          try clear hcz25_3
          try clear hcz25_4
          try clear hcz25_5
          try clear hcz25_6
          try clear hcz25_7
          try clear hcz25_8
          try clear hcz25_9
          try clear hcz27_0
          try clear hcz27_1
          try clear hcz27_10
          try clear hcz27_11
          try clear hcz27_12
          try clear hcz27_13
          try clear hcz27_14
          try clear hcz27_2
          try clear hcz27_3
          try clear hcz27_4
          try clear hcz27_5
          try clear hcz27_6
          try clear hcz27_7
          try clear hcz27_8
          try clear hcz27_9
          try clear hcz28_0
          try clear hcz28_1
          try clear hcz28_10
          try clear hcz28_11
          try clear hcz28_12
          try clear hcz28_13
          try clear hcz28_14
          try clear hcz28_2
          try clear hcz28_3
          try clear hcz28_4
          try clear hcz28_5
          try clear hcz28_6
          try clear hcz28_7
          try clear hcz28_8
          try clear hcz28_9
          try clear hcz30_0
          try clear hcz30_1
          try clear hcz30_10
          try clear hcz30_11
          try clear hcz30_12
          try clear hcz30_13
          try clear hcz30_14
          try clear hcz30_2
          try clear hcz30_3
          try clear hcz30_4
          try clear hcz30_5
          try clear hcz30_6
          try clear hcz30_7
          try clear hcz30_8
          try clear hcz30_9
          try clear hcz31_0
          try clear hcz31_1
          try clear hcz31_10
          try clear hcz31_11
          try clear hcz31_12
          try clear hcz31_13
          try clear hcz31_14
          try clear hcz31_2
          try clear hcz31_3
          try clear hcz31_4
          try clear hcz31_5
          try clear hcz31_6
          try clear hcz31_7
          try clear hcz31_8
          try clear hcz31_9
          try clear hcz33_0
          try clear hcz33_1
          try clear hcz33_10
          try clear hcz33_11
          try clear hcz33_12
          try clear hcz33_13
          try clear hcz33_14
          try clear hcz33_2
          try clear hcz33_3
          try clear hcz33_4
          try clear hcz33_5
          try clear hcz33_6
          try clear hcz33_7
          try clear hcz33_8
          try clear hcz33_9
          try clear hcz34_0
          try clear hcz34_1
          try clear hcz34_10
          try clear hcz34_11
          try clear hcz34_12
          try clear hcz34_13
          try clear hcz34_14
          try clear hcz34_2
          try clear hcz34_3
          try clear hcz34_4
          try clear hcz34_5
          try clear hcz34_6
          try clear hcz34_7
          try clear hcz34_8
          try clear hcz34_9
          try clear hcz36_0
          try clear hcz36_1
          try clear hcz36_10
          try clear hcz36_11
          try clear hcz36_12
          try clear hcz36_13
          try clear hcz36_14
          try clear hcz36_2
          try clear hcz36_3
          try clear hcz36_4
          try clear hcz36_5
          try clear hcz36_6
          try clear hcz36_7
          try clear hcz36_8
          try clear hcz36_9
          try clear hcz37_0
          try clear hcz37_1
          try clear hcz37_10
          try clear hcz37_11
          try clear hcz37_12
          try clear hcz37_13
          try clear hcz37_14
          try clear hcz37_2
          try clear hcz37_3
          try clear hcz37_4
          try clear hcz37_5
          try clear hcz37_6
          try clear hcz37_7
          try clear hcz37_8
          try clear hcz37_9
          try clear hcz39_0
          try clear hcz39_1
          try clear hcz39_10
          try clear hcz39_11
          try clear hcz39_12
          try clear hcz39_13
          try clear hcz39_14
          try clear hcz39_2
          try clear hcz39_3
          try clear hcz39_4
          try clear hcz39_5
          try clear hcz39_6
          try clear hcz39_7
          try clear hcz39_8
          try clear hcz39_9
          try clear hcz40_0
          try clear hcz40_1
          try clear hcz40_10
          try clear hcz40_11
          try clear hcz40_12
          try clear hcz40_13
          try clear hcz40_14
          try clear hcz40_2
          try clear hcz40_3
          try clear hcz40_4
          try clear hcz40_5
          try clear hcz40_6
          try clear hcz40_7
          try clear hcz40_8
          try clear hcz40_9
          try clear hfz15_0
          try clear hfz15_1
          try clear hfz15_10
          try clear hfz15_11
          try clear hfz15_12
          try clear hfz15_13
          try clear hfz15_14
          try clear hfz15_2
          try clear hfz15_3
          try clear hfz15_4
          try clear hfz15_5
          try clear hfz15_6
          try clear hfz15_7
          try clear hfz15_8
          try clear hfz15_9
          try clear hfz16_0
          try clear hfz16_1
          try clear hfz16_10
          try clear hfz16_11
          try clear hfz16_12
          try clear hfz16_13
          try clear hfz16_14
          try clear hfz16_2
          try clear hfz16_3
          try clear hfz16_4
          try clear hfz16_5
          try clear hfz16_6
          try clear hfz16_7
          try clear hfz16_8
          try clear hfz16_9
          try clear hfz21_0
          try clear hfz21_1
          try clear hfz21_10
          try clear hfz21_11
          try clear hfz21_12
          try clear hfz21_13
          try clear hfz21_14
          try clear hfz21_2
          try clear hfz21_3
          try clear hfz21_4
          try clear hfz21_5
          try clear hfz21_6
          try clear hfz21_7
          try clear hfz21_8
          try clear hfz21_9
          try clear hfz22_0
          try clear hfz22_1
          try clear hfz22_10
          try clear hfz22_11
          try clear hfz22_12
          try clear hfz22_13
          try clear hfz22_14
          try clear hfz22_2
          try clear hfz22_3
          try clear hfz22_4
          try clear hfz22_5
          try clear hfz22_6
          try clear hfz22_7
          try clear hfz22_8
          try clear hfz22_9
          try clear hfz24_0
          try clear hfz24_1
          try clear hfz24_10
          try clear hfz24_11
          try clear hfz24_12
          try clear hfz24_13
          try clear hfz24_14
          try clear hfz24_2
          try clear hfz24_3
          try clear hfz24_4
          try clear hfz24_5
          try clear hfz24_6
          try clear hfz24_7
          try clear hfz24_8
          try clear hfz24_9
          try clear hfz25_0
          try clear hfz25_1
          try clear hfz25_10
          try clear hfz25_11
          try clear hfz25_12
          try clear hfz25_13
          try clear hfz25_14
          try clear hfz25_2
          try clear hfz25_3
          try clear hfz25_4
          try clear hfz25_5
          try clear hfz25_6
          try clear hfz25_7
          try clear hfz25_8
          try clear hfz25_9
          try clear hfz27_0
          try clear hfz27_1
          try clear hfz27_10
          try clear hfz27_11
          try clear hfz27_12
          try clear hfz27_13
          try clear hfz27_14
          try clear hfz27_2
          try clear hfz27_3
          try clear hfz27_4
          try clear hfz27_5
          try clear hfz27_6
          try clear hfz27_7
          try clear hfz27_8
          try clear hfz27_9
          try clear hfz28_0
          try clear hfz28_1
          try clear hfz28_10
          try clear hfz28_11
          try clear hfz28_12
          try clear hfz28_13
          try clear hfz28_14
          try clear hfz28_2
          try clear hfz28_3
          try clear hfz28_4
          try clear hfz28_5
          try clear hfz28_6
          try clear hfz28_7
          try clear hfz28_8
          try clear hfz28_9
          try clear hfz30_0
          try clear hfz30_1
          try clear hfz30_10
          try clear hfz30_11
          try clear hfz30_12
          try clear hfz30_13
          try clear hfz30_14
          try clear hfz30_2
          try clear hfz30_3
          try clear hfz30_4
          try clear hfz30_5
          try clear hfz30_6
          try clear hfz30_7
          try clear hfz30_8
          try clear hfz30_9
          try clear hfz31_0
          try clear hfz31_1
          try clear hfz31_10
          try clear hfz31_11
          try clear hfz31_12
          try clear hfz31_13
          try clear hfz31_14
          try clear hfz31_2
          try clear hfz31_3
          try clear hfz31_4
          try clear hfz31_5
          try clear hfz31_6
          try clear hfz31_7
          try clear hfz31_8
          try clear hfz31_9
          try clear hfz33_0
          try clear hfz33_1
          try clear hfz33_10
          try clear hfz33_11
          try clear hfz33_12
          try clear hfz33_13
          try clear hfz33_14
          try clear hfz33_2
          try clear hfz33_3
          try clear hfz33_4
          try clear hfz33_5
          try clear hfz33_6
          try clear hfz33_7
          try clear hfz33_8
          try clear hfz33_9
          try clear hfz34_0
          try clear hfz34_1
          try clear hfz34_10
          try clear hfz34_11
          try clear hfz34_12
          try clear hfz34_13
          try clear hfz34_14
          try clear hfz34_2
          try clear hfz34_3
          try clear hfz34_4
          try clear hfz34_5
          try clear hfz34_6
          try clear hfz34_7
          try clear hfz34_8
          try clear hfz34_9
          try clear hfz36_0
          try clear hfz36_1
          try clear hfz36_10
          try clear hfz36_11
          try clear hfz36_12
          try clear hfz36_13
          try clear hfz36_14
          try clear hfz36_2
          try clear hfz36_3
          try clear hfz36_4
          try clear hfz36_5
          try clear hfz36_6
          try clear hfz36_7
          try clear hfz36_8
          try clear hfz36_9
          try clear hfz37_0
          try clear hfz37_1
          try clear hfz37_10
          try clear hfz37_11
          try clear hfz37_12
          try clear hfz37_13
          try clear hfz37_14
          try clear hfz37_2
          try clear hfz37_3
          try clear hfz37_4
          try clear hfz37_5
          try clear hfz37_6
          try clear hfz37_7
          try clear hfz37_8
          try clear hfz37_9
          try clear hfz39_0
          try clear hfz39_1
          try clear hfz39_10
          try clear hfz39_11
          try clear hfz39_12
          try clear hfz39_13
          try clear hfz39_14
          try clear hfz39_2
          try clear hfz39_3
          try clear hfz39_4
          try clear hfz39_5
          try clear hfz39_6
          try clear hfz39_7
          try clear hfz39_8
          try clear hfz39_9
          try clear hfz40_0
          try clear hfz40_1
          try clear hfz40_10
          try clear hfz40_11
          try clear hfz40_12
          try clear hfz40_13
          try clear hfz40_14
          try clear hfz40_2
          try clear hfz40_3
          try clear hfz40_4
          try clear hfz40_5
          try clear hfz40_6
          try clear hfz40_7
          try clear hfz40_8
          try clear hfz40_9
          try clear p2
          obtain ⟨x5_2, rfl, HA, HK2, BK271, BK272, HB⟩ := hrel
          cases gk with
          | zero => exact absurd HA.out (by simp [fourinhandref07_Same.l0])
          | succ k2 =>
            have H := HA.out
            clear HA
            simp only [fourinhandref07_Same.l0] at H
            by_cases c42 : x5_2 < (l0_13.length : Int)
            · rw [if_pos c42] at H
              have c42b0 : decide (x5_2 < (l0_13.length : Int)) = true := decide_eq_true c42
              clear c42
              by_cases c43 : 0 ≤ x5_2
              · rw [if_pos c43] at H
                have c43b0 : decide (0 ≤ x5_2) = true := decide_eq_true c43
                clear c43
                by_cases c44 : x5_2 < (l1_13.length : Int)
                · rw [if_pos c44] at H
                  have c44b0 : decide (x5_2 < (l1_13.length : Int)) = true := decide_eq_true c44
                  clear c44
                  by_cases c45 : (!(((rd_T58 l0_13 x5_2).f0) == ((rd_T58 l1_13 x5_2).f0)) || (!(((rd_T58 l0_13 x5_2).f1) == ((rd_T58 l1_13 x5_2).f1)))) = true
                  · rw [if_pos c45] at H
                    have c45b0 : (!(((rd_T58 l0_13 x5_2).f0) == ((rd_T58 l1_13 x5_2).f0)) || (!(((rd_T58 l0_13 x5_2).f1) == ((rd_T58 l1_13 x5_2).f1)))) = true := c45
                    clear c45
                    obtain rfl := Option.some.inj H
                    have hnb46 := NB271_272.out
                    have hnc46 := NB272_271.out
                    have hcz47_0 : wr.cell? ⟨gb271, 0, none⟩ = some (.int .i64 a0_0) := (blk_cell BK271.out 0).trans rfl
                    have hcz47_1 : wr.cell? ⟨gb271, 1, none⟩ = some (.int .i64 a0_1) := (blk_cell BK271.out 1).trans rfl
                    have hcz47_2 : wr.cell? ⟨gb271, 2, none⟩ = some (.bool a0_2) := (blk_cell BK271.out 2).trans rfl
                    have hcz47_3 : wr.cell? ⟨gb271, 3, none⟩ = some (.bool a0_3) := (blk_cell BK271.out 3).trans rfl
                    have hcz47_4 : wr.cell? ⟨gb271, 4, none⟩ = some (.int .u32 a0_4) := (blk_cell BK271.out 4).trans rfl
                    have hcz47_5 : wr.cell? ⟨gb271, 5, none⟩ = some (.int .u32 a0_5) := (blk_cell BK271.out 5).trans rfl
                    have hcz47_6 : wr.cell? ⟨gb271, 6, none⟩ = some (.int .u32 a0_6) := (blk_cell BK271.out 6).trans rfl
                    have hcz47_7 : wr.cell? ⟨gb271, 7, none⟩ = some (.int .u32 a0_7) := (blk_cell BK271.out 7).trans rfl
                    have hcz47_8 : wr.cell? ⟨gb271, 8, none⟩ = some (.int .i64 a0_8) := (blk_cell BK271.out 8).trans rfl
                    have hcz47_9 : wr.cell? ⟨gb271, 9, none⟩ = some (.int .i64 a0_9) := (blk_cell BK271.out 9).trans rfl
                    have hcz47_10 : wr.cell? ⟨gb271, 10, none⟩ = some (.int .u32 a0_10) := (blk_cell BK271.out 10).trans rfl
                    have hcz47_11 : wr.cell? ⟨gb271, 11, none⟩ = some (.int .u32 a0_11) := (blk_cell BK271.out 11).trans rfl
                    have hcz47_12 : wr.cell? ⟨gb271, 12, none⟩ = some (.int .u32 a0_12) := (blk_cell BK271.out 12).trans rfl
                    have hcz47_13 : wr.cell? ⟨gb271, 13, none⟩ = some (.slice A0_13 l0_13.length c0_13) := (blk_cell BK271.out 13).trans rfl
                    have hcz47_14 : wr.cell? ⟨gb271, 14, none⟩ = some (.slice A0_14 l0_14.length c0_14) := (blk_cell BK271.out 14).trans rfl
                    have hfz47_0 := blk_frozen BK271.out 0
                    have hfz47_1 := blk_frozen BK271.out 1
                    have hfz47_2 := blk_frozen BK271.out 2
                    have hfz47_3 := blk_frozen BK271.out 3
                    have hfz47_4 := blk_frozen BK271.out 4
                    have hfz47_5 := blk_frozen BK271.out 5
                    have hfz47_6 := blk_frozen BK271.out 6
                    have hfz47_7 := blk_frozen BK271.out 7
                    have hfz47_8 := blk_frozen BK271.out 8
                    have hfz47_9 := blk_frozen BK271.out 9
                    have hfz47_10 := blk_frozen BK271.out 10
                    have hfz47_11 := blk_frozen BK271.out 11
                    have hfz47_12 := blk_frozen BK271.out 12
                    have hfz47_13 := blk_frozen BK271.out 13
                    have hfz47_14 := blk_frozen BK271.out 14
                    have p273 : 0 ≤ (x5_2 : Int) := of_decide_eq_true (by first | (with_reducible assumption) | assumption)
                    have q273 : x5_2 < (l0_13.length : Int) := of_decide_eq_true (by first | (with_reducible assumption) | assumption)
                    obtain ⟨ad273, e273, hx273_0, hx273_1⟩ := at_T58 HR0_13.out x5_2 p273 q273
                    cases e273
                    replace hx273_0 := (HB.out.cell (World.block_lt_of_cell? w _ hx273_0)).trans hx273_0
                    replace hx273_1 := (HB.out.cell (World.block_lt_of_cell? w _ hx273_1)).trans hx273_1
                    replace p273 := eq_true p273
                    replace q273 := eq_true q273
                    have hcz48_0 : wr.cell? ⟨gb272, 0, none⟩ = some (.int .i64 a1_0) := (blk_cell BK272.out 0).trans rfl
                    have hcz48_1 : wr.cell? ⟨gb272, 1, none⟩ = some (.int .i64 a1_1) := (blk_cell BK272.out 1).trans rfl
                    have hcz48_2 : wr.cell? ⟨gb272, 2, none⟩ = some (.bool a1_2) := (blk_cell BK272.out 2).trans rfl
                    have hcz48_3 : wr.cell? ⟨gb272, 3, none⟩ = some (.bool a1_3) := (blk_cell BK272.out 3).trans rfl
                    have hcz48_4 : wr.cell? ⟨gb272, 4, none⟩ = some (.int .u32 a1_4) := (blk_cell BK272.out 4).trans rfl
                    have hcz48_5 : wr.cell? ⟨gb272, 5, none⟩ = some (.int .u32 a1_5) := (blk_cell BK272.out 5).trans rfl
                    have hcz48_6 : wr.cell? ⟨gb272, 6, none⟩ = some (.int .u32 a1_6) := (blk_cell BK272.out 6).trans rfl
                    have hcz48_7 : wr.cell? ⟨gb272, 7, none⟩ = some (.int .u32 a1_7) := (blk_cell BK272.out 7).trans rfl
                    have hcz48_8 : wr.cell? ⟨gb272, 8, none⟩ = some (.int .i64 a1_8) := (blk_cell BK272.out 8).trans rfl
                    have hcz48_9 : wr.cell? ⟨gb272, 9, none⟩ = some (.int .i64 a1_9) := (blk_cell BK272.out 9).trans rfl
                    have hcz48_10 : wr.cell? ⟨gb272, 10, none⟩ = some (.int .u32 a1_10) := (blk_cell BK272.out 10).trans rfl
                    have hcz48_11 : wr.cell? ⟨gb272, 11, none⟩ = some (.int .u32 a1_11) := (blk_cell BK272.out 11).trans rfl
                    have hcz48_12 : wr.cell? ⟨gb272, 12, none⟩ = some (.int .u32 a1_12) := (blk_cell BK272.out 12).trans rfl
                    have hcz48_13 : wr.cell? ⟨gb272, 13, none⟩ = some (.slice A1_13 l1_13.length c1_13) := (blk_cell BK272.out 13).trans rfl
                    have hcz48_14 : wr.cell? ⟨gb272, 14, none⟩ = some (.slice A1_14 l1_14.length c1_14) := (blk_cell BK272.out 14).trans rfl
                    have hfz48_0 := blk_frozen BK272.out 0
                    have hfz48_1 := blk_frozen BK272.out 1
                    have hfz48_2 := blk_frozen BK272.out 2
                    have hfz48_3 := blk_frozen BK272.out 3
                    have hfz48_4 := blk_frozen BK272.out 4
                    have hfz48_5 := blk_frozen BK272.out 5
                    have hfz48_6 := blk_frozen BK272.out 6
                    have hfz48_7 := blk_frozen BK272.out 7
                    have hfz48_8 := blk_frozen BK272.out 8
                    have hfz48_9 := blk_frozen BK272.out 9
                    have hfz48_10 := blk_frozen BK272.out 10
                    have hfz48_11 := blk_frozen BK272.out 11
                    have hfz48_12 := blk_frozen BK272.out 12
                    have hfz48_13 := blk_frozen BK272.out 13
                    have hfz48_14 := blk_frozen BK272.out 14
                    have p274 : 0 ≤ (x5_2 : Int) := of_decide_eq_true (by first | (with_reducible assumption) | assumption)
                    have q274 : x5_2 < (l1_13.length : Int) := of_decide_eq_true (by first | (with_reducible assumption) | assumption)
                    obtain ⟨ad274, e274, hx274_0, hx274_1⟩ := at_T58 HR1_13.out x5_2 p274 q274
                    cases e274
                    replace hx274_0 := (HB.out.cell (World.block_lt_of_cell? w _ hx274_0)).trans hx274_0
                    replace hx274_1 := (HB.out.cell (World.block_lt_of_cell? w _ hx274_1)).trans hx274_1
                    replace p274 := eq_true p274
                    replace q274 := eq_true q274
                    go_wp2
                    repeat (go_quiet (fail); try go_wp2)
                    go_ret
                    exact ⟨by first | rfl | (simp [errW_none, errW_some] <;> rfl) | (simp [*, errW_none, errW_some] <;> rfl), by repeat (first | (with_reducible first | exact HB.out | apply below_alloc | apply pw_below_drewN | apply below_drew1 | refine below_set ?_ GE271.out | refine below_set ?_ GE272.out) | exact HB.out)⟩
                  · rw [if_neg c45] at H
                    have c45b0 : (!(((rd_T58 l0_13 x5_2).f0) == ((rd_T58 l1_13 x5_2).f0)) || (!(((rd_T58 l0_13 x5_2).f1) == ((rd_T58 l1_13 x5_2).f1)))) = false := by simpa using c45
                    clear c45
                    have H' := Aside0.mk H
                    clear H
                    have hnb49 := NB271_272.out
                    have hnc49 := NB272_271.out
                    have hcz50_0 : wr.cell? ⟨gb271, 0, none⟩ = some (.int .i64 a0_0) := (blk_cell BK271.out 0).trans rfl
                    have hcz50_1 : wr.cell? ⟨gb271, 1, none⟩ = some (.int .i64 a0_1) := (blk_cell BK271.out 1).trans rfl
                    have hcz50_2 : wr.cell? ⟨gb271, 2, none⟩ = some (.bool a0_2) := (blk_cell BK271.out 2).trans rfl
                    have hcz50_3 : wr.cell? ⟨gb271, 3, none⟩ = some (.bool a0_3) := (blk_cell BK271.out 3).trans rfl
                    have hcz50_4 : wr.cell? ⟨gb271, 4, none⟩ = some (.int .u32 a0_4) := (blk_cell BK271.out 4).trans rfl
                    have hcz50_5 : wr.cell? ⟨gb271, 5, none⟩ = some (.int .u32 a0_5) := (blk_cell BK271.out 5).trans rfl
                    have hcz50_6 : wr.cell? ⟨gb271, 6, none⟩ = some (.int .u32 a0_6) := (blk_cell BK271.out 6).trans rfl
                    have hcz50_7 : wr.cell? ⟨gb271, 7, none⟩ = some (.int .u32 a0_7) := (blk_cell BK271.out 7).trans rfl
                    have hcz50_8 : wr.cell? ⟨gb271, 8, none⟩ = some (.int .i64 a0_8) := (blk_cell BK271.out 8).trans rfl
                    have hcz50_9 : wr.cell? ⟨gb271, 9, none⟩ = some (.int .i64 a0_9) := (blk_cell BK271.out 9).trans rfl
                    have hcz50_10 : wr.cell? ⟨gb271, 10, none⟩ = some (.int .u32 a0_10) := (blk_cell BK271.out 10).trans rfl
                    have hcz50_11 : wr.cell? ⟨gb271, 11, none⟩ = some (.int .u32 a0_11) := (blk_cell BK271.out 11).trans rfl
                    have hcz50_12 : wr.cell? ⟨gb271, 12, none⟩ = some (.int .u32 a0_12) := (blk_cell BK271.out 12).trans rfl
                    have hcz50_13 : wr.cell? ⟨gb271, 13, none⟩ = some (.slice A0_13 l0_13.length c0_13) := (blk_cell BK271.out 13).trans rfl
                    have hcz50_14 : wr.cell? ⟨gb271, 14, none⟩ = some (.slice A0_14 l0_14.length c0_14) := (blk_cell BK271.out 14).trans rfl
                    have hfz50_0 := blk_frozen BK271.out 0
                    have hfz50_1 := blk_frozen BK271.out 1
                    have hfz50_2 := blk_frozen BK271.out 2
                    have hfz50_3 := blk_frozen BK271.out 3
                    have hfz50_4 := blk_frozen BK271.out 4
                    have hfz50_5 := blk_frozen BK271.out 5
                    have hfz50_6 := blk_frozen BK271.out 6
                    have hfz50_7 := blk_frozen BK271.out 7
                    have hfz50_8 := blk_frozen BK271.out 8
                    have hfz50_9 := blk_frozen BK271.out 9
                    have hfz50_10 := blk_frozen BK271.out 10
                    have hfz50_11 := blk_frozen BK271.out 11
                    have hfz50_12 := blk_frozen BK271.out 12
                    have hfz50_13 := blk_frozen BK271.out 13
                    have hfz50_14 := blk_frozen BK271.out 14
                    have p273 : 0 ≤ (x5_2 : Int) := of_decide_eq_true (by first | (with_reducible assumption) | assumption)
                    have q273 : x5_2 < (l0_13.length : Int) := of_decide_eq_true (by first | (with_reducible assumption) | assumption)
                    obtain ⟨ad273, e273, hx273_0, hx273_1⟩ := at_T58 HR0_13.out x5_2 p273 q273
                    cases e273
                    replace hx273_0 := (HB.out.cell (World.block_lt_of_cell? w _ hx273_0)).trans hx273_0
                    replace hx273_1 := (HB.out.cell (World.block_lt_of_cell? w _ hx273_1)).trans hx273_1
                    replace p273 := eq_true p273
                    replace q273 := eq_true q273
                    have hcz51_0 : wr.cell? ⟨gb272, 0, none⟩ = some (.int .i64 a1_0) := (blk_cell BK272.out 0).trans rfl
                    have hcz51_1 : wr.cell? ⟨gb272, 1, none⟩ = some (.int .i64 a1_1) := (blk_cell BK272.out 1).trans rfl
                    have hcz51_2 : wr.cell? ⟨gb272, 2, none⟩ = some (.bool a1_2) := (blk_cell BK272.out 2).trans rfl
                    have hcz51_3 : wr.cell? ⟨gb272, 3, none⟩ = some (.bool a1_3) := (blk_cell BK272.out 3).trans rfl
                    have hcz51_4 : wr.cell? ⟨gb272, 4, none⟩ = some (.int .u32 a1_4) := (blk_cell BK272.out 4).trans rfl
                    have hcz51_5 : wr.cell? ⟨gb272, 5, none⟩ = some (.int .u32 a1_5) := (blk_cell BK272.out 5).trans rfl
                    have hcz51_6 : wr.cell? ⟨gb272, 6, none⟩ = some (.int .u32 a1_6) := (blk_cell BK272.out 6).trans rfl
                    have hcz51_7 : wr.cell? ⟨gb272, 7, none⟩ = some (.int .u32 a1_7) := (blk_cell BK272.out 7).trans rfl
                    have hcz51_8 : wr.cell? ⟨gb272, 8, none⟩ = some (.int .i64 a1_8) := (blk_cell BK272.out 8).trans rfl
                    have hcz51_9 : wr.cell? ⟨gb272, 9, none⟩ = some (.int .i64 a1_9) := (blk_cell BK272.out 9).trans rfl
                    have hcz51_10 : wr.cell? ⟨gb272, 10, none⟩ = some (.int .u32 a1_10) := (blk_cell BK272.out 10).trans rfl
                    have hcz51_11 : wr.cell? ⟨gb272, 11, none⟩ = some (.int .u32 a1_11) := (blk_cell BK272.out 11).trans rfl
                    have hcz51_12 : wr.cell? ⟨gb272, 12, none⟩ = some (.int .u32 a1_12) := (blk_cell BK272.out 12).trans rfl
                    have hcz51_13 : wr.cell? ⟨gb272, 13, none⟩ = some (.slice A1_13 l1_13.length c1_13) := (blk_cell BK272.out 13).trans rfl
                    have hcz51_14 : wr.cell? ⟨gb272, 14, none⟩ = some (.slice A1_14 l1_14.length c1_14) := (blk_cell BK272.out 14).trans rfl
                    have hfz51_0 := blk_frozen BK272.out 0
                    have hfz51_1 := blk_frozen BK272.out 1
                    have hfz51_2 := blk_frozen BK272.out 2
                    have hfz51_3 := blk_frozen BK272.out 3
                    have hfz51_4 := blk_frozen BK272.out 4
                    have hfz51_5 := blk_frozen BK272.out 5
                    have hfz51_6 := blk_frozen BK272.out 6
                    have hfz51_7 := blk_frozen BK272.out 7
                    have hfz51_8 := blk_frozen BK272.out 8
                    have hfz51_9 := blk_frozen BK272.out 9
                    have hfz51_10 := blk_frozen BK272.out 10
                    have hfz51_11 := blk_frozen BK272.out 11
                    have hfz51_12 := blk_frozen BK272.out 12
                    have hfz51_13 := blk_frozen BK272.out 13
                    have hfz51_14 := blk_frozen BK272.out 14
                    have p274 : 0 ≤ (x5_2 : Int) := of_decide_eq_true (by first | (with_reducible assumption) | assumption)
                    have q274 : x5_2 < (l1_13.length : Int) := of_decide_eq_true (by first | (with_reducible assumption) | assumption)
                    obtain ⟨ad274, e274, hx274_0, hx274_1⟩ := at_T58 HR1_13.out x5_2 p274 q274
                    cases e274
                    replace hx274_0 := (HB.out.cell (World.block_lt_of_cell? w _ hx274_0)).trans hx274_0
                    replace hx274_1 := (HB.out.cell (World.block_lt_of_cell? w _ hx274_1)).trans hx274_1
                    replace p274 := eq_true p274
                    replace q274 := eq_true q274
                    go_wp2
                    repeat (go_quiet (fail); try go_wp2)
                    go_roundg k2
                    case measure => have := HJ2.out; have := HK2.out; omega
                    case rel => exact ⟨(wrap64 (x5_2 + 1)), (by first | rfl | (simp; done) | (simp [*]; done)), H', ⟨by have := HJ2.out; have := HK2.out; omega⟩, ⟨by (with_reducible repeat (first | refine blk_drewN ?_ _ | refine blk_drew ?_ | refine blk_alloc ?_ _)); exact BK271.out⟩, ⟨by (with_reducible repeat (first | refine blk_drewN ?_ _ | refine blk_drew ?_ | refine blk_alloc ?_ _)); exact BK272.out⟩, ⟨by repeat (first | (with_reducible first | exact HB.out | apply below_alloc | apply pw_below_drewN | apply below_drew1 | refine below_set ?_ GE271.out | refine below_set ?_ GE272.out) | exact HB.out)⟩⟩
                · rw [if_neg c44] at H
                  exact absurd H (by simp)
              · rw [if_neg c43] at H
                exact absurd H (by simp)
            · rw [if_neg c42] at H
              have c42b0 : decide (x5_2 < (l0_13.length : Int)) = false := decide_eq_false c42
              clear c42
              replace H := Option.bind_eq_some_iff.mp H
              obtain ⟨t275, A520, H⟩ := H
              replace H : (if t275 = true then (if a0_8 = a1_8 then (if a0_9 = a1_9 then (if a0_10 = a1_10 then (if a0_11 = a1_11 then (some (a0_12 == a1_12)) else (some false)) else (some false)) else (some false)) else (some false)) else (some false)) = some r := H
              have A52 := Aside0.mk A520
              clear A520
              by_cases c53 : t275 = true
              · subst c53
                have H1 : (if a0_8 = a1_8 then (if a0_9 = a1_9 then (if a0_10 = a1_10 then (if a0_11 = a1_11 then (some (a0_12 == a1_12)) else (some false)) else (some false)) else (some false)) else (some false)) = some r := by rw [if_pos rfl] at H; exact H
                clear H
                have H := H1
                clear H1
                by_cases c54 : a0_8 = a1_8
                · rw [if_pos c54] at H
                  have c54b0 : (a0_8 == a1_8) = true := beq_iff_eq.mpr c54
                  have c54b1 : (a0_8 != a1_8) = false := bne_eq_false_iff_eq.mpr c54
                  clear c54
                  by_cases c55 : a0_9 = a1_9
                  · rw [if_pos c55] at H
                    have c55b0 : (a0_9 == a1_9) = true := beq_iff_eq.mpr c55
                    have c55b1 : (a0_9 != a1_9) = false := bne_eq_false_iff_eq.mpr c55
                    clear c55
                    by_cases c56 : a0_10 = a1_10
                    · rw [if_pos c56] at H
                      have c56b0 : (a0_10 == a1_10) = true := beq_iff_eq.mpr c56
                      have c56b1 : (a0_10 != a1_10) = false := bne_eq_false_iff_eq.mpr c56
                      clear c56
                      by_cases c57 : a0_11 = a1_11
                      · rw [if_pos c57] at H
                        have c57b0 : (a0_11 == a1_11) = true := beq_iff_eq.mpr c57
                        have c57b1 : (a0_11 != a1_11) = false := bne_eq_false_iff_eq.mpr c57
                        clear c57
                        obtain rfl := Option.some.inj H
                        have hnb58 := NB271_272.out
                        have hnc58 := NB272_271.out
                        have hcz59_0 : wr.cell? ⟨gb271, 0, none⟩ = some (.int .i64 a0_0) := (blk_cell BK271.out 0).trans rfl
                        have hcz59_1 : wr.cell? ⟨gb271, 1, none⟩ = some (.int .i64 a0_1) := (blk_cell BK271.out 1).trans rfl
                        have hcz59_2 : wr.cell? ⟨gb271, 2, none⟩ = some (.bool a0_2) := (blk_cell BK271.out 2).trans rfl
                        have hcz59_3 : wr.cell? ⟨gb271, 3, none⟩ = some (.bool a0_3) := (blk_cell BK271.out 3).trans rfl
                        have hcz59_4 : wr.cell? ⟨gb271, 4, none⟩ = some (.int .u32 a0_4) := (blk_cell BK271.out 4).trans rfl
                        have hcz59_5 : wr.cell? ⟨gb271, 5, none⟩ = some (.int .u32 a0_5) := (blk_cell BK271.out 5).trans rfl
                        have hcz59_6 : wr.cell? ⟨gb271, 6, none⟩ = some (.int .u32 a0_6) := (blk_cell BK271.out 6).trans rfl
                        have hcz59_7 : wr.cell? ⟨gb271, 7, none⟩ = some (.int .u32 a0_7) := (blk_cell BK271.out 7).trans rfl
                        have hcz59_8 : wr.cell? ⟨gb271, 8, none⟩ = some (.int .i64 a0_8) := (blk_cell BK271.out 8).trans rfl
                        have hcz59_9 : wr.cell? ⟨gb271, 9, none⟩ = some (.int .i64 a0_9) := (blk_cell BK271.out 9).trans rfl
                        have hcz59_10 : wr.cell? ⟨gb271, 10, none⟩ = some (.int .u32 a0_10) := (blk_cell BK271.out 10).trans rfl
                        have hcz59_11 : wr.cell? ⟨gb271, 11, none⟩ = some (.int .u32 a0_11) := (blk_cell BK271.out 11).trans rfl
                        have hcz59_12 : wr.cell? ⟨gb271, 12, none⟩ = some (.int .u32 a0_12) := (blk_cell BK271.out 12).trans rfl
                        have hcz59_13 : wr.cell? ⟨gb271, 13, none⟩ = some (.slice A0_13 l0_13.length c0_13) := (blk_cell BK271.out 13).trans rfl
                        have hcz59_14 : wr.cell? ⟨gb271, 14, none⟩ = some (.slice A0_14 l0_14.length c0_14) := (blk_cell BK271.out 14).trans rfl
                        have hfz59_0 := blk_frozen BK271.out 0
                        have hfz59_1 := blk_frozen BK271.out 1
                        have hfz59_2 := blk_frozen BK271.out 2
                        have hfz59_3 := blk_frozen BK271.out 3
                        have hfz59_4 := blk_frozen BK271.out 4
                        have hfz59_5 := blk_frozen BK271.out 5
                        have hfz59_6 := blk_frozen BK271.out 6
                        have hfz59_7 := blk_frozen BK271.out 7
                        have hfz59_8 := blk_frozen BK271.out 8
                        have hfz59_9 := blk_frozen BK271.out 9
                        have hfz59_10 := blk_frozen BK271.out 10
                        have hfz59_11 := blk_frozen BK271.out 11
                        have hfz59_12 := blk_frozen BK271.out 12
                        have hfz59_13 := blk_frozen BK271.out 13
                        have hfz59_14 := blk_frozen BK271.out 14
                        have hcz60_0 : wr.cell? ⟨gb272, 0, none⟩ = some (.int .i64 a1_0) := (blk_cell BK272.out 0).trans rfl
                        have hcz60_1 : wr.cell? ⟨gb272, 1, none⟩ = some (.int .i64 a1_1) := (blk_cell BK272.out 1).trans rfl
                        have hcz60_2 : wr.cell? ⟨gb272, 2, none⟩ = some (.bool a1_2) := (blk_cell BK272.out 2).trans rfl
                        have hcz60_3 : wr.cell? ⟨gb272, 3, none⟩ = some (.bool a1_3) := (blk_cell BK272.out 3).trans rfl
                        have hcz60_4 : wr.cell? ⟨gb272, 4, none⟩ = some (.int .u32 a1_4) := (blk_cell BK272.out 4).trans rfl
                        have hcz60_5 : wr.cell? ⟨gb272, 5, none⟩ = some (.int .u32 a1_5) := (blk_cell BK272.out 5).trans rfl
                        have hcz60_6 : wr.cell? ⟨gb272, 6, none⟩ = some (.int .u32 a1_6) := (blk_cell BK272.out 6).trans rfl
                        have hcz60_7 : wr.cell? ⟨gb272, 7, none⟩ = some (.int .u32 a1_7) := (blk_cell BK272.out 7).trans rfl
                        have hcz60_8 : wr.cell? ⟨gb272, 8, none⟩ = some (.int .i64 a1_8) := (blk_cell BK272.out 8).trans rfl
                        have hcz60_9 : wr.cell? ⟨gb272, 9, none⟩ = some (.int .i64 a1_9) := (blk_cell BK272.out 9).trans rfl
                        have hcz60_10 : wr.cell? ⟨gb272, 10, none⟩ = some (.int .u32 a1_10) := (blk_cell BK272.out 10).trans rfl
                        have hcz60_11 : wr.cell? ⟨gb272, 11, none⟩ = some (.int .u32 a1_11) := (blk_cell BK272.out 11).trans rfl
                        have hcz60_12 : wr.cell? ⟨gb272, 12, none⟩ = some (.int .u32 a1_12) := (blk_cell BK272.out 12).trans rfl
                        have hcz60_13 : wr.cell? ⟨gb272, 13, none⟩ = some (.slice A1_13 l1_13.length c1_13) := (blk_cell BK272.out 13).trans rfl
                        have hcz60_14 : wr.cell? ⟨gb272, 14, none⟩ = some (.slice A1_14 l1_14.length c1_14) := (blk_cell BK272.out 14).trans rfl
                        have hfz60_0 := blk_frozen BK272.out 0
                        have hfz60_1 := blk_frozen BK272.out 1
                        have hfz60_2 := blk_frozen BK272.out 2
                        have hfz60_3 := blk_frozen BK272.out 3
                        have hfz60_4 := blk_frozen BK272.out 4
                        have hfz60_5 := blk_frozen BK272.out 5
                        have hfz60_6 := blk_frozen BK272.out 6
                        have hfz60_7 := blk_frozen BK272.out 7
                        have hfz60_8 := blk_frozen BK272.out 8
                        have hfz60_9 := blk_frozen BK272.out 9
                        have hfz60_10 := blk_frozen BK272.out 10
                        have hfz60_11 := blk_frozen BK272.out 11
                        have hfz60_12 := blk_frozen BK272.out 12
                        have hfz60_13 := blk_frozen BK272.out 13
                        have hfz60_14 := blk_frozen BK272.out 14
                        go_wp2_with (first | (go_at_call 18; (with_reducible refine (fourinhandref03_Same.calls k2 _ _ l0_14 _ _ l1_14 true _ ?side1 ?side2 ?side3 ?side4 A52.out).mono ?_); (case side1 => repeat (first | exact (Kd.C_below HR0_14.out HB.out) | (with_reducible refine Kd.C_alloc ?_ _) | (with_reducible refine Kd.C_drewN ?_ _) | (with_reducible refine Kd.C_drew ?_))); (case side2 => exact HC0_14.out); (case side3 => repeat (first | exact (Kd.C_below HR1_14.out HB.out) | (with_reducible refine Kd.C_alloc ?_ _) | (with_reducible refine Kd.C_drewN ?_ _) | (with_reducible refine Kd.C_drew ?_))); (case side4 => exact HC1_14.out); rintro e w' ⟨rfl, ⟨nd, rfl⟩⟩; (try first | exact ⟨rfl, _, World.drewN_drewN _ _ _⟩ | exact ⟨rfl, _, Eq.trans (World.drewN_drewN _ _ _) (congrArg (World.drewN _) (Nat.add_assoc _ _ _))⟩)))
                        repeat (go_quiet (first | (go_at_call 18; (with_reducible refine (fourinhandref03_Same.calls k2 _ _ l0_14 _ _ l1_14 true _ ?side1 ?side2 ?side3 ?side4 A52.out).mono ?_); (case side1 => repeat (first | exact (Kd.C_below HR0_14.out HB.out) | (with_reducible refine Kd.C_alloc ?_ _) | (with_reducible refine Kd.C_drewN ?_ _) | (with_reducible refine Kd.C_drew ?_))); (case side2 => exact HC0_14.out); (case side3 => repeat (first | exact (Kd.C_below HR1_14.out HB.out) | (with_reducible refine Kd.C_alloc ?_ _) | (with_reducible refine Kd.C_drewN ?_ _) | (with_reducible refine Kd.C_drew ?_))); (case side4 => exact HC1_14.out); rintro e w' ⟨rfl, ⟨nd, rfl⟩⟩; (try first | exact ⟨rfl, _, World.drewN_drewN _ _ _⟩ | exact ⟨rfl, _, Eq.trans (World.drewN_drewN _ _ _) (congrArg (World.drewN _) (Nat.add_assoc _ _ _))⟩))); try go_wp2_with (first | (go_at_call 18; (with_reducible refine (fourinhandref03_Same.calls k2 _ _ l0_14 _ _ l1_14 true _ ?side1 ?side2 ?side3 ?side4 A52.out).mono ?_); (case side1 => repeat (first | exact (Kd.C_below HR0_14.out HB.out) | (with_reducible refine Kd.C_alloc ?_ _) | (with_reducible refine Kd.C_drewN ?_ _) | (with_reducible refine Kd.C_drew ?_))); (case side2 => exact HC0_14.out); (case side3 => repeat (first | exact (Kd.C_below HR1_14.out HB.out) | (with_reducible refine Kd.C_alloc ?_ _) | (with_reducible refine Kd.C_drewN ?_ _) | (with_reducible refine Kd.C_drew ?_))); (case side4 => exact HC1_14.out); rintro e w' ⟨rfl, ⟨nd, rfl⟩⟩; (try first | exact ⟨rfl, _, World.drewN_drewN _ _ _⟩ | exact ⟨rfl, _, Eq.trans (World.drewN_drewN _ _ _) (congrArg (World.drewN _) (Nat.add_assoc _ _ _))⟩))))
                        go_ret
                        exact ⟨by first | rfl | (simp [errW_none, errW_some] <;> rfl) | (simp [*, errW_none, errW_some] <;> rfl), by repeat (first | (with_reducible first | exact HB.out | apply below_alloc | apply pw_below_drewN | apply below_drew1 | refine below_set ?_ GE271.out | refine below_set ?_ GE272.out) | exact HB.out)⟩
                      · rw [if_neg c57] at H
                        have c57b0 : (a0_11 == a1_11) = false := beq_eq_false_iff_ne.mpr c57
                        have c57b1 : (a0_11 != a1_11) = true := bne_iff_ne.mpr c57
                        obtain rfl := Option.some.inj H
                        have hnb61 := NB271_272.out
                        have hnc61 := NB272_271.out
                        have hcz62_0 : wr.cell? ⟨gb271, 0, none⟩ = some (.int .i64 a0_0) := (blk_cell BK271.out 0).trans rfl
                        have hcz62_1 : wr.cell? ⟨gb271, 1, none⟩ = some (.int .i64 a0_1) := (blk_cell BK271.out 1).trans rfl
                        have hcz62_2 : wr.cell? ⟨gb271, 2, none⟩ = some (.bool a0_2) := (blk_cell BK271.out 2).trans rfl
                        have hcz62_3 : wr.cell? ⟨gb271, 3, none⟩ = some (.bool a0_3) := (blk_cell BK271.out 3).trans rfl
                        have hcz62_4 : wr.cell? ⟨gb271, 4, none⟩ = some (.int .u32 a0_4) := (blk_cell BK271.out 4).trans rfl
                        have hcz62_5 : wr.cell? ⟨gb271, 5, none⟩ = some (.int .u32 a0_5) := (blk_cell BK271.out 5).trans rfl
                        have hcz62_6 : wr.cell? ⟨gb271, 6, none⟩ = some (.int .u32 a0_6) := (blk_cell BK271.out 6).trans rfl
                        have hcz62_7 : wr.cell? ⟨gb271, 7, none⟩ = some (.int .u32 a0_7) := (blk_cell BK271.out 7).trans rfl
                        have hcz62_8 : wr.cell? ⟨gb271, 8, none⟩ = some (.int .i64 a0_8) := (blk_cell BK271.out 8).trans rfl
                        have hcz62_9 : wr.cell? ⟨gb271, 9, none⟩ = some (.int .i64 a0_9) := (blk_cell BK271.out 9).trans rfl
                        have hcz62_10 : wr.cell? ⟨gb271, 10, none⟩ = some (.int .u32 a0_10) := (blk_cell BK271.out 10).trans rfl
                        have hcz62_11 : wr.cell? ⟨gb271, 11, none⟩ = some (.int .u32 a0_11) := (blk_cell BK271.out 11).trans rfl
                        have hcz62_12 : wr.cell? ⟨gb271, 12, none⟩ = some (.int .u32 a0_12) := (blk_cell BK271.out 12).trans rfl
                        have hcz62_13 : wr.cell? ⟨gb271, 13, none⟩ = some (.slice A0_13 l0_13.length c0_13) := (blk_cell BK271.out 13).trans rfl
                        have hcz62_14 : wr.cell? ⟨gb271, 14, none⟩ = some (.slice A0_14 l0_14.length c0_14) := (blk_cell BK271.out 14).trans rfl
                        have hfz62_0 := blk_frozen BK271.out 0
                        have hfz62_1 := blk_frozen BK271.out 1
                        have hfz62_2 := blk_frozen BK271.out 2
                        have hfz62_3 := blk_frozen BK271.out 3
                        have hfz62_4 := blk_frozen BK271.out 4
                        have hfz62_5 := blk_frozen BK271.out 5
                        have hfz62_6 := blk_frozen BK271.out 6
                        have hfz62_7 := blk_frozen BK271.out 7
                        have hfz62_8 := blk_frozen BK271.out 8
                        have hfz62_9 := blk_frozen BK271.out 9
                        have hfz62_10 := blk_frozen BK271.out 10
                        have hfz62_11 := blk_frozen BK271.out 11
                        have hfz62_12 := blk_frozen BK271.out 12
                        have hfz62_13 := blk_frozen BK271.out 13
                        have hfz62_14 := blk_frozen BK271.out 14
                        have hcz63_0 : wr.cell? ⟨gb272, 0, none⟩ = some (.int .i64 a1_0) := (blk_cell BK272.out 0).trans rfl
                        have hcz63_1 : wr.cell? ⟨gb272, 1, none⟩ = some (.int .i64 a1_1) := (blk_cell BK272.out 1).trans rfl
                        have hcz63_2 : wr.cell? ⟨gb272, 2, none⟩ = some (.bool a1_2) := (blk_cell BK272.out 2).trans rfl
                        have hcz63_3 : wr.cell? ⟨gb272, 3, none⟩ = some (.bool a1_3) := (blk_cell BK272.out 3).trans rfl
                        have hcz63_4 : wr.cell? ⟨gb272, 4, none⟩ = some (.int .u32 a1_4) := (blk_cell BK272.out 4).trans rfl
                        have hcz63_5 : wr.cell? ⟨gb272, 5, none⟩ = some (.int .u32 a1_5) := (blk_cell BK272.out 5).trans rfl
                        have hcz63_6 : wr.cell? ⟨gb272, 6, none⟩ = some (.int .u32 a1_6) := (blk_cell BK272.out 6).trans rfl
                        have hcz63_7 : wr.cell? ⟨gb272, 7, none⟩ = some (.int .u32 a1_7) := (blk_cell BK272.out 7).trans rfl
                        have hcz63_8 : wr.cell? ⟨gb272, 8, none⟩ = some (.int .i64 a1_8) := (blk_cell BK272.out 8).trans rfl
                        have hcz63_9 : wr.cell? ⟨gb272, 9, none⟩ = some (.int .i64 a1_9) := (blk_cell BK272.out 9).trans rfl
                        have hcz63_10 : wr.cell? ⟨gb272, 10, none⟩ = some (.int .u32 a1_10) := (blk_cell BK272.out 10).trans rfl
                        have hcz63_11 : wr.cell? ⟨gb272, 11, none⟩ = some (.int .u32 a1_11) := (blk_cell BK272.out 11).trans rfl
                        have hcz63_12 : wr.cell? ⟨gb272, 12, none⟩ = some (.int .u32 a1_12) := (blk_cell BK272.out 12).trans rfl
                        have hcz63_13 : wr.cell? ⟨gb272, 13, none⟩ = some (.slice A1_13 l1_13.length c1_13) := (blk_cell BK272.out 13).trans rfl
                        have hcz63_14 : wr.cell? ⟨gb272, 14, none⟩ = some (.slice A1_14 l1_14.length c1_14) := (blk_cell BK272.out 14).trans rfl
                        have hfz63_0 := blk_frozen BK272.out 0
                        have hfz63_1 := blk_frozen BK272.out 1
                        have hfz63_2 := blk_frozen BK272.out 2
                        have hfz63_3 := blk_frozen BK272.out 3
                        have hfz63_4 := blk_frozen BK272.out 4
                        have hfz63_5 := blk_frozen BK272.out 5
                        have hfz63_6 := blk_frozen BK272.out 6
                        have hfz63_7 := blk_frozen BK272.out 7
                        have hfz63_8 := blk_frozen BK272.out 8
                        have hfz63_9 := blk_frozen BK272.out 9
                        have hfz63_10 := blk_frozen BK272.out 10
                        have hfz63_11 := blk_frozen BK272.out 11
                        have hfz63_12 := blk_frozen BK272.out 12
                        have hfz63_13 := blk_frozen BK272.out 13
                        have hfz63_14 := blk_frozen BK272.out 14
                        go_wp2_with (first | (go_at_call 18; (with_reducible refine (fourinhandref03_Same.calls k2 _ _ l0_14 _ _ l1_14 true _ ?side1 ?side2 ?side3 ?side4 A52.out).mono ?_); (case side1 => repeat (first | exact (Kd.C_below HR0_14.out HB.out) | (with_reducible refine Kd.C_alloc ?_ _) | (with_reducible refine Kd.C_drewN ?_ _) | (with_reducible refine Kd.C_drew ?_))); (case side2 => exact HC0_14.out); (case side3 => repeat (first | exact (Kd.C_below HR1_14.out HB.out) | (with_reducible refine Kd.C_alloc ?_ _) | (with_reducible refine Kd.C_drewN ?_ _) | (with_reducible refine Kd.C_drew ?_))); (case side4 => exact HC1_14.out); rintro e w' ⟨rfl, ⟨nd, rfl⟩⟩; (try first | exact ⟨rfl, _, World.drewN_drewN _ _ _⟩ | exact ⟨rfl, _, Eq.trans (World.drewN_drewN _ _ _) (congrArg (World.drewN _) (Nat.add_assoc _ _ _))⟩)))
                        repeat (go_quiet (first | (go_at_call 18; (with_reducible refine (fourinhandref03_Same.calls k2 _ _ l0_14 _ _ l1_14 true _ ?side1 ?side2 ?side3 ?side4 A52.out).mono ?_); (case side1 => repeat (first | exact (Kd.C_below HR0_14.out HB.out) | (with_reducible refine Kd.C_alloc ?_ _) | (with_reducible refine Kd.C_drewN ?_ _) | (with_reducible refine Kd.C_drew ?_))); (case side2 => exact HC0_14.out); (case side3 => repeat (first | exact (Kd.C_below HR1_14.out HB.out) | (with_reducible refine Kd.C_alloc ?_ _) | (with_reducible refine Kd.C_drewN ?_ _) | (with_reducible refine Kd.C_drew ?_))); (case side4 => exact HC1_14.out); rintro e w' ⟨rfl, ⟨nd, rfl⟩⟩; (try first | exact ⟨rfl, _, World.drewN_drewN _ _ _⟩ | exact ⟨rfl, _, Eq.trans (World.drewN_drewN _ _ _) (congrArg (World.drewN _) (Nat.add_assoc _ _ _))⟩))); try go_wp2_with (first | (go_at_call 18; (with_reducible refine (fourinhandref03_Same.calls k2 _ _ l0_14 _ _ l1_14 true _ ?side1 ?side2 ?side3 ?side4 A52.out).mono ?_); (case side1 => repeat (first | exact (Kd.C_below HR0_14.out HB.out) | (with_reducible refine Kd.C_alloc ?_ _) | (with_reducible refine Kd.C_drewN ?_ _) | (with_reducible refine Kd.C_drew ?_))); (case side2 => exact HC0_14.out); (case side3 => repeat (first | exact (Kd.C_below HR1_14.out HB.out) | (with_reducible refine Kd.C_alloc ?_ _) | (with_reducible refine Kd.C_drewN ?_ _) | (with_reducible refine Kd.C_drew ?_))); (case side4 => exact HC1_14.out); rintro e w' ⟨rfl, ⟨nd, rfl⟩⟩; (try first | exact ⟨rfl, _, World.drewN_drewN _ _ _⟩ | exact ⟨rfl, _, Eq.trans (World.drewN_drewN _ _ _) (congrArg (World.drewN _) (Nat.add_assoc _ _ _))⟩))))
                        go_ret
                        exact ⟨by first | rfl | (simp [errW_none, errW_some] <;> rfl) | (simp [*, errW_none, errW_some] <;> rfl), by repeat (first | (with_reducible first | exact HB.out | apply below_alloc | apply pw_below_drewN | apply below_drew1 | refine below_set ?_ GE271.out | refine below_set ?_ GE272.out) | exact HB.out)⟩
                    · rw [if_neg c56] at H
                      have c56b0 : (a0_10 == a1_10) = false := beq_eq_false_iff_ne.mpr c56
                      have c56b1 : (a0_10 != a1_10) = true := bne_iff_ne.mpr c56
                      obtain rfl := Option.some.inj H
                      have hnb64 := NB271_272.out
                      have hnc64 := NB272_271.out
                      have hcz65_0 : wr.cell? ⟨gb271, 0, none⟩ = some (.int .i64 a0_0) := (blk_cell BK271.out 0).trans rfl
                      have hcz65_1 : wr.cell? ⟨gb271, 1, none⟩ = some (.int .i64 a0_1) := (blk_cell BK271.out 1).trans rfl
                      have hcz65_2 : wr.cell? ⟨gb271, 2, none⟩ = some (.bool a0_2) := (blk_cell BK271.out 2).trans rfl
                      have hcz65_3 : wr.cell? ⟨gb271, 3, none⟩ = some (.bool a0_3) := (blk_cell BK271.out 3).trans rfl
                      have hcz65_4 : wr.cell? ⟨gb271, 4, none⟩ = some (.int .u32 a0_4) := (blk_cell BK271.out 4).trans rfl
                      have hcz65_5 : wr.cell? ⟨gb271, 5, none⟩ = some (.int .u32 a0_5) := (blk_cell BK271.out 5).trans rfl
                      have hcz65_6 : wr.cell? ⟨gb271, 6, none⟩ = some (.int .u32 a0_6) := (blk_cell BK271.out 6).trans rfl
                      have hcz65_7 : wr.cell? ⟨gb271, 7, none⟩ = some (.int .u32 a0_7) := (blk_cell BK271.out 7).trans rfl
                      have hcz65_8 : wr.cell? ⟨gb271, 8, none⟩ = some (.int .i64 a0_8) := (blk_cell BK271.out 8).trans rfl
                      have hcz65_9 : wr.cell? ⟨gb271, 9, none⟩ = some (.int .i64 a0_9) := (blk_cell BK271.out 9).trans rfl
                      have hcz65_10 : wr.cell? ⟨gb271, 10, none⟩ = some (.int .u32 a0_10) := (blk_cell BK271.out 10).trans rfl
                      have hcz65_11 : wr.cell? ⟨gb271, 11, none⟩ = some (.int .u32 a0_11) := (blk_cell BK271.out 11).trans rfl
                      have hcz65_12 : wr.cell? ⟨gb271, 12, none⟩ = some (.int .u32 a0_12) := (blk_cell BK271.out 12).trans rfl
                      have hcz65_13 : wr.cell? ⟨gb271, 13, none⟩ = some (.slice A0_13 l0_13.length c0_13) := (blk_cell BK271.out 13).trans rfl
                      have hcz65_14 : wr.cell? ⟨gb271, 14, none⟩ = some (.slice A0_14 l0_14.length c0_14) := (blk_cell BK271.out 14).trans rfl
                      have hfz65_0 := blk_frozen BK271.out 0
                      have hfz65_1 := blk_frozen BK271.out 1
                      have hfz65_2 := blk_frozen BK271.out 2
                      have hfz65_3 := blk_frozen BK271.out 3
                      have hfz65_4 := blk_frozen BK271.out 4
                      have hfz65_5 := blk_frozen BK271.out 5
                      have hfz65_6 := blk_frozen BK271.out 6
                      have hfz65_7 := blk_frozen BK271.out 7
                      have hfz65_8 := blk_frozen BK271.out 8
                      have hfz65_9 := blk_frozen BK271.out 9
                      have hfz65_10 := blk_frozen BK271.out 10
                      have hfz65_11 := blk_frozen BK271.out 11
                      have hfz65_12 := blk_frozen BK271.out 12
                      have hfz65_13 := blk_frozen BK271.out 13
                      have hfz65_14 := blk_frozen BK271.out 14
                      have hcz66_0 : wr.cell? ⟨gb272, 0, none⟩ = some (.int .i64 a1_0) := (blk_cell BK272.out 0).trans rfl
                      have hcz66_1 : wr.cell? ⟨gb272, 1, none⟩ = some (.int .i64 a1_1) := (blk_cell BK272.out 1).trans rfl
                      have hcz66_2 : wr.cell? ⟨gb272, 2, none⟩ = some (.bool a1_2) := (blk_cell BK272.out 2).trans rfl
                      have hcz66_3 : wr.cell? ⟨gb272, 3, none⟩ = some (.bool a1_3) := (blk_cell BK272.out 3).trans rfl
                      have hcz66_4 : wr.cell? ⟨gb272, 4, none⟩ = some (.int .u32 a1_4) := (blk_cell BK272.out 4).trans rfl
                      have hcz66_5 : wr.cell? ⟨gb272, 5, none⟩ = some (.int .u32 a1_5) := (blk_cell BK272.out 5).trans rfl
                      have hcz66_6 : wr.cell? ⟨gb272, 6, none⟩ = some (.int .u32 a1_6) := (blk_cell BK272.out 6).trans rfl
                      have hcz66_7 : wr.cell? ⟨gb272, 7, none⟩ = some (.int .u32 a1_7) := (blk_cell BK272.out 7).trans rfl
                      have hcz66_8 : wr.cell? ⟨gb272, 8, none⟩ = some (.int .i64 a1_8) := (blk_cell BK272.out 8).trans rfl
                      have hcz66_9 : wr.cell? ⟨gb272, 9, none⟩ = some (.int .i64 a1_9) := (blk_cell BK272.out 9).trans rfl
                      have hcz66_10 : wr.cell? ⟨gb272, 10, none⟩ = some (.int .u32 a1_10) := (blk_cell BK272.out 10).trans rfl
                      have hcz66_11 : wr.cell? ⟨gb272, 11, none⟩ = some (.int .u32 a1_11) := (blk_cell BK272.out 11).trans rfl
                      have hcz66_12 : wr.cell? ⟨gb272, 12, none⟩ = some (.int .u32 a1_12) := (blk_cell BK272.out 12).trans rfl
                      have hcz66_13 : wr.cell? ⟨gb272, 13, none⟩ = some (.slice A1_13 l1_13.length c1_13) := (blk_cell BK272.out 13).trans rfl
                      have hcz66_14 : wr.cell? ⟨gb272, 14, none⟩ = some (.slice A1_14 l1_14.length c1_14) := (blk_cell BK272.out 14).trans rfl
                      have hfz66_0 := blk_frozen BK272.out 0
                      have hfz66_1 := blk_frozen BK272.out 1
                      have hfz66_2 := blk_frozen BK272.out 2
                      have hfz66_3 := blk_frozen BK272.out 3
                      have hfz66_4 := blk_frozen BK272.out 4
                      have hfz66_5 := blk_frozen BK272.out 5
                      have hfz66_6 := blk_frozen BK272.out 6
                      have hfz66_7 := blk_frozen BK272.out 7
                      have hfz66_8 := blk_frozen BK272.out 8
                      have hfz66_9 := blk_frozen BK272.out 9
                      have hfz66_10 := blk_frozen BK272.out 10
                      have hfz66_11 := blk_frozen BK272.out 11
                      have hfz66_12 := blk_frozen BK272.out 12
                      have hfz66_13 := blk_frozen BK272.out 13
                      have hfz66_14 := blk_frozen BK272.out 14
                      go_wp2_with (first | (go_at_call 18; (with_reducible refine (fourinhandref03_Same.calls k2 _ _ l0_14 _ _ l1_14 true _ ?side1 ?side2 ?side3 ?side4 A52.out).mono ?_); (case side1 => repeat (first | exact (Kd.C_below HR0_14.out HB.out) | (with_reducible refine Kd.C_alloc ?_ _) | (with_reducible refine Kd.C_drewN ?_ _) | (with_reducible refine Kd.C_drew ?_))); (case side2 => exact HC0_14.out); (case side3 => repeat (first | exact (Kd.C_below HR1_14.out HB.out) | (with_reducible refine Kd.C_alloc ?_ _) | (with_reducible refine Kd.C_drewN ?_ _) | (with_reducible refine Kd.C_drew ?_))); (case side4 => exact HC1_14.out); rintro e w' ⟨rfl, ⟨nd, rfl⟩⟩; (try first | exact ⟨rfl, _, World.drewN_drewN _ _ _⟩ | exact ⟨rfl, _, Eq.trans (World.drewN_drewN _ _ _) (congrArg (World.drewN _) (Nat.add_assoc _ _ _))⟩)))
                      repeat (go_quiet (first | (go_at_call 18; (with_reducible refine (fourinhandref03_Same.calls k2 _ _ l0_14 _ _ l1_14 true _ ?side1 ?side2 ?side3 ?side4 A52.out).mono ?_); (case side1 => repeat (first | exact (Kd.C_below HR0_14.out HB.out) | (with_reducible refine Kd.C_alloc ?_ _) | (with_reducible refine Kd.C_drewN ?_ _) | (with_reducible refine Kd.C_drew ?_))); (case side2 => exact HC0_14.out); (case side3 => repeat (first | exact (Kd.C_below HR1_14.out HB.out) | (with_reducible refine Kd.C_alloc ?_ _) | (with_reducible refine Kd.C_drewN ?_ _) | (with_reducible refine Kd.C_drew ?_))); (case side4 => exact HC1_14.out); rintro e w' ⟨rfl, ⟨nd, rfl⟩⟩; (try first | exact ⟨rfl, _, World.drewN_drewN _ _ _⟩ | exact ⟨rfl, _, Eq.trans (World.drewN_drewN _ _ _) (congrArg (World.drewN _) (Nat.add_assoc _ _ _))⟩))); try go_wp2_with (first | (go_at_call 18; (with_reducible refine (fourinhandref03_Same.calls k2 _ _ l0_14 _ _ l1_14 true _ ?side1 ?side2 ?side3 ?side4 A52.out).mono ?_); (case side1 => repeat (first | exact (Kd.C_below HR0_14.out HB.out) | (with_reducible refine Kd.C_alloc ?_ _) | (with_reducible refine Kd.C_drewN ?_ _) | (with_reducible refine Kd.C_drew ?_))); (case side2 => exact HC0_14.out); (case side3 => repeat (first | exact (Kd.C_below HR1_14.out HB.out) | (with_reducible refine Kd.C_alloc ?_ _) | (with_reducible refine Kd.C_drewN ?_ _) | (with_reducible refine Kd.C_drew ?_))); (case side4 => exact HC1_14.out); rintro e w' ⟨rfl, ⟨nd, rfl⟩⟩; (try first | exact ⟨rfl, _, World.drewN_drewN _ _ _⟩ | exact ⟨rfl, _, Eq.trans (World.drewN_drewN _ _ _) (congrArg (World.drewN _) (Nat.add_assoc _ _ _))⟩))))
                      go_ret
                      exact ⟨by first | rfl | (simp [errW_none, errW_some] <;> rfl) | (simp [*, errW_none, errW_some] <;> rfl), by repeat (first | (with_reducible first | exact HB.out | apply below_alloc | apply pw_below_drewN | apply below_drew1 | refine below_set ?_ GE271.out | refine below_set ?_ GE272.out) | exact HB.out)⟩
                  · rw [if_neg c55] at H
                    have c55b0 : (a0_9 == a1_9) = false := beq_eq_false_iff_ne.mpr c55
                    have c55b1 : (a0_9 != a1_9) = true := bne_iff_ne.mpr c55
                    obtain rfl := Option.some.inj H
                    have hnb67 := NB271_272.out
                    have hnc67 := NB272_271.out
                    have hcz68_0 : wr.cell? ⟨gb271, 0, none⟩ = some (.int .i64 a0_0) := (blk_cell BK271.out 0).trans rfl
                    have hcz68_1 : wr.cell? ⟨gb271, 1, none⟩ = some (.int .i64 a0_1) := (blk_cell BK271.out 1).trans rfl
                    have hcz68_2 : wr.cell? ⟨gb271, 2, none⟩ = some (.bool a0_2) := (blk_cell BK271.out 2).trans rfl
                    have hcz68_3 : wr.cell? ⟨gb271, 3, none⟩ = some (.bool a0_3) := (blk_cell BK271.out 3).trans rfl
                    have hcz68_4 : wr.cell? ⟨gb271, 4, none⟩ = some (.int .u32 a0_4) := (blk_cell BK271.out 4).trans rfl
                    have hcz68_5 : wr.cell? ⟨gb271, 5, none⟩ = some (.int .u32 a0_5) := (blk_cell BK271.out 5).trans rfl
                    have hcz68_6 : wr.cell? ⟨gb271, 6, none⟩ = some (.int .u32 a0_6) := (blk_cell BK271.out 6).trans rfl
                    have hcz68_7 : wr.cell? ⟨gb271, 7, none⟩ = some (.int .u32 a0_7) := (blk_cell BK271.out 7).trans rfl
                    have hcz68_8 : wr.cell? ⟨gb271, 8, none⟩ = some (.int .i64 a0_8) := (blk_cell BK271.out 8).trans rfl
                    have hcz68_9 : wr.cell? ⟨gb271, 9, none⟩ = some (.int .i64 a0_9) := (blk_cell BK271.out 9).trans rfl
                    have hcz68_10 : wr.cell? ⟨gb271, 10, none⟩ = some (.int .u32 a0_10) := (blk_cell BK271.out 10).trans rfl
                    have hcz68_11 : wr.cell? ⟨gb271, 11, none⟩ = some (.int .u32 a0_11) := (blk_cell BK271.out 11).trans rfl
                    have hcz68_12 : wr.cell? ⟨gb271, 12, none⟩ = some (.int .u32 a0_12) := (blk_cell BK271.out 12).trans rfl
                    have hcz68_13 : wr.cell? ⟨gb271, 13, none⟩ = some (.slice A0_13 l0_13.length c0_13) := (blk_cell BK271.out 13).trans rfl
                    have hcz68_14 : wr.cell? ⟨gb271, 14, none⟩ = some (.slice A0_14 l0_14.length c0_14) := (blk_cell BK271.out 14).trans rfl
                    have hfz68_0 := blk_frozen BK271.out 0
                    have hfz68_1 := blk_frozen BK271.out 1
                    have hfz68_2 := blk_frozen BK271.out 2
                    have hfz68_3 := blk_frozen BK271.out 3
                    have hfz68_4 := blk_frozen BK271.out 4
                    have hfz68_5 := blk_frozen BK271.out 5
                    have hfz68_6 := blk_frozen BK271.out 6
                    have hfz68_7 := blk_frozen BK271.out 7
                    have hfz68_8 := blk_frozen BK271.out 8
                    have hfz68_9 := blk_frozen BK271.out 9
                    have hfz68_10 := blk_frozen BK271.out 10
                    have hfz68_11 := blk_frozen BK271.out 11
                    have hfz68_12 := blk_frozen BK271.out 12
                    have hfz68_13 := blk_frozen BK271.out 13
                    have hfz68_14 := blk_frozen BK271.out 14
                    have hcz69_0 : wr.cell? ⟨gb272, 0, none⟩ = some (.int .i64 a1_0) := (blk_cell BK272.out 0).trans rfl
                    have hcz69_1 : wr.cell? ⟨gb272, 1, none⟩ = some (.int .i64 a1_1) := (blk_cell BK272.out 1).trans rfl
                    have hcz69_2 : wr.cell? ⟨gb272, 2, none⟩ = some (.bool a1_2) := (blk_cell BK272.out 2).trans rfl
                    have hcz69_3 : wr.cell? ⟨gb272, 3, none⟩ = some (.bool a1_3) := (blk_cell BK272.out 3).trans rfl
                    have hcz69_4 : wr.cell? ⟨gb272, 4, none⟩ = some (.int .u32 a1_4) := (blk_cell BK272.out 4).trans rfl
                    have hcz69_5 : wr.cell? ⟨gb272, 5, none⟩ = some (.int .u32 a1_5) := (blk_cell BK272.out 5).trans rfl
                    have hcz69_6 : wr.cell? ⟨gb272, 6, none⟩ = some (.int .u32 a1_6) := (blk_cell BK272.out 6).trans rfl
                    have hcz69_7 : wr.cell? ⟨gb272, 7, none⟩ = some (.int .u32 a1_7) := (blk_cell BK272.out 7).trans rfl
                    have hcz69_8 : wr.cell? ⟨gb272, 8, none⟩ = some (.int .i64 a1_8) := (blk_cell BK272.out 8).trans rfl
                    have hcz69_9 : wr.cell? ⟨gb272, 9, none⟩ = some (.int .i64 a1_9) := (blk_cell BK272.out 9).trans rfl
                    have hcz69_10 : wr.cell? ⟨gb272, 10, none⟩ = some (.int .u32 a1_10) := (blk_cell BK272.out 10).trans rfl
                    have hcz69_11 : wr.cell? ⟨gb272, 11, none⟩ = some (.int .u32 a1_11) := (blk_cell BK272.out 11).trans rfl
                    have hcz69_12 : wr.cell? ⟨gb272, 12, none⟩ = some (.int .u32 a1_12) := (blk_cell BK272.out 12).trans rfl
                    have hcz69_13 : wr.cell? ⟨gb272, 13, none⟩ = some (.slice A1_13 l1_13.length c1_13) := (blk_cell BK272.out 13).trans rfl
                    have hcz69_14 : wr.cell? ⟨gb272, 14, none⟩ = some (.slice A1_14 l1_14.length c1_14) := (blk_cell BK272.out 14).trans rfl
                    have hfz69_0 := blk_frozen BK272.out 0
                    have hfz69_1 := blk_frozen BK272.out 1
                    have hfz69_2 := blk_frozen BK272.out 2
                    have hfz69_3 := blk_frozen BK272.out 3
                    have hfz69_4 := blk_frozen BK272.out 4
                    have hfz69_5 := blk_frozen BK272.out 5
                    have hfz69_6 := blk_frozen BK272.out 6
                    have hfz69_7 := blk_frozen BK272.out 7
                    have hfz69_8 := blk_frozen BK272.out 8
                    have hfz69_9 := blk_frozen BK272.out 9
                    have hfz69_10 := blk_frozen BK272.out 10
                    have hfz69_11 := blk_frozen BK272.out 11
                    have hfz69_12 := blk_frozen BK272.out 12
                    have hfz69_13 := blk_frozen BK272.out 13
                    have hfz69_14 := blk_frozen BK272.out 14
                    go_wp2_with (first | (go_at_call 18; (with_reducible refine (fourinhandref03_Same.calls k2 _ _ l0_14 _ _ l1_14 true _ ?side1 ?side2 ?side3 ?side4 A52.out).mono ?_); (case side1 => repeat (first | exact (Kd.C_below HR0_14.out HB.out) | (with_reducible refine Kd.C_alloc ?_ _) | (with_reducible refine Kd.C_drewN ?_ _) | (with_reducible refine Kd.C_drew ?_))); (case side2 => exact HC0_14.out); (case side3 => repeat (first | exact (Kd.C_below HR1_14.out HB.out) | (with_reducible refine Kd.C_alloc ?_ _) | (with_reducible refine Kd.C_drewN ?_ _) | (with_reducible refine Kd.C_drew ?_))); (case side4 => exact HC1_14.out); rintro e w' ⟨rfl, ⟨nd, rfl⟩⟩; (try first | exact ⟨rfl, _, World.drewN_drewN _ _ _⟩ | exact ⟨rfl, _, Eq.trans (World.drewN_drewN _ _ _) (congrArg (World.drewN _) (Nat.add_assoc _ _ _))⟩)))
                    repeat (go_quiet (first | (go_at_call 18; (with_reducible refine (fourinhandref03_Same.calls k2 _ _ l0_14 _ _ l1_14 true _ ?side1 ?side2 ?side3 ?side4 A52.out).mono ?_); (case side1 => repeat (first | exact (Kd.C_below HR0_14.out HB.out) | (with_reducible refine Kd.C_alloc ?_ _) | (with_reducible refine Kd.C_drewN ?_ _) | (with_reducible refine Kd.C_drew ?_))); (case side2 => exact HC0_14.out); (case side3 => repeat (first | exact (Kd.C_below HR1_14.out HB.out) | (with_reducible refine Kd.C_alloc ?_ _) | (with_reducible refine Kd.C_drewN ?_ _) | (with_reducible refine Kd.C_drew ?_))); (case side4 => exact HC1_14.out); rintro e w' ⟨rfl, ⟨nd, rfl⟩⟩; (try first | exact ⟨rfl, _, World.drewN_drewN _ _ _⟩ | exact ⟨rfl, _, Eq.trans (World.drewN_drewN _ _ _) (congrArg (World.drewN _) (Nat.add_assoc _ _ _))⟩))); try go_wp2_with (first | (go_at_call 18; (with_reducible refine (fourinhandref03_Same.calls k2 _ _ l0_14 _ _ l1_14 true _ ?side1 ?side2 ?side3 ?side4 A52.out).mono ?_); (case side1 => repeat (first | exact (Kd.C_below HR0_14.out HB.out) | (with_reducible refine Kd.C_alloc ?_ _) | (with_reducible refine Kd.C_drewN ?_ _) | (with_reducible refine Kd.C_drew ?_))); (case side2 => exact HC0_14.out); (case side3 => repeat (first | exact (Kd.C_below HR1_14.out HB.out) | (with_reducible refine Kd.C_alloc ?_ _) | (with_reducible refine Kd.C_drewN ?_ _) | (with_reducible refine Kd.C_drew ?_))); (case side4 => exact HC1_14.out); rintro e w' ⟨rfl, ⟨nd, rfl⟩⟩; (try first | exact ⟨rfl, _, World.drewN_drewN _ _ _⟩ | exact ⟨rfl, _, Eq.trans (World.drewN_drewN _ _ _) (congrArg (World.drewN _) (Nat.add_assoc _ _ _))⟩))))
                    go_ret
                    exact ⟨by first | rfl | (simp [errW_none, errW_some] <;> rfl) | (simp [*, errW_none, errW_some] <;> rfl), by repeat (first | (with_reducible first | exact HB.out | apply below_alloc | apply pw_below_drewN | apply below_drew1 | refine below_set ?_ GE271.out | refine below_set ?_ GE272.out) | exact HB.out)⟩
                · rw [if_neg c54] at H
                  have c54b0 : (a0_8 == a1_8) = false := beq_eq_false_iff_ne.mpr c54
                  have c54b1 : (a0_8 != a1_8) = true := bne_iff_ne.mpr c54
                  obtain rfl := Option.some.inj H
                  have hnb70 := NB271_272.out
                  have hnc70 := NB272_271.out
                  have hcz71_0 : wr.cell? ⟨gb271, 0, none⟩ = some (.int .i64 a0_0) := (blk_cell BK271.out 0).trans rfl
                  have hcz71_1 : wr.cell? ⟨gb271, 1, none⟩ = some (.int .i64 a0_1) := (blk_cell BK271.out 1).trans rfl
                  have hcz71_2 : wr.cell? ⟨gb271, 2, none⟩ = some (.bool a0_2) := (blk_cell BK271.out 2).trans rfl
                  have hcz71_3 : wr.cell? ⟨gb271, 3, none⟩ = some (.bool a0_3) := (blk_cell BK271.out 3).trans rfl
                  have hcz71_4 : wr.cell? ⟨gb271, 4, none⟩ = some (.int .u32 a0_4) := (blk_cell BK271.out 4).trans rfl
                  have hcz71_5 : wr.cell? ⟨gb271, 5, none⟩ = some (.int .u32 a0_5) := (blk_cell BK271.out 5).trans rfl
                  have hcz71_6 : wr.cell? ⟨gb271, 6, none⟩ = some (.int .u32 a0_6) := (blk_cell BK271.out 6).trans rfl
                  have hcz71_7 : wr.cell? ⟨gb271, 7, none⟩ = some (.int .u32 a0_7) := (blk_cell BK271.out 7).trans rfl
                  have hcz71_8 : wr.cell? ⟨gb271, 8, none⟩ = some (.int .i64 a0_8) := (blk_cell BK271.out 8).trans rfl
                  have hcz71_9 : wr.cell? ⟨gb271, 9, none⟩ = some (.int .i64 a0_9) := (blk_cell BK271.out 9).trans rfl
                  have hcz71_10 : wr.cell? ⟨gb271, 10, none⟩ = some (.int .u32 a0_10) := (blk_cell BK271.out 10).trans rfl
                  have hcz71_11 : wr.cell? ⟨gb271, 11, none⟩ = some (.int .u32 a0_11) := (blk_cell BK271.out 11).trans rfl
                  have hcz71_12 : wr.cell? ⟨gb271, 12, none⟩ = some (.int .u32 a0_12) := (blk_cell BK271.out 12).trans rfl
                  have hcz71_13 : wr.cell? ⟨gb271, 13, none⟩ = some (.slice A0_13 l0_13.length c0_13) := (blk_cell BK271.out 13).trans rfl
                  have hcz71_14 : wr.cell? ⟨gb271, 14, none⟩ = some (.slice A0_14 l0_14.length c0_14) := (blk_cell BK271.out 14).trans rfl
                  have hfz71_0 := blk_frozen BK271.out 0
                  have hfz71_1 := blk_frozen BK271.out 1
                  have hfz71_2 := blk_frozen BK271.out 2
                  have hfz71_3 := blk_frozen BK271.out 3
                  have hfz71_4 := blk_frozen BK271.out 4
                  have hfz71_5 := blk_frozen BK271.out 5
                  have hfz71_6 := blk_frozen BK271.out 6
                  have hfz71_7 := blk_frozen BK271.out 7
                  have hfz71_8 := blk_frozen BK271.out 8
                  have hfz71_9 := blk_frozen BK271.out 9
                  have hfz71_10 := blk_frozen BK271.out 10
                  have hfz71_11 := blk_frozen BK271.out 11
                  have hfz71_12 := blk_frozen BK271.out 12
                  have hfz71_13 := blk_frozen BK271.out 13
                  have hfz71_14 := blk_frozen BK271.out 14
                  have hcz72_0 : wr.cell? ⟨gb272, 0, none⟩ = some (.int .i64 a1_0) := (blk_cell BK272.out 0).trans rfl
                  have hcz72_1 : wr.cell? ⟨gb272, 1, none⟩ = some (.int .i64 a1_1) := (blk_cell BK272.out 1).trans rfl
                  have hcz72_2 : wr.cell? ⟨gb272, 2, none⟩ = some (.bool a1_2) := (blk_cell BK272.out 2).trans rfl
                  have hcz72_3 : wr.cell? ⟨gb272, 3, none⟩ = some (.bool a1_3) := (blk_cell BK272.out 3).trans rfl
                  have hcz72_4 : wr.cell? ⟨gb272, 4, none⟩ = some (.int .u32 a1_4) := (blk_cell BK272.out 4).trans rfl
                  have hcz72_5 : wr.cell? ⟨gb272, 5, none⟩ = some (.int .u32 a1_5) := (blk_cell BK272.out 5).trans rfl
                  have hcz72_6 : wr.cell? ⟨gb272, 6, none⟩ = some (.int .u32 a1_6) := (blk_cell BK272.out 6).trans rfl
                  have hcz72_7 : wr.cell? ⟨gb272, 7, none⟩ = some (.int .u32 a1_7) := (blk_cell BK272.out 7).trans rfl
                  have hcz72_8 : wr.cell? ⟨gb272, 8, none⟩ = some (.int .i64 a1_8) := (blk_cell BK272.out 8).trans rfl
                  have hcz72_9 : wr.cell? ⟨gb272, 9, none⟩ = some (.int .i64 a1_9) := (blk_cell BK272.out 9).trans rfl
                  have hcz72_10 : wr.cell? ⟨gb272, 10, none⟩ = some (.int .u32 a1_10) := (blk_cell BK272.out 10).trans rfl
                  have hcz72_11 : wr.cell? ⟨gb272, 11, none⟩ = some (.int .u32 a1_11) := (blk_cell BK272.out 11).trans rfl
                  have hcz72_12 : wr.cell? ⟨gb272, 12, none⟩ = some (.int .u32 a1_12) := (blk_cell BK272.out 12).trans rfl
                  have hcz72_13 : wr.cell? ⟨gb272, 13, none⟩ = some (.slice A1_13 l1_13.length c1_13) := (blk_cell BK272.out 13).trans rfl
                  have hcz72_14 : wr.cell? ⟨gb272, 14, none⟩ = some (.slice A1_14 l1_14.length c1_14) := (blk_cell BK272.out 14).trans rfl
                  have hfz72_0 := blk_frozen BK272.out 0
                  have hfz72_1 := blk_frozen BK272.out 1
                  have hfz72_2 := blk_frozen BK272.out 2
                  have hfz72_3 := blk_frozen BK272.out 3
                  have hfz72_4 := blk_frozen BK272.out 4
                  have hfz72_5 := blk_frozen BK272.out 5
                  have hfz72_6 := blk_frozen BK272.out 6
                  have hfz72_7 := blk_frozen BK272.out 7
                  have hfz72_8 := blk_frozen BK272.out 8
                  have hfz72_9 := blk_frozen BK272.out 9
                  have hfz72_10 := blk_frozen BK272.out 10
                  have hfz72_11 := blk_frozen BK272.out 11
                  have hfz72_12 := blk_frozen BK272.out 12
                  have hfz72_13 := blk_frozen BK272.out 13
                  have hfz72_14 := blk_frozen BK272.out 14
                  go_wp2_with (first | (go_at_call 18; (with_reducible refine (fourinhandref03_Same.calls k2 _ _ l0_14 _ _ l1_14 true _ ?side1 ?side2 ?side3 ?side4 A52.out).mono ?_); (case side1 => repeat (first | exact (Kd.C_below HR0_14.out HB.out) | (with_reducible refine Kd.C_alloc ?_ _) | (with_reducible refine Kd.C_drewN ?_ _) | (with_reducible refine Kd.C_drew ?_))); (case side2 => exact HC0_14.out); (case side3 => repeat (first | exact (Kd.C_below HR1_14.out HB.out) | (with_reducible refine Kd.C_alloc ?_ _) | (with_reducible refine Kd.C_drewN ?_ _) | (with_reducible refine Kd.C_drew ?_))); (case side4 => exact HC1_14.out); rintro e w' ⟨rfl, ⟨nd, rfl⟩⟩; (try first | exact ⟨rfl, _, World.drewN_drewN _ _ _⟩ | exact ⟨rfl, _, Eq.trans (World.drewN_drewN _ _ _) (congrArg (World.drewN _) (Nat.add_assoc _ _ _))⟩)))
                  repeat (go_quiet (first | (go_at_call 18; (with_reducible refine (fourinhandref03_Same.calls k2 _ _ l0_14 _ _ l1_14 true _ ?side1 ?side2 ?side3 ?side4 A52.out).mono ?_); (case side1 => repeat (first | exact (Kd.C_below HR0_14.out HB.out) | (with_reducible refine Kd.C_alloc ?_ _) | (with_reducible refine Kd.C_drewN ?_ _) | (with_reducible refine Kd.C_drew ?_))); (case side2 => exact HC0_14.out); (case side3 => repeat (first | exact (Kd.C_below HR1_14.out HB.out) | (with_reducible refine Kd.C_alloc ?_ _) | (with_reducible refine Kd.C_drewN ?_ _) | (with_reducible refine Kd.C_drew ?_))); (case side4 => exact HC1_14.out); rintro e w' ⟨rfl, ⟨nd, rfl⟩⟩; (try first | exact ⟨rfl, _, World.drewN_drewN _ _ _⟩ | exact ⟨rfl, _, Eq.trans (World.drewN_drewN _ _ _) (congrArg (World.drewN _) (Nat.add_assoc _ _ _))⟩))); try go_wp2_with (first | (go_at_call 18; (with_reducible refine (fourinhandref03_Same.calls k2 _ _ l0_14 _ _ l1_14 true _ ?side1 ?side2 ?side3 ?side4 A52.out).mono ?_); (case side1 => repeat (first | exact (Kd.C_below HR0_14.out HB.out) | (with_reducible refine Kd.C_alloc ?_ _) | (with_reducible refine Kd.C_drewN ?_ _) | (with_reducible refine Kd.C_drew ?_))); (case side2 => exact HC0_14.out); (case side3 => repeat (first | exact (Kd.C_below HR1_14.out HB.out) | (with_reducible refine Kd.C_alloc ?_ _) | (with_reducible refine Kd.C_drewN ?_ _) | (with_reducible refine Kd.C_drew ?_))); (case side4 => exact HC1_14.out); rintro e w' ⟨rfl, ⟨nd, rfl⟩⟩; (try first | exact ⟨rfl, _, World.drewN_drewN _ _ _⟩ | exact ⟨rfl, _, Eq.trans (World.drewN_drewN _ _ _) (congrArg (World.drewN _) (Nat.add_assoc _ _ _))⟩))))
                  go_ret
                  exact ⟨by first | rfl | (simp [errW_none, errW_some] <;> rfl) | (simp [*, errW_none, errW_some] <;> rfl), by repeat (first | (with_reducible first | exact HB.out | apply below_alloc | apply pw_below_drewN | apply below_drew1 | refine below_set ?_ GE271.out | refine below_set ?_ GE272.out) | exact HB.out)⟩
              · replace c53 := Bool.eq_false_iff.mpr c53
                subst c53
                have H1 : (some false) = some r := by rw [if_neg (show ¬ (false = true) by decide)] at H; exact H
                clear H
                have H := H1
                clear H1
                obtain rfl := Option.some.inj H
                have hnb73 := NB271_272.out
                have hnc73 := NB272_271.out
                have hcz74_0 : wr.cell? ⟨gb271, 0, none⟩ = some (.int .i64 a0_0) := (blk_cell BK271.out 0).trans rfl
                have hcz74_1 : wr.cell? ⟨gb271, 1, none⟩ = some (.int .i64 a0_1) := (blk_cell BK271.out 1).trans rfl
                have hcz74_2 : wr.cell? ⟨gb271, 2, none⟩ = some (.bool a0_2) := (blk_cell BK271.out 2).trans rfl
                have hcz74_3 : wr.cell? ⟨gb271, 3, none⟩ = some (.bool a0_3) := (blk_cell BK271.out 3).trans rfl
                have hcz74_4 : wr.cell? ⟨gb271, 4, none⟩ = some (.int .u32 a0_4) := (blk_cell BK271.out 4).trans rfl
                have hcz74_5 : wr.cell? ⟨gb271, 5, none⟩ = some (.int .u32 a0_5) := (blk_cell BK271.out 5).trans rfl
                have hcz74_6 : wr.cell? ⟨gb271, 6, none⟩ = some (.int .u32 a0_6) := (blk_cell BK271.out 6).trans rfl
                have hcz74_7 : wr.cell? ⟨gb271, 7, none⟩ = some (.int .u32 a0_7) := (blk_cell BK271.out 7).trans rfl
                have hcz74_8 : wr.cell? ⟨gb271, 8, none⟩ = some (.int .i64 a0_8) := (blk_cell BK271.out 8).trans rfl
                have hcz74_9 : wr.cell? ⟨gb271, 9, none⟩ = some (.int .i64 a0_9) := (blk_cell BK271.out 9).trans rfl
                have hcz74_10 : wr.cell? ⟨gb271, 10, none⟩ = some (.int .u32 a0_10) := (blk_cell BK271.out 10).trans rfl
                have hcz74_11 : wr.cell? ⟨gb271, 11, none⟩ = some (.int .u32 a0_11) := (blk_cell BK271.out 11).trans rfl
                have hcz74_12 : wr.cell? ⟨gb271, 12, none⟩ = some (.int .u32 a0_12) := (blk_cell BK271.out 12).trans rfl
                have hcz74_13 : wr.cell? ⟨gb271, 13, none⟩ = some (.slice A0_13 l0_13.length c0_13) := (blk_cell BK271.out 13).trans rfl
                have hcz74_14 : wr.cell? ⟨gb271, 14, none⟩ = some (.slice A0_14 l0_14.length c0_14) := (blk_cell BK271.out 14).trans rfl
                have hfz74_0 := blk_frozen BK271.out 0
                have hfz74_1 := blk_frozen BK271.out 1
                have hfz74_2 := blk_frozen BK271.out 2
                have hfz74_3 := blk_frozen BK271.out 3
                have hfz74_4 := blk_frozen BK271.out 4
                have hfz74_5 := blk_frozen BK271.out 5
                have hfz74_6 := blk_frozen BK271.out 6
                have hfz74_7 := blk_frozen BK271.out 7
                have hfz74_8 := blk_frozen BK271.out 8
                have hfz74_9 := blk_frozen BK271.out 9
                have hfz74_10 := blk_frozen BK271.out 10
                have hfz74_11 := blk_frozen BK271.out 11
                have hfz74_12 := blk_frozen BK271.out 12
                have hfz74_13 := blk_frozen BK271.out 13
                have hfz74_14 := blk_frozen BK271.out 14
                have hcz75_0 : wr.cell? ⟨gb272, 0, none⟩ = some (.int .i64 a1_0) := (blk_cell BK272.out 0).trans rfl
                have hcz75_1 : wr.cell? ⟨gb272, 1, none⟩ = some (.int .i64 a1_1) := (blk_cell BK272.out 1).trans rfl
                have hcz75_2 : wr.cell? ⟨gb272, 2, none⟩ = some (.bool a1_2) := (blk_cell BK272.out 2).trans rfl
                have hcz75_3 : wr.cell? ⟨gb272, 3, none⟩ = some (.bool a1_3) := (blk_cell BK272.out 3).trans rfl
                have hcz75_4 : wr.cell? ⟨gb272, 4, none⟩ = some (.int .u32 a1_4) := (blk_cell BK272.out 4).trans rfl
                have hcz75_5 : wr.cell? ⟨gb272, 5, none⟩ = some (.int .u32 a1_5) := (blk_cell BK272.out 5).trans rfl
                have hcz75_6 : wr.cell? ⟨gb272, 6, none⟩ = some (.int .u32 a1_6) := (blk_cell BK272.out 6).trans rfl
                have hcz75_7 : wr.cell? ⟨gb272, 7, none⟩ = some (.int .u32 a1_7) := (blk_cell BK272.out 7).trans rfl
                have hcz75_8 : wr.cell? ⟨gb272, 8, none⟩ = some (.int .i64 a1_8) := (blk_cell BK272.out 8).trans rfl
                have hcz75_9 : wr.cell? ⟨gb272, 9, none⟩ = some (.int .i64 a1_9) := (blk_cell BK272.out 9).trans rfl
                have hcz75_10 : wr.cell? ⟨gb272, 10, none⟩ = some (.int .u32 a1_10) := (blk_cell BK272.out 10).trans rfl
                have hcz75_11 : wr.cell? ⟨gb272, 11, none⟩ = some (.int .u32 a1_11) := (blk_cell BK272.out 11).trans rfl
                have hcz75_12 : wr.cell? ⟨gb272, 12, none⟩ = some (.int .u32 a1_12) := (blk_cell BK272.out 12).trans rfl
                have hcz75_13 : wr.cell? ⟨gb272, 13, none⟩ = some (.slice A1_13 l1_13.length c1_13) := (blk_cell BK272.out 13).trans rfl
                have hcz75_14 : wr.cell? ⟨gb272, 14, none⟩ = some (.slice A1_14 l1_14.length c1_14) := (blk_cell BK272.out 14).trans rfl
                have hfz75_0 := blk_frozen BK272.out 0
                have hfz75_1 := blk_frozen BK272.out 1
                have hfz75_2 := blk_frozen BK272.out 2
                have hfz75_3 := blk_frozen BK272.out 3
                have hfz75_4 := blk_frozen BK272.out 4
                have hfz75_5 := blk_frozen BK272.out 5
                have hfz75_6 := blk_frozen BK272.out 6
                have hfz75_7 := blk_frozen BK272.out 7
                have hfz75_8 := blk_frozen BK272.out 8
                have hfz75_9 := blk_frozen BK272.out 9
                have hfz75_10 := blk_frozen BK272.out 10
                have hfz75_11 := blk_frozen BK272.out 11
                have hfz75_12 := blk_frozen BK272.out 12
                have hfz75_13 := blk_frozen BK272.out 13
                have hfz75_14 := blk_frozen BK272.out 14
                go_wp2_with (first | (go_at_call 18; (with_reducible refine (fourinhandref03_Same.calls k2 _ _ l0_14 _ _ l1_14 false _ ?side1 ?side2 ?side3 ?side4 A52.out).mono ?_); (case side1 => repeat (first | exact (Kd.C_below HR0_14.out HB.out) | (with_reducible refine Kd.C_alloc ?_ _) | (with_reducible refine Kd.C_drewN ?_ _) | (with_reducible refine Kd.C_drew ?_))); (case side2 => exact HC0_14.out); (case side3 => repeat (first | exact (Kd.C_below HR1_14.out HB.out) | (with_reducible refine Kd.C_alloc ?_ _) | (with_reducible refine Kd.C_drewN ?_ _) | (with_reducible refine Kd.C_drew ?_))); (case side4 => exact HC1_14.out); rintro e w' ⟨rfl, ⟨nd, rfl⟩⟩; (try first | exact ⟨rfl, _, World.drewN_drewN _ _ _⟩ | exact ⟨rfl, _, Eq.trans (World.drewN_drewN _ _ _) (congrArg (World.drewN _) (Nat.add_assoc _ _ _))⟩)))
                repeat (go_quiet (first | (go_at_call 18; (with_reducible refine (fourinhandref03_Same.calls k2 _ _ l0_14 _ _ l1_14 false _ ?side1 ?side2 ?side3 ?side4 A52.out).mono ?_); (case side1 => repeat (first | exact (Kd.C_below HR0_14.out HB.out) | (with_reducible refine Kd.C_alloc ?_ _) | (with_reducible refine Kd.C_drewN ?_ _) | (with_reducible refine Kd.C_drew ?_))); (case side2 => exact HC0_14.out); (case side3 => repeat (first | exact (Kd.C_below HR1_14.out HB.out) | (with_reducible refine Kd.C_alloc ?_ _) | (with_reducible refine Kd.C_drewN ?_ _) | (with_reducible refine Kd.C_drew ?_))); (case side4 => exact HC1_14.out); rintro e w' ⟨rfl, ⟨nd, rfl⟩⟩; (try first | exact ⟨rfl, _, World.drewN_drewN _ _ _⟩ | exact ⟨rfl, _, Eq.trans (World.drewN_drewN _ _ _) (congrArg (World.drewN _) (Nat.add_assoc _ _ _))⟩))); try go_wp2_with (first | (go_at_call 18; (with_reducible refine (fourinhandref03_Same.calls k2 _ _ l0_14 _ _ l1_14 false _ ?side1 ?side2 ?side3 ?side4 A52.out).mono ?_); (case side1 => repeat (first | exact (Kd.C_below HR0_14.out HB.out) | (with_reducible refine Kd.C_alloc ?_ _) | (with_reducible refine Kd.C_drewN ?_ _) | (with_reducible refine Kd.C_drew ?_))); (case side2 => exact HC0_14.out); (case side3 => repeat (first | exact (Kd.C_below HR1_14.out HB.out) | (with_reducible refine Kd.C_alloc ?_ _) | (with_reducible refine Kd.C_drewN ?_ _) | (with_reducible refine Kd.C_drew ?_))); (case side4 => exact HC1_14.out); rintro e w' ⟨rfl, ⟨nd, rfl⟩⟩; (try first | exact ⟨rfl, _, World.drewN_drewN _ _ _⟩ | exact ⟨rfl, _, Eq.trans (World.drewN_drewN _ _ _) (congrArg (World.drewN _) (Nat.add_assoc _ _ _))⟩))))
                go_ret
                exact ⟨by first | rfl | (simp [errW_none, errW_some] <;> rfl) | (simp [*, errW_none, errW_some] <;> rfl), by repeat (first | (with_reducible first | exact HB.out | apply below_alloc | apply pw_below_drewN | apply below_drew1 | refine below_set ?_ GE271.out | refine below_set ?_ GE272.out) | exact HB.out)⟩

end Go.Proofs.Ytbogmogimoleaaa.W
