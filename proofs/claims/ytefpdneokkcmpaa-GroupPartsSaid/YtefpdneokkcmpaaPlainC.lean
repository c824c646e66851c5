/- Of, and the document's Of, over a table of what is alike: four lists at most, so six answers. -/
import Derived.Test.YtefpdneokkcmpaaPlainB
import Derived.Test.YtefpdneokkcmpaaSx6
namespace Go.Proofs.Ytefpdneokkcmpaa.Given
open Go.RowKit Go.Proofs.YtefpdneokkcmpaaW.PrintWords Go.Proofs.YtefpdneokkcmpaaW.PrintLast Go.Proofs.YtefpdneokkcmpaaW.PrintMore Go.Proofs.Ytefpdneokkcmpaa.S
set_option linter.unusedVariables false
structure Tb where (b10 b20 b21 b30 b31 b32 : Bool)
def tbZ (t : Tb) (i j : Int) : Bool :=
  if i + j = 1 then t.b10 else if i + j = 2 then t.b20 else if i + j = 5 then t.b32 else if i + j = 4 then t.b31 else if i = 0 then t.b30 else if j = 0 then t.b30 else t.b21
mutual
def Gt.l0 : Nat → Tb → Int → List Int → Int → Int → Option (List Int)
  | 0, _, _, _, _, _ => none
  | k + 1, t, n, x3, x18, x19 => if x19 < x18 then (if 0 ≤ x19 then (if x19 < (x3.length : Int) then (Gt.l0 k t n (x3.set (x19 : Int).toNat x19) x18 (wrap64 (x19 + 1))) else (none)) else (none)) else (Gt.l1 k t n x3 n 0)
def Gt.l1 : Nat → Tb → Int → List Int → Int → Int → Option (List Int)
  | 0, _, _, _, _, _ => none
  | k + 1, t, n, x3, x28, x29 => if x29 < x28 then (Gt.l2 k t n x3 x29 x28 x29 x29 0) else (some x3)
def Gt.l2 : Nat → Tb → Int → List Int → Int → Int → Int → Int → Int → Option (List Int)
  | 0, _, _, _, _, _, _, _, _ => none
  | k + 1, t, n, x3, x5, x28, x29, x32, x33 => if x33 < x32 then (if 0 ≤ x5 then (if x5 < (x3.length : Int) then (if 0 ≤ x33 then (if x33 < (x3.length : Int) then (if (mn (rd x3 x5) (rd x3 x33)) = (mx (rd x3 x5) (rd x3 x33)) then (Gt.j3 k t n x3 x5 (mn (rd x3 x5) (rd x3 x33)) (mx (rd x3 x5) (rd x3 x33)) x28 x29 x32 x33 true) else (if x33 < n then (if x5 < n then ((some (tbZ t x33 x5) : Option Bool).bind fun t118 => (Gt.j3 k t n x3 x5 (mn (rd x3 x5) (rd x3 x33)) (mx (rd x3 x5) (rd x3 x33)) x28 x29 x32 x33 (!t118))) else (none)) else (none))) else (none)) else (none)) else (none)) else (none)) else (Gt.l1 k t n x3 x28 (wrap64 (x29 + 1)))
def Gt.j3 : Nat → Tb → Int → List Int → Int → Int → Int → Int → Int → Int → Int → Bool → Option (List Int)
  | 0, _, _, _, _, _, _, _, _, _, _, _ => none
  | k + 1, t, n, x3, x5, x7, x8, x28, x29, x32, x33, x68 => if x68 = true then (Gt.l2 k t n x3 x5 x28 x29 x32 (wrap64 (x33 + 1))) else (Gt.l3 k t n x3 x5 x7 x8 x28 x29 x32 x33 (x3.length : Int) 0)
def Gt.l3 : Nat → Tb → Int → List Int → Int → Int → Int → Int → Int → Int → Int → Int → Int → Option (List Int)
  | 0, _, _, _, _, _, _, _, _, _, _, _, _ => none
  | k + 1, t, n, x3, x5, x7, x8, x28, x29, x32, x33, x70, x71 => if x71 < x70 then (if 0 ≤ x71 then (if x71 < (x3.length : Int) then (if (rd x3 x71) = x8 then (Gt.l3 k t n (x3.set (x71 : Int).toNat x7) x5 x7 x8 x28 x29 x32 x33 x70 (wrap64 (x71 + 1))) else (Gt.l3 k t n x3 x5 x7 x8 x28 x29 x32 x33 x70 (wrap64 (x71 + 1)))) else (none)) else (none)) else (if x5 = (wrap64 (n - 1)) then ((slices_Max_int_int.f x3).bind fun t121 => (if t121 = 0 then (some x3) else (Gt.l2 k t n x3 x5 x28 x29 x32 (wrap64 (x33 + 1))))) else (Gt.l2 k t n x3 x5 x28 x29 x32 (wrap64 (x33 + 1))))
end
def Gt.f (k : Nat) (t : Tb) (n : Int) : Option (List Int) := if n > 4 then (some ([] : List Int)) else (if 0 ≤ n then (if (n : Int).toNat ≤ 35184372088832 then ((some (List.replicate (n : Int).toNat 0 : List Int)).bind fun y108 => (Gt.l0 k t n y108 (y108.length : Int) 0)) else (none)) else (none))
mutual
def Rt.l0 : Nat → Tb → Int → List Int → Int → Option (List Int)
  | 0, _, _, _, _ => none
  | k + 1, t, n, x3, x4 => if x4 < n then (if x3.length < 17592186044416 then (Rt.l0 k t n (x3 ++ [x4]) (wrap64 (x4 + 1))) else (none)) else (Rt.l1 k t n x3 0)
def Rt.l1 : Nat → Tb → Int → List Int → Int → Option (List Int)
  | 0, _, _, _, _ => none
  | k + 1, t, n, x3, x5 => if x5 < 5 then (Rt.l2 k t n x3 x5 0) else (some x3)
def Rt.l2 : Nat → Tb → Int → List Int → Int → Int → Option (List Int)
  | 0, _, _, _, _, _ => none
  | k + 1, t, n, x3, x5, x6 => if x6 < n then (Rt.l3 k t n x3 x5 x6 0) else (Rt.l1 k t n x3 (wrap64 (x5 + 1)))
def Rt.l3 : Nat → Tb → Int → List Int → Int → Int → Int → Option (List Int)
  | 0, _, _, _, _, _, _ => none
  | k + 1, t, n, x3, x5, x6, x7 => if x7 < n then (if 0 ≤ x7 then (if x7 < (x3.length : Int) then (if 0 ≤ x6 then (if x6 < (x3.length : Int) then (if (rd x3 x7) < (rd x3 x6) then (if x6 < n then ((some (tbZ t x6 x7) : Option Bool).bind fun t226 => (if t226 = true then (Rt.l3 k t n (x3.set (x6 : Int).toNat (rd x3 x7)) x5 x6 (wrap64 (x7 + 1))) else (Rt.l3 k t n x3 x5 x6 (wrap64 (x7 + 1))))) else (none)) else (Rt.l3 k t n x3 x5 x6 (wrap64 (x7 + 1)))) else (none)) else (none)) else (none)) else (none)) else (Rt.l2 k t n x3 x5 (wrap64 (x6 + 1)))
end
def Rt.f (k : Nat) (t : Tb) (n : Int) : Option (List Int) := if n > 4 then (some ([] : List Int)) else (Rt.l0 k t n ([] : List Int) 0)
end Go.Proofs.Ytefpdneokkcmpaa.Given
