/- What group.Alike computes, plainly. -/
import Derived.Test.YtefpdneokkcmpaaGMay
namespace Go.Proofs.Ytefpdneokkcmpaa.Given
def mayB (l : List Int) : Bool := decide (l.length ≤ 16) && !l.any outB
def devL (l : List Int) (n : Nat) : List Int := (l.drop (l.length - n)).map (fun x => (n : Int) * x - (l.drop (l.length - n)).sum)
def dotL : List Int → List Int → Int
  | x :: t, y :: u => x * y + dotL t u
  | _, _ => 0
def alikeB (l m : List Int) : Bool :=
  let n := min l.length m.length
  if (mayB l && mayB m && decide (4 ≤ n)) = true then
    (decide (0 < 2 * dotL (devL l n) (devL m n)) && decide (dotL (devL l n) (devL l n) ≤ 2 * dotL (devL l n) (devL m n))) && decide (dotL (devL m n) (devL m n) ≤ 2 * dotL (devL l n) (devL m n))
  else false
def group_Alike.f (l0 l1 : List Int) : Option Bool := some (alikeB l0 l1)
end Go.Proofs.Ytefpdneokkcmpaa.Given
