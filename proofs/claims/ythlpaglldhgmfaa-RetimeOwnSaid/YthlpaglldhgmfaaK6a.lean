/- Chapter 6 in plain lists: steps, slopes, maps. -/
import Derived.Test.YthlpaglldhgmfaaRatQ
namespace Go.Proofs.Ythlpaglldhgmfaa.PA
open Go
set_option linter.unusedSimpArgs false
set_option linter.unusedVariables false
/-- a ratio, a knot (its In, its Out) -/
abbrev Rt := Int × Int
abbrev Kn := Rt × Rt
def rRight (r : Rt) : Bool := rightS r.1 r.2
def rCmp (a b : Rt) : Int := cmpS a.1 a.2 b.1 b.2
def t3 (x : Int × Int × Int) : Rt × Int := ((x.1, x.2.1), x.2.2)
def rAdd (a b : Rt) : Rt × Int := t3 (addS a.1 a.2 b.1 b.2)
def rSub (a b : Rt) : Rt × Int := t3 (subS a.1 a.2 b.1 b.2)
def rMul (a b : Rt) : Rt × Int := t3 (mulS a.1 a.2 b.1 b.2)
def rDiv (a b : Rt) : Rt × Int := t3 (divS a.1 a.2 b.1 b.2)
/-- one step behind others: done if there was no error -/
def doS (f : Rt → Rt → Rt × Int) (e : Int) (a b : Rt) : Rt × Int := if e = 0 then f a b else ((0, 0), e)
def alongS (k : Kn) (s t : Rt) : Rt × Int := doS rAdd (doS rMul (rSub t k.1).2 (rSub t k.1).1 s).2 k.2 (doS rMul (rSub t k.1).2 (rSub t k.1).1 s).1
def backS (k : Kn) (s t : Rt) : Rt × Int := doS rAdd (doS rDiv (rSub t k.2).2 (rSub t k.2).1 s).2 k.1 (doS rDiv (rSub t k.2).2 (rSub t k.2).1 s).1
/-- what is wrong with knots -/
def risesB (f : Kn → Rt) : List Kn → Bool
  | k :: k' :: l => decide (rCmp (f k) (f k') < 0) && risesB f (k' :: l)
  | _ => true
def chkK (l : List Kn) : Int :=
  if l.length = 0 then 1 else if 64 < l.length then 2 else if (l.all fun k => rRight k.1 && rRight k.2) = false then 12 else if risesB (·.1) l = false then 33 else if risesB (·.2) l = false then 32 else 0
/-- the slope of a piece, behind others -/
def pieceS (e : Int) (k k' : Kn) : Rt × Int := doS rDiv (doS rSub (doS rSub e k'.2 k.2).2 k'.1 k.1).2 (doS rSub e k'.2 k.2).1 (doS rSub (doS rSub e k'.2 k.2).2 k'.1 k.1).1
def slpF : List Kn → Int → List Rt × Int
  | k :: k' :: l, e => ((pieceS e k k').1 :: (slpF (k' :: l) (pieceS e k k').2).1, (slpF (k' :: l) (pieceS e k k').2).2)
  | _, e => ([], e)
def slopesS (l : List Kn) : List Rt × Int := if l.length = 1 then ([(1, 1)], 0) else slpF l 0
/-- the bends: the knots at which the slope is another, with the slope behind -/
def bendF : Rt → List Rt → List Kn → List (Kn × Rt)
  | p, s :: ss, k :: ks => if s = p then bendF s ss ks else (k, s) :: bendF s ss ks
  | _, _, _ => []
def atS (e : Int) (k : Kn) (s t : Rt) : Kn × Int := if e = 0 then ((t, (alongS k s t).1), (alongS k s t).2) else (((0, 0), (0, 0)), e)
structure MapV where
  knots : List Kn
  slopes : List Rt
  bends : Nat
def lineS (k : Kn) (s : Rt) : List Kn × Int :=
  let h := atS 0 k s (0, 1); let t := atS h.2 k s (1, 1); ([h.1, t.1], t.2)
def bentS (s0 : Rt) (B : List (Kn × Rt)) (f l : Kn × Rt) : List Kn × Int :=
  let x := rSub f.1.1 (1, 1); let h := atS x.2 f.1 s0 x.1; let y := doS rAdd h.2 l.1.1 (1, 1); let t := atS y.2 l.1 l.2 y.1
  (h.1 :: (B.map (·.1) ++ [t.1]), t.2)
def ownK (s0 : Rt) (B : List (Kn × Rt)) (k0 : Kn) : List Kn × Int := match B with
  | [] => lineS k0 s0
  | b :: B' => bentS s0 (b :: B') b ((b :: B').getLast (by simp))
/-- a map of knots -/
def newK (l : List Kn) : Option MapV × Int :=
  if chkK l ≠ 0 then (none, chkK l) else if (slopesS l).2 ≠ 0 then (none, (slopesS l).2) else
  match (slopesS l).1, l with
  | s0 :: ss, k0 :: ks =>
    let B := bendF s0 ss ks
    let o := ownK s0 B k0
    if o.2 ≠ 0 then (none, o.2) else if (slopesS o.1).2 ≠ 0 then (none, (slopesS o.1).2) else (some ⟨o.1, s0 :: B.map (·.2), B.length⟩, 0)
  | _, _ => (none, 1)
/-- the piece by which a time is reckoned -/
def lastLe (f : Kn → Rt) (t : Rt) : List Kn → Nat → Nat → Nat
  | [], _, at_ => at_
  | k :: l, i, at_ => lastLe f t l (i + 1) (if rCmp (f k) t ≤ 0 then i else at_)
def MapV.at (m : MapV) (f : Kn → Rt) (t : Rt) : Nat := lastLe f t m.knots 0 0
def MapV.slope (m : MapV) (i : Nat) : Rt := m.slopes.getD (min i (m.slopes.length - 1)) (0, 0)
def MapV.knot (m : MapV) (i : Nat) : Kn := m.knots.getD i ((0, 0), (0, 0))
def MapV.app (m : MapV) (t : Rt) : Rt × Int := if rRight t = true then alongS (m.knot (m.at (·.1) t)) (m.slope (m.at (·.1) t)) t else ((0, 0), 12)
def MapV.undo (m : MapV) (t : Rt) : Rt × Int := if rRight t = true then backS (m.knot (m.at (·.2) t)) (m.slope (m.at (·.2) t)) t else ((0, 0), 12)
end Go.Proofs.Ythlpaglldhgmfaa.PA
