/- Plain functions of layer 52: Step, Abort. No program in sight. -/
import Derived.Test.YtijhkgabonkmfaaSwQ
import Derived.Test.YtijhkgabonkmfaaRefE
namespace Go.Proofs.Ytijhkgabonkmfaa
def quE (a : Site) (v : Int) : Int := if (a.ro == 1) = false then 18 else if (v == a.ap) = false then 22 else 0
def drE (p : Proc) (a b : Site) (v : Int) : Int := if (v == b.ap) = false then 22 else if decide (v ≤ p.cy) = false then 22 else if decide (v < p.cy) = true then 0 else if sameL a.li b.li = false then 19 else 0
def grE (a b : Site) (v : Int) : Int := if decide (v ≤ 1073741824) = false then 2 else if decide (a.ep < v) = false then 13 else if decide (b.ep < v) = false then 13 else 0
def deE (p : Proc) (a b : Site) : Int := if (a.ap == p.cy) = false then 22 else if (b.ap == p.cy) = false then 22 else (demoteS a p.ep p.to_).2
def prE (p : Proc) (b : Site) : Int := if (b.ap == p.cy) = false then 22 else (promoteS b p.ep).2
/-- the error of a step that succeeds -/
def sucE (p : Proc) (a b : Site) (v : Int) : Int := if p.st = 0 then quE a v else if p.st = 1 then drE p a b v else if p.st = 2 then grE a b v else if p.st = 3 then deE p a b else prE p b
/-- the procedure behind it -/
def sucP (p : Proc) (v : Int) : Proc :=
  if p.st = 0 then { p with cy := v, st := 1 } else if p.st = 1 then (if decide (v < p.cy) = true then p else { p with st := 2 }) else if p.st = 2 then { p with ep := v, st := 3 } else if p.st = 3 then { p with st := 4 } else { p with st := 5, dn := true }
/-- the sites behind it -/
def sucL (p : Proc) (l : List Site) (i k : Nat) : List Site :=
  if p.st = 3 then l.set i (demoteS (l.getD i zS) p.ep p.to_).1 else if p.st = 4 then l.set k (promoteS (l.getD k zS) p.ep).1 else l
def stepS (p : Proc) (l : List Site) (ok : Bool) (v : Int) : Proc × List Site × Int :=
  if checkP p ≠ 0 then (zP, [], 3)
  else if (checkAllS l).2 ≠ 0 then (zP, [], (checkAllS l).2)
  else if findS l p.fr = -1 then (zP, [], 7)
  else if findS l p.to_ = -1 then (zP, [], 7)
  else if p.dn = true then (zP, [], 12)
  else if p.fa = true then (zP, [], 12)
  else if ok = false then ({ p with fa := decide (p.st ≤ 3) }, l, 0)
  else if sucE p (atS l (findS l p.fr)) (atS l (findS l p.to_)) v ≠ 0 then (zP, [], sucE p (atS l (findS l p.fr)) (atS l (findS l p.to_)) v)
  else (sucP p v, sucL p l (findS l p.fr).toNat (findS l p.to_).toNat, 0)
def abortS (p : Proc) (l : List Site) : Proc × List Site × Int :=
  if checkP p ≠ 0 then (zP, [], 3)
  else if (checkAllS l).2 ≠ 0 then (zP, [], (checkAllS l).2)
  else if p.dn = true then (zP, [], 12)
  else if p.fa = true then (zP, [], 12)
  else if decide (p.st ≤ 3) = false then (zP, [], 12)
  else ({ p with fa := true }, l, 0)
end Go.Proofs.Ytijhkgabonkmfaa
