/- Plain Lean functions on sites and lineages: what the functions of layer 51 compute. No program in sight. -/
namespace Go.Proofs.Ytijhkgabonkmfaa
structure Span where
  ep : Int
  fr : Int
  to_ : Int
def Span.z : Span := ⟨0, 0, 0⟩
structure Site where
  nu : Int
  ro : Int
  ep : Int
  ap : Int
  li : List Span
  so : Int
  al : Bool
  co : Bool
def zS : Site := ⟨0, 0, 0, 0, [], 0, false, false⟩

/-- a number from one number to another one -/
def inB (a b c : Int) : Bool := decide (b ≤ a) && decide (a ≤ c)
/-- a lineage is correct, behind a span with an epoch and a last cycle -/
def corr : List Span → Int → Int → Bool
  | [], _, _ => true
  | x :: r, pe, pt => decide (x.fr = pt + 1) && decide (x.fr ≤ x.to_) && decide (x.to_ ≤ 1073741824) && inB x.ep 1 1073741824 && decide (pe < x.ep) && corr r x.ep x.to_
/-- the last span -/
def lastS (l : List Span) : Span := l.getD (l.length - 1) .z
def recv (r : Int) : Bool := r == 2 || r == 4
def otherS (s : Site) (n : Int) : Bool := inB n 0 3 && (n != s.nu)
def checkS (s : Site) : Int :=
  if inB s.nu 0 3 = true then
    if inB s.ro 0 5 = true then
      if inB s.ep 0 1073741824 = true ∧ inB s.ap 0 1073741824 = true ∧ ¬ (s.ep = 0 ∧ s.ro ≠ 0) then
        if corr s.li 0 0 = true then
          if s.ep < (lastS s.li).ep then 13
          else if (lastS s.li).to_ ≠ s.ap then 22
          else if recv s.ro = true then (if otherS s s.so = true then 0 else 1)
          else if s.so = -1 then 0 else 1
        else 3
      else 2
    else 18
  else 2
def okP (s : Site) : Bool := (s.ro == 0 && ((s.li.length : Int) == 0)) || s.ro == 2 || s.ro == 3
def promoteS (s : Site) (e : Int) : Site × Int :=
  if checkS s ≠ 0 then (zS, checkS s)
  else if s.al = false then (zS, 12)
  else if okP s = false then (zS, 18)
  else if ¬ s.ep < e then (zS, 13)
  else if ¬ e ≤ 1073741824 then (zS, 2)
  else ({ s with ro := 1, ep := e, so := -1 }, 0)
def okD (s : Site) (src : Int) : Bool := src == -1 || otherS s src
def demoteS (s : Site) (e src : Int) : Site × Int :=
  if checkS s ≠ 0 then (zS, checkS s)
  else if (s.ro == 1) = false then (zS, 18)
  else if ¬ s.ep ≤ e then (zS, 13)
  else if ¬ e ≤ 1073741824 then (zS, 2)
  else if okD s src = false then (zS, 1)
  else ({ s with ro := if src = -1 then 5 else 2, ep := e, so := src }, 0)
def isolateS (s : Site) : Site × Int :=
  if checkS s ≠ 0 then (zS, checkS s)
  else if (s.ro == 2) = false then (zS, 18)
  else ({ s with ro := 3, so := -1 }, 0)
def okR (s : Site) : Bool := s.ro != 1 && s.ro != 2
def okE (s : Site) (e : Int) : Bool := decide (s.ep ≤ e) && e != 0
def rejoinS (s : Site) (e src : Int) : Site × Int :=
  if checkS s ≠ 0 then (zS, checkS s)
  else if okR s = false then (zS, 18)
  else if okE s e = false then (zS, 13)
  else if ¬ e ≤ 1073741824 then (zS, 2)
  else if otherS s src = false then (zS, 1)
  else ({ s with ro := if s.ro = 3 ∧ e = s.ep then 2 else 4, ep := e, so := src }, 0)
/-- the cycles up to a number in an epoch, behind a cycle -/
def extendS (l : List Span) (e b n : Int) : List Span :=
  if 0 < l.length ∧ (lastS l).ep = e then l.set (l.length - 1) { lastS l with to_ := n } else l ++ [⟨e, b + 1, n⟩]
/-- the program's cut: spans that begin behind a number fall, the last one is shortened -/
def cutP (l : List Span) (n : Int) : List Span :=
  let m := l.filter fun x => decide (x.fr ≤ n)
  m.set (m.length - 1) { lastS m with to_ := min (lastS m).to_ n }
/-- the reference's cut -/
def cutR (l : List Span) (n : Int) : List Span := (l.filter fun x => decide (x.fr ≤ n)).map fun x => { x with to_ := min x.to_ n }
def extendR (l : List Span) (e n : Int) : List Span := if n ≤ (lastS l).to_ then l else extendS l e (lastS l).to_ n
def syncedWith (c : List Span → Int → List Span) (s : Site) (n : Int) : Site × Int :=
  if checkS s ≠ 0 then (zS, checkS s)
  else if (s.ro == 4) = false then (zS, 18)
  else if inB n 1 1073741824 = false then (zS, 2)
  else ({ s with ro := 2, ap := n, li := extendR (c s.li n) s.ep n }, 0)
def okA (s : Site) : Bool := s.ro == 1 || s.ro == 2
def okAE (s : Site) (e : Int) : Bool := decide (s.ep ≤ e) && e != 0 && (s.ro != 1 || e == s.ep)
def applyS (s : Site) (e n : Int) : Site × Int :=
  if checkS s ≠ 0 then (zS, checkS s)
  else if okA s = false then (zS, 18)
  else if okAE s e = false then (zS, 13)
  else if ¬ (max e n ≤ 1073741824) then (zS, 2)
  else if ¬ s.ap < n then (zS, 8)
  else ({ s with ep := e, ap := n, li := extendS s.li e s.ap n }, 0)
def allowedS (s : Site) (o : Int) : Bool :=
  (checkS s == 0) && s.al &&
    (if s.ro = 1 then (o == 0 || o == 1 || o == 4)
     else if s.ro = 2 then ((o == 2 && s.co) || o == 3 || o == 4)
     else if s.ro = 3 then (o == 3 || o == 4)
     else if s.ro = 4 then (o == 2 && s.co)
     else false)
end Go.Proofs.Ytijhkgabonkmfaa
