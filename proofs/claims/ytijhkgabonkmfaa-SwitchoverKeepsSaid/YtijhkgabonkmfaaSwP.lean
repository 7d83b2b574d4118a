/- Plain functions of layer 52: what the functions of package switchover compute. No program in sight. -/
import Derived.Test.YtijhkgabonkmfaaPlainB
namespace Go.Proofs.Ytijhkgabonkmfaa
structure Proc where
  ki : Int
  fr : Int
  to_ : Int
  st : Int
  ep : Int
  cy : Int
  dn : Bool
  fa : Bool
def zP : Proc := ⟨0, 0, 0, 0, 0, 0, false, false⟩
def inT (n : Int) : Bool := inB n 0 1073741824
def inS (n : Int) : Bool := inB n 0 3
/-- the error of a procedure -/
def checkP (p : Proc) : Int :=
  if (p.ki == 1 && inS p.fr && inS p.to_ && p.fr != p.to_ && decide (0 ≤ p.st) && decide (p.st ≤ 5) && inT p.ep && inT p.cy && (p.dn == (p.st == 5)) && !(p.fa && decide (3 < p.st))) = true then 0 else 3
abbrev findS (l : List Site) (n : Int) : Int := idxFrom 0 (fun x => x.nu == n) l
def atS (l : List Site) (i : Int) : Site := l.getD i.toNat zS
def beginS (l : List Site) (from_ to_ : Int) : Proc × Int :=
  if (checkAllS l).2 ≠ 0 then (zP, (checkAllS l).2)
  else if findS l from_ = -1 then (zP, 7)
  else if findS l to_ = -1 then (zP, 7)
  else if from_ = to_ then (zP, 1)
  else if ((atS l (findS l from_)).ro == 1 && (atS l (findS l to_)).ro == 2 && (atS l (findS l to_)).so == from_) = false then (zP, 18)
  else if ((atS l (findS l from_)).al && (atS l (findS l to_)).al && (atS l (findS l to_)).co) = false then (zP, 12)
  else (⟨1, from_, to_, 0, 0, (atS l (findS l from_)).ap, false, false⟩, 0)
theorem checkAll_len {l : List Site} (h : (checkAllS l).2 = 0) : l.length ≤ 4 := by
  unfold checkAllS at h
  split at h
  · exact absurd h (by decide)
  · omega
theorem find_ways (l : List Site) (n : Int) : findS l n = -1 ∨ ∃ i : Nat, findS l n = i ∧ i < l.length ∧ (l.getD i zS).nu = n := by
  rcases idxFrom_ways (fun x => x.nu == n) l 0 (by omega) with h | ⟨i, h1, h2, h3⟩
  · exact .inl h
  · exact .inr ⟨i, by unfold findS; rw [h1]; omega, h2, by simpa using h3⟩
theorem begin_1 {l : List Site} {fr to_ : Int} (h0 : (checkAllS l).2 = 0) (h1 : findS l fr = -1) : beginS l fr to_ = (zP, 7) := by
  unfold beginS; rw [if_neg (not_not_intro h0), if_pos h1]
theorem begin_2 {l : List Site} {fr to_ : Int} (h0 : (checkAllS l).2 = 0) (h2 : findS l to_ = -1) : beginS l fr to_ = (zP, 7) := by
  unfold beginS; rw [if_neg (not_not_intro h0)]
  split
  · rfl
  · first | rfl | rw [if_pos h2]
theorem begin_3 {l : List Site} {fr to_ : Int} {i k : Nat} (h0 : (checkAllS l).2 = 0) (h1 : findS l fr = i) (h2 : findS l to_ = k) :
    beginS l fr to_ = if fr = to_ then (zP, 1)
      else if ((l.getD i zS).ro == 1 && (l.getD k zS).ro == 2 && (l.getD k zS).so == fr) = false then (zP, 18)
      else if ((l.getD i zS).al && (l.getD k zS).al && (l.getD k zS).co) = false then (zP, 12)
      else (⟨1, fr, to_, 0, 0, (l.getD i zS).ap, false, false⟩, 0) := by
  unfold beginS
  rw [if_neg (not_not_intro h0), h1, h2, if_neg (by omega), if_neg (by omega)]
  simp [atS]
/-- how Begin comes out where both sites are there, and what decides it -/
theorem begin_ways (sa sb : Site) (fr to_ : Int) (r : Proc × Int) (hr : r = if fr = to_ then (zP, 1)
      else if (sa.ro == 1 && sb.ro == 2 && sb.so == fr) = false then (zP, 18)
      else if (sa.al && sb.al && sb.co) = false then (zP, 12)
      else (⟨1, fr, to_, 0, 0, sa.ap, false, false⟩, 0)) :
    ((fr != to_) = false ∧ r = (zP, 1)) ∨
    ((fr != to_) = true ∧ (sa.ro == 1) = false ∧ r = (zP, 18)) ∨
    ((fr != to_) = true ∧ (sa.ro == 1) = true ∧ (sb.ro == 2) = false ∧ r = (zP, 18)) ∨
    ((fr != to_) = true ∧ (sa.ro == 1) = true ∧ (sb.ro == 2) = true ∧ (sb.so == fr) = false ∧ r = (zP, 18)) ∨
    ((fr != to_) = true ∧ (sa.ro == 1) = true ∧ (sb.ro == 2) = true ∧ (sb.so == fr) = true ∧ sa.al = false ∧ r = (zP, 12)) ∨
    ((fr != to_) = true ∧ (sa.ro == 1) = true ∧ (sb.ro == 2) = true ∧ (sb.so == fr) = true ∧ sa.al = true ∧ sb.al = false ∧ r = (zP, 12)) ∨
    ((fr != to_) = true ∧ (sa.ro == 1) = true ∧ (sb.ro == 2) = true ∧ (sb.so == fr) = true ∧ sa.al = true ∧ sb.al = true ∧ sb.co = false ∧ r = (zP, 12)) ∨
    ((fr != to_) = true ∧ (sa.ro == 1) = true ∧ (sb.ro == 2) = true ∧ (sb.so == fr) = true ∧ sa.al = true ∧ sb.al = true ∧ sb.co = true ∧ r = (⟨1, fr, to_, 0, 0, sa.ap, false, false⟩, 0)) := by
  subst hr
  by_cases h : fr = to_
  · left; simp [h]
  · have h' : (fr != to_) = true := by simpa using h
    rw [if_neg h, h']
    cases (sa.ro == 1) <;> cases (sb.ro == 2) <;> cases (sb.so == fr) <;> cases sa.al <;> cases sb.al <;> cases sb.co <;> simp
end Go.Proofs.Ytijhkgabonkmfaa
