/- Plain functions: a configuration of sites is checked. -/
import Derived.Test.YtijhkgabonkmfaaPlainA
namespace Go.Proofs.Ytijhkgabonkmfaa
/-- the error of a site behind those of p -/
def caStep (p : List Site) (s : Site) : Int :=
  if checkS s ≠ 0 then checkS s
  else if p.any (fun x => x.nu == s.nu) = true then 8
  else if ((s.ro == 1) && p.any (fun x => x.ro == s.ro && x.ep == s.ep)) = true then 19 else 0
def caGo (p : List Site) : List Site → Int × Int
  | [] => (0, 0)
  | s :: r => if caStep p s ≠ 0 then (p.length, caStep p s) else caGo (p ++ [s]) r
def checkAllS (l : List Site) : Int × Int := if (4 : Int) < l.length then (0, 6) else caGo [] l
theorem take_snocS (l : List Site) (k : Nat) (h : k < l.length) : l.take (k + 1) = l.take k ++ [l.getD k zS] := by
  rw [List.take_succ_eq_append_getElem h]; congr 2; simp [List.getD_eq_getElem?_getD, List.getElem?_eq_getElem h]
theorem drop_consS (l : List Site) (k : Nat) (h : k < l.length) : l.drop k = l.getD k zS :: l.drop (k + 1) := by
  rw [List.drop_eq_getElem_cons h]; congr 1; simp [List.getD_eq_getElem?_getD, List.getElem?_eq_getElem h]
theorem caGo_stop (l : List Site) (k : Nat) (h : k < l.length) (e : Int) (he : caStep (l.take k) (l.getD k zS) = e) (h0 : e ≠ 0) : caGo (l.take k) (l.drop k) = ((k : Int), e) := by
  rw [drop_consS l k h]
  unfold caGo
  rw [he, if_pos h0, List.length_take]
  congr 1
  omega
theorem caGo_go (l : List Site) (k : Nat) (h : k < l.length) (he : caStep (l.take k) (l.getD k zS) = 0) : caGo (l.take k) (l.drop k) = caGo (l.take (k + 1)) (l.drop (k + 1)) := by
  rw [drop_consS l k h, take_snocS l k h]
  conv => lhs; unfold caGo
  rw [he, if_neg (by decide)]
theorem caGo_end (l : List Site) : caGo (l.take l.length) (l.drop l.length) = (0, 0) := by
  rw [List.drop_length]; rfl
/-- how the step of a site comes out, and what decides it -/
theorem caStep_ways (p : List Site) (s : Site) :
    ((checkS s != 0) = true ∧ caStep p s = checkS s ∧ checkS s ≠ 0) ∨
    ((checkS s != 0) = false ∧ p.any (fun x => x.nu == s.nu) = true ∧ caStep p s = 8) ∨
    ((checkS s != 0) = false ∧ p.any (fun x => x.nu == s.nu) = false ∧ (s.ro == 1) = false ∧ caStep p s = 0) ∨
    ((checkS s != 0) = false ∧ p.any (fun x => x.nu == s.nu) = false ∧ (s.ro == 1) = true ∧ p.any (fun x => x.ro == s.ro && x.ep == s.ep) = true ∧ caStep p s = 19) ∨
    ((checkS s != 0) = false ∧ p.any (fun x => x.nu == s.nu) = false ∧ (s.ro == 1) = true ∧ p.any (fun x => x.ro == s.ro && x.ep == s.ep) = false ∧ caStep p s = 0) := by
  unfold caStep
  by_cases h0 : checkS s = 0
  · right
    have e0 : (checkS s != 0) = false := by simp [h0]
    rw [if_neg (not_not_intro h0)]
    cases h1 : p.any (fun x => x.nu == s.nu)
    · right
      rw [if_neg (by decide)]
      cases h2 : (s.ro == 1)
      · left; exact ⟨e0, rfl, rfl, by simp⟩
      · right
        cases h3 : p.any (fun x => x.ro == s.ro && x.ep == s.ep)
        · right; exact ⟨e0, rfl, rfl, rfl, by simp⟩
        · left; exact ⟨e0, rfl, rfl, rfl, by simp⟩
    · left; exact ⟨e0, rfl, by simp⟩
  · left; exact ⟨by simpa using h0, by rw [if_pos h0], h0⟩
/-- the first index, counted from k, at which p holds, or -1 -/
def idxFrom (k : Int) (p : Site → Bool) : List Site → Int
  | [] => -1
  | x :: r => if p x then k else idxFrom (k + 1) p r
theorem idxFrom_no (p : Site → Bool) (k : Nat) (x : Site) (r : List Site) (h : p x = false) : idxFrom k p (x :: r) = idxFrom ((k + 1 : Nat) : Int) p r := by
  rw [show ((k + 1 : Nat) : Int) = (k : Int) + 1 from by omega]
  conv => lhs; unfold idxFrom
  rw [if_neg (by simp [h])]
theorem idxFrom_yes (p : Site → Bool) (k : Nat) (x : Site) (r : List Site) (h : p x = true) : idxFrom k p (x :: r) = k := by
  unfold idxFrom; rw [if_pos h]
theorem idxFrom_any (p : Site → Bool) : ∀ (l : List Site) (k : Int), 0 ≤ k → decide (0 ≤ idxFrom k p l) = l.any p := by
  intro l
  induction l with
  | nil => intro k _; simp [idxFrom]
  | cons x r ih =>
    intro k hk
    unfold idxFrom
    cases hx : p x
    · rw [if_neg (by simp), ih (k + 1) (by omega)]; simp [hx]
    · rw [if_pos rfl]; simp [hx, hk]
theorem idxFrom_ways (p : Site → Bool) : ∀ (l : List Site) (k : Int), 0 ≤ k → idxFrom k p l = -1 ∨ ∃ i : Nat, idxFrom k p l = k + i ∧ i < l.length ∧ p (l.getD i zS) = true := by
  intro l
  induction l with
  | nil => intro k _; exact .inl rfl
  | cons x r ih =>
    intro k hk
    unfold idxFrom
    cases hx : p x
    · rw [if_neg (by simp)]
      rcases ih (k + 1) (by omega) with h | ⟨i, h1, h2, h3⟩
      · exact .inl h
      · exact .inr ⟨i + 1, by omega, by simp; omega, by simpa using h3⟩
    · rw [if_pos rfl]
      exact .inr ⟨0, by omega, by simp, by simpa using hx⟩
end Go.Proofs.Ytijhkgabonkmfaa
