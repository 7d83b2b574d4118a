/- Plain law: of sites in order with different numbers CheckAll says exactly if two primaries have the same epoch. -/
import Derived.Test.YtfkdcjkkmfhalaaPlainB
namespace Go.Proofs.Ytfkdcjkkmfhalaa
def pairS (s t : Site) : Bool := s.ro == 1 && t.ro == 1 && s.ep == t.ep
def splGo (p : List Site) : List Site → Bool
  | [] => false
  | s :: r => p.any (pairS s) || splGo (p ++ [s]) r
theorem splGo_snoc (s : Site) : ∀ (r p : List Site), splGo p (r ++ [s]) = (splGo p r || (p ++ r).any (pairS s)) := by
  intro r
  induction r with
  | nil => intro p; simp [splGo]
  | cons x r ih =>
    intro p
    simp only [List.cons_append, splGo]
    rw [ih (p ++ [x]), Bool.or_assoc]
    simp
theorem any_pair (p : List Site) (s : Site) : p.any (pairS s) = ((s.ro == 1) && p.any (fun x => x.ro == s.ro && x.ep == s.ep)) := by
  cases h : (s.ro == 1)
  · simp only [Bool.false_and, List.any_eq_false]
    intro x _
    simp [pairS, h]
  · simp only [Bool.true_and]
    have h' : s.ro = 1 := by simpa using h
    congr 1
    funext x
    simp only [pairS, h']
    cases (x.ro == 1) <;> simp [Bool.beq_comm]
theorem caGo_split : ∀ (r p : List Site), (∀ x, x ∈ p → x.nu < p.length) → (∀ i, i < r.length → checkS (r.getD i zS) = 0 ∧ (r.getD i zS).nu = p.length + i) → (caGo p r).2 = if splGo p r = true then 19 else 0 := by
  intro r
  induction r with
  | nil => intro p _ _; simp [caGo, splGo]
  | cons s r ih =>
    intro p hp hr
    obtain ⟨h0, h1⟩ := hr 0 (by simp)
    simp only [List.getD_cons_zero] at h0 h1
    have hn : p.any (fun x => x.nu == s.nu) = false := by
      rw [List.any_eq_false]
      intro x hx
      have := hp x hx
      simp
      omega
    have hstep : caStep p s = if p.any (pairS s) = true then 19 else 0 := by
      unfold caStep
      rw [if_neg (not_not_intro h0), if_neg (by simp [hn]), any_pair]
    unfold caGo splGo
    rw [hstep]
    cases h2 : p.any (pairS s)
    · rw [Bool.false_or]
      simp only [Bool.false_eq_true, if_false, ne_eq, not_true_eq_false]
      refine ih (p ++ [s]) ?_ ?_
      · intro x hx
        rcases List.mem_append.1 hx with hx | hx
        · have := hp x hx; simp; omega
        · rw [List.mem_singleton.1 hx]; simp; omega
      · intro i hi
        obtain ⟨g0, g1⟩ := hr (i + 1) (by simp; omega)
        simp only [List.getD_cons_succ] at g0 g1
        exact ⟨g0, by rw [g1]; simp; omega⟩
    · simp
theorem checkAll_split (l : List Site) (h4 : l.length ≤ 4) (h : ∀ i, i < l.length → checkS (l.getD i zS) = 0 ∧ (l.getD i zS).nu = i) : (checkAllS l).2 = if splGo [] l = true then 19 else 0 := by
  unfold checkAllS
  rw [if_neg (by omega)]
  exact caGo_split l [] (fun x hx => by cases hx) (fun i hi => by have := h i hi; exact ⟨this.1, by rw [this.2]; simp⟩)
end Go.Proofs.Ytfkdcjkkmfhalaa
