/- Plain functions of layer 52: Check, Need. No program in sight. -/
import Derived.Test.YtijhkgabonkmfaaSwP
namespace Go.Proofs.Ytijhkgabonkmfaa
theorem and9 {α : Type} (x y : α) (b1 b2 b3 b4 b5 b6 b7 b8 b9 : Bool) : (b1 = false ∧ (if (b1 && b2 && b3 && b4 && b5 && b6 && b7 && b8 && b9) = true then x else y) = y) ∨
    (b1 = true ∧ b2 = false ∧ (if (b1 && b2 && b3 && b4 && b5 && b6 && b7 && b8 && b9) = true then x else y) = y) ∨
    (b1 = true ∧ b2 = true ∧ b3 = false ∧ (if (b1 && b2 && b3 && b4 && b5 && b6 && b7 && b8 && b9) = true then x else y) = y) ∨
    (b1 = true ∧ b2 = true ∧ b3 = true ∧ b4 = false ∧ (if (b1 && b2 && b3 && b4 && b5 && b6 && b7 && b8 && b9) = true then x else y) = y) ∨
    (b1 = true ∧ b2 = true ∧ b3 = true ∧ b4 = true ∧ b5 = false ∧ (if (b1 && b2 && b3 && b4 && b5 && b6 && b7 && b8 && b9) = true then x else y) = y) ∨
    (b1 = true ∧ b2 = true ∧ b3 = true ∧ b4 = true ∧ b5 = true ∧ b6 = false ∧ (if (b1 && b2 && b3 && b4 && b5 && b6 && b7 && b8 && b9) = true then x else y) = y) ∨
    (b1 = true ∧ b2 = true ∧ b3 = true ∧ b4 = true ∧ b5 = true ∧ b6 = true ∧ b7 = false ∧ (if (b1 && b2 && b3 && b4 && b5 && b6 && b7 && b8 && b9) = true then x else y) = y) ∨
    (b1 = true ∧ b2 = true ∧ b3 = true ∧ b4 = true ∧ b5 = true ∧ b6 = true ∧ b7 = true ∧ b8 = false ∧ (if (b1 && b2 && b3 && b4 && b5 && b6 && b7 && b8 && b9) = true then x else y) = y) ∨
    (b1 = true ∧ b2 = true ∧ b3 = true ∧ b4 = true ∧ b5 = true ∧ b6 = true ∧ b7 = true ∧ b8 = true ∧ b9 = false ∧ (if (b1 && b2 && b3 && b4 && b5 && b6 && b7 && b8 && b9) = true then x else y) = y) ∨
    (b1 = true ∧ b2 = true ∧ b3 = true ∧ b4 = true ∧ b5 = true ∧ b6 = true ∧ b7 = true ∧ b8 = true ∧ b9 = true ∧ (if (b1 && b2 && b3 && b4 && b5 && b6 && b7 && b8 && b9) = true then x else y) = x) := by
  cases b1
  · left; simp
  right
  cases b2
  · left; simp
  right
  cases b3
  · left; simp
  right
  cases b4
  · left; simp
  right
  cases b5
  · left; simp
  right
  cases b6
  · left; simp
  right
  cases b7
  · left; simp
  right
  cases b8
  · left; simp
  right
  cases b9
  · left; simp
  right
  simp

theorem and10 {α : Type} (x y : α) (b1 b2 b3 b4 b5 b6 b7 b8 b9 b10 : Bool) : (b1 = false ∧ (if (b1 && b2 && b3 && b4 && b5 && b6 && b7 && b8 && b9 && b10) = true then x else y) = y) ∨
    (b1 = true ∧ b2 = false ∧ (if (b1 && b2 && b3 && b4 && b5 && b6 && b7 && b8 && b9 && b10) = true then x else y) = y) ∨
    (b1 = true ∧ b2 = true ∧ b3 = false ∧ (if (b1 && b2 && b3 && b4 && b5 && b6 && b7 && b8 && b9 && b10) = true then x else y) = y) ∨
    (b1 = true ∧ b2 = true ∧ b3 = true ∧ b4 = false ∧ (if (b1 && b2 && b3 && b4 && b5 && b6 && b7 && b8 && b9 && b10) = true then x else y) = y) ∨
    (b1 = true ∧ b2 = true ∧ b3 = true ∧ b4 = true ∧ b5 = false ∧ (if (b1 && b2 && b3 && b4 && b5 && b6 && b7 && b8 && b9 && b10) = true then x else y) = y) ∨
    (b1 = true ∧ b2 = true ∧ b3 = true ∧ b4 = true ∧ b5 = true ∧ b6 = false ∧ (if (b1 && b2 && b3 && b4 && b5 && b6 && b7 && b8 && b9 && b10) = true then x else y) = y) ∨
    (b1 = true ∧ b2 = true ∧ b3 = true ∧ b4 = true ∧ b5 = true ∧ b6 = true ∧ b7 = false ∧ (if (b1 && b2 && b3 && b4 && b5 && b6 && b7 && b8 && b9 && b10) = true then x else y) = y) ∨
    (b1 = true ∧ b2 = true ∧ b3 = true ∧ b4 = true ∧ b5 = true ∧ b6 = true ∧ b7 = true ∧ b8 = false ∧ (if (b1 && b2 && b3 && b4 && b5 && b6 && b7 && b8 && b9 && b10) = true then x else y) = y) ∨
    (b1 = true ∧ b2 = true ∧ b3 = true ∧ b4 = true ∧ b5 = true ∧ b6 = true ∧ b7 = true ∧ b8 = true ∧ b9 = false ∧ (if (b1 && b2 && b3 && b4 && b5 && b6 && b7 && b8 && b9 && b10) = true then x else y) = y) ∨
    (b1 = true ∧ b2 = true ∧ b3 = true ∧ b4 = true ∧ b5 = true ∧ b6 = true ∧ b7 = true ∧ b8 = true ∧ b9 = true ∧ b10 = false ∧ (if (b1 && b2 && b3 && b4 && b5 && b6 && b7 && b8 && b9 && b10) = true then x else y) = y) ∨
    (b1 = true ∧ b2 = true ∧ b3 = true ∧ b4 = true ∧ b5 = true ∧ b6 = true ∧ b7 = true ∧ b8 = true ∧ b9 = true ∧ b10 = true ∧ (if (b1 && b2 && b3 && b4 && b5 && b6 && b7 && b8 && b9 && b10) = true then x else y) = x) := by
  cases b1
  · left; simp
  right
  cases b2
  · left; simp
  right
  cases b3
  · left; simp
  right
  cases b4
  · left; simp
  right
  cases b5
  · left; simp
  right
  cases b6
  · left; simp
  right
  cases b7
  · left; simp
  right
  cases b8
  · left; simp
  right
  cases b9
  · left; simp
  right
  cases b10
  · left; simp
  right
  simp

theorem or8 {α : Type} (x y : α) (b1 b2 b3 b4 b5 b6 b7 b8 : Bool) : (b1 = true ∧ (if (b1 || b2 || b3 || b4 || b5 || b6 || b7 || b8) = true then x else y) = x) ∨
    (b1 = false ∧ b2 = true ∧ (if (b1 || b2 || b3 || b4 || b5 || b6 || b7 || b8) = true then x else y) = x) ∨
    (b1 = false ∧ b2 = false ∧ b3 = true ∧ (if (b1 || b2 || b3 || b4 || b5 || b6 || b7 || b8) = true then x else y) = x) ∨
    (b1 = false ∧ b2 = false ∧ b3 = false ∧ b4 = true ∧ (if (b1 || b2 || b3 || b4 || b5 || b6 || b7 || b8) = true then x else y) = x) ∨
    (b1 = false ∧ b2 = false ∧ b3 = false ∧ b4 = false ∧ b5 = true ∧ (if (b1 || b2 || b3 || b4 || b5 || b6 || b7 || b8) = true then x else y) = x) ∨
    (b1 = false ∧ b2 = false ∧ b3 = false ∧ b4 = false ∧ b5 = false ∧ b6 = true ∧ (if (b1 || b2 || b3 || b4 || b5 || b6 || b7 || b8) = true then x else y) = x) ∨
    (b1 = false ∧ b2 = false ∧ b3 = false ∧ b4 = false ∧ b5 = false ∧ b6 = false ∧ b7 = true ∧ (if (b1 || b2 || b3 || b4 || b5 || b6 || b7 || b8) = true then x else y) = x) ∨
    (b1 = false ∧ b2 = false ∧ b3 = false ∧ b4 = false ∧ b5 = false ∧ b6 = false ∧ b7 = false ∧ b8 = true ∧ (if (b1 || b2 || b3 || b4 || b5 || b6 || b7 || b8) = true then x else y) = x) ∨
    (b1 = false ∧ b2 = false ∧ b3 = false ∧ b4 = false ∧ b5 = false ∧ b6 = false ∧ b7 = false ∧ b8 = false ∧ (if (b1 || b2 || b3 || b4 || b5 || b6 || b7 || b8) = true then x else y) = y) := by
  cases b1
  rotate_left
  · left; simp
  right
  cases b2
  rotate_left
  · left; simp
  right
  cases b3
  rotate_left
  · left; simp
  right
  cases b4
  rotate_left
  · left; simp
  right
  cases b5
  rotate_left
  · left; simp
  right
  cases b6
  rotate_left
  · left; simp
  right
  cases b7
  rotate_left
  · left; simp
  right
  cases b8
  rotate_left
  · left; simp
  right
  simp

theorem or5 {α : Type} (x y : α) (b1 b2 b3 b4 b5 : Bool) : (b1 = true ∧ (if (b1 || b2 || b3 || b4 || b5) = true then x else y) = x) ∨
    (b1 = false ∧ b2 = true ∧ (if (b1 || b2 || b3 || b4 || b5) = true then x else y) = x) ∨
    (b1 = false ∧ b2 = false ∧ b3 = true ∧ (if (b1 || b2 || b3 || b4 || b5) = true then x else y) = x) ∨
    (b1 = false ∧ b2 = false ∧ b3 = false ∧ b4 = true ∧ (if (b1 || b2 || b3 || b4 || b5) = true then x else y) = x) ∨
    (b1 = false ∧ b2 = false ∧ b3 = false ∧ b4 = false ∧ b5 = true ∧ (if (b1 || b2 || b3 || b4 || b5) = true then x else y) = x) ∨
    (b1 = false ∧ b2 = false ∧ b3 = false ∧ b4 = false ∧ b5 = false ∧ (if (b1 || b2 || b3 || b4 || b5) = true then x else y) = y) := by
  cases b1
  rotate_left
  · left; simp
  right
  cases b2
  rotate_left
  · left; simp
  right
  cases b3
  rotate_left
  · left; simp
  right
  cases b4
  rotate_left
  · left; simp
  right
  cases b5
  rotate_left
  · left; simp
  right
  simp

theorem or6 {α : Type} (x y : α) (b1 b2 b3 b4 b5 b6 : Bool) : (b1 = true ∧ (if (b1 || b2 || b3 || b4 || b5 || b6) = true then x else y) = x) ∨
    (b1 = false ∧ b2 = true ∧ (if (b1 || b2 || b3 || b4 || b5 || b6) = true then x else y) = x) ∨
    (b1 = false ∧ b2 = false ∧ b3 = true ∧ (if (b1 || b2 || b3 || b4 || b5 || b6) = true then x else y) = x) ∨
    (b1 = false ∧ b2 = false ∧ b3 = false ∧ b4 = true ∧ (if (b1 || b2 || b3 || b4 || b5 || b6) = true then x else y) = x) ∨
    (b1 = false ∧ b2 = false ∧ b3 = false ∧ b4 = false ∧ b5 = true ∧ (if (b1 || b2 || b3 || b4 || b5 || b6) = true then x else y) = x) ∨
    (b1 = false ∧ b2 = false ∧ b3 = false ∧ b4 = false ∧ b5 = false ∧ b6 = true ∧ (if (b1 || b2 || b3 || b4 || b5 || b6) = true then x else y) = x) ∨
    (b1 = false ∧ b2 = false ∧ b3 = false ∧ b4 = false ∧ b5 = false ∧ b6 = false ∧ (if (b1 || b2 || b3 || b4 || b5 || b6) = true then x else y) = y) := by
  cases b1
  rotate_left
  · left; simp
  right
  cases b2
  rotate_left
  · left; simp
  right
  cases b3
  rotate_left
  · left; simp
  right
  cases b4
  rotate_left
  · left; simp
  right
  cases b5
  rotate_left
  · left; simp
  right
  cases b6
  rotate_left
  · left; simp
  right
  simp

theorem ite_tf (b : Bool) : (if b = true then true else false) = b := by cases b <;> rfl
def orP1 (p : Proc) : Bool := (p.ki != 1) || decide (p.fr < 0) || decide (4 ≤ p.fr) || decide (p.to_ < 0) || decide (4 ≤ p.to_) || (p.fr == p.to_) || decide (p.st < 0) || decide (5 < p.st)
def orP2 (p : Proc) : Bool := decide (p.ep < 0) || decide (1073741824 < p.ep) || decide (p.cy < 0) || decide (1073741824 < p.cy) || (p.dn != (p.st == 5)) || (p.fa && decide (3 < p.st))
theorem checkP_or1 {p : Proc} (h : orP1 p = true) : checkP p = 3 := by
  unfold checkP
  rw [if_neg]
  intro h'
  simp only [orP1, inS, inT, inB, Bool.or_eq_true, Bool.and_eq_true, decide_eq_true_eq, bne_iff_ne, beq_iff_eq, Bool.not_eq_true'] at h h'
  omega
theorem checkP_or2 {p : Proc} (h : orP2 p = true) : checkP p = 3 := by
  unfold checkP
  rw [if_neg]
  intro h'
  simp only [inS, inT, inB, Bool.and_eq_true, decide_eq_true_eq, bne_iff_ne, beq_iff_eq, Bool.not_eq_true'] at h'
  obtain ⟨⟨⟨⟨⟨_, h3⟩, h4⟩, h5⟩, h6⟩, h7⟩ := h'
  rw [← beq_iff_eq] at h6
  unfold orP2 at h
  rw [h7, Bool.or_false, bne, h6] at h
  simp at h
  omega
theorem checkP_ok {p : Proc} (h1 : orP1 p = false) (h2 : orP2 p = false) : checkP p = 0 := by
  unfold checkP
  rw [if_pos]
  unfold orP2 at h2
  simp only [Bool.or_eq_false_iff] at h2
  obtain ⟨⟨h2, h3⟩, h4⟩ := h2
  rw [h4]
  have h5 : (p.dn == (p.st == 5)) = true := by revert h3; unfold bne; cases (p.dn == (p.st == 5)) <;> simp
  rw [h5]
  simp only [orP1, Bool.or_eq_false_iff, decide_eq_false_iff_not, bne_eq_false_iff_eq, beq_eq_false_iff_ne] at h1 h2
  simp only [inS, inT, inB, Bool.and_eq_true, decide_eq_true_eq, bne_iff_ne, beq_iff_eq, Bool.not_false, and_true]
  omega
def needP (p : Proc) : ByteArray × Int :=
  if checkP p ≠ 0 then (⟨#[]⟩, -1)
  else if p.fa = true then (⟨#[102, 97, 105, 108, 101, 100]⟩, -1)
  else if p.st = 0 then (⟨#[113, 117, 105, 101, 115, 99, 101]⟩, p.fr)
  else if p.st = 1 then (⟨#[100, 114, 97, 105, 110]⟩, p.to_)
  else if p.st = 2 then (⟨#[103, 114, 97, 110, 116]⟩, p.to_)
  else if p.st = 3 then (⟨#[100, 101, 109, 111, 116, 101]⟩, p.fr)
  else if p.st = 4 then (⟨#[112, 114, 111, 109, 111, 116, 101]⟩, p.to_)
  else (⟨#[100, 111, 110, 101]⟩, -1)
theorem checkP_step {p : Proc} (h : checkP p = 0) : p.st = 0 ∨ p.st = 1 ∨ p.st = 2 ∨ p.st = 3 ∨ p.st = 4 ∨ p.st = 5 := by
  unfold checkP at h
  split at h
  · rename_i h'
    simp only [Bool.and_eq_true, decide_eq_true_eq] at h'
    omega
  · exact absurd h (by decide)
theorem need_no {p : Proc} (h : checkP p ≠ 0) : needP p = (⟨#[]⟩, -1) := by unfold needP; rw [if_pos h]
theorem need_fa {p : Proc} (h : checkP p = 0) (h' : p.fa = true) : needP p = (⟨#[102, 97, 105, 108, 101, 100]⟩, -1) := by unfold needP; rw [if_neg (by simp [h]), if_pos h']
theorem need_0 {p : Proc} (h : checkP p = 0) (h' : p.fa = false) (hs : p.st = 0) : needP p = (⟨#[113, 117, 105, 101, 115, 99, 101]⟩, p.fr) := by unfold needP; rw [if_neg (by simp [h]), if_neg (by simp [h']), hs]; rfl
theorem need_1 {p : Proc} (h : checkP p = 0) (h' : p.fa = false) (hs : p.st = 1) : needP p = (⟨#[100, 114, 97, 105, 110]⟩, p.to_) := by unfold needP; rw [if_neg (by simp [h]), if_neg (by simp [h']), hs]; rfl
theorem need_2 {p : Proc} (h : checkP p = 0) (h' : p.fa = false) (hs : p.st = 2) : needP p = (⟨#[103, 114, 97, 110, 116]⟩, p.to_) := by unfold needP; rw [if_neg (by simp [h]), if_neg (by simp [h']), hs]; rfl
theorem need_3 {p : Proc} (h : checkP p = 0) (h' : p.fa = false) (hs : p.st = 3) : needP p = (⟨#[100, 101, 109, 111, 116, 101]⟩, p.fr) := by unfold needP; rw [if_neg (by simp [h]), if_neg (by simp [h']), hs]; rfl
theorem need_4 {p : Proc} (h : checkP p = 0) (h' : p.fa = false) (hs : p.st = 4) : needP p = (⟨#[112, 114, 111, 109, 111, 116, 101]⟩, p.to_) := by unfold needP; rw [if_neg (by simp [h]), if_neg (by simp [h']), hs]; rfl
theorem need_5 {p : Proc} (h : checkP p = 0) (h' : p.fa = false) (hs : p.st = 5) : needP p = (⟨#[100, 111, 110, 101]⟩, -1) := by unfold needP; rw [if_neg (by simp [h]), if_neg (by simp [h']), hs]; rfl
theorem need_ways (p : Proc) : ((checkP p == 0) = false ∧ needP p = (⟨#[]⟩, -1)) ∨ ((checkP p == 0) = true ∧ p.fa = true ∧ needP p = (⟨#[102, 97, 105, 108, 101, 100]⟩, -1)) ∨
    ((checkP p == 0) = true ∧ p.fa = false ∧ p.st = 0 ∧ needP p = (⟨#[113, 117, 105, 101, 115, 99, 101]⟩, p.fr)) ∨
    ((checkP p == 0) = true ∧ p.fa = false ∧ p.st = 1 ∧ needP p = (⟨#[100, 114, 97, 105, 110]⟩, p.to_)) ∨
    ((checkP p == 0) = true ∧ p.fa = false ∧ p.st = 2 ∧ needP p = (⟨#[103, 114, 97, 110, 116]⟩, p.to_)) ∨
    ((checkP p == 0) = true ∧ p.fa = false ∧ p.st = 3 ∧ needP p = (⟨#[100, 101, 109, 111, 116, 101]⟩, p.fr)) ∨
    ((checkP p == 0) = true ∧ p.fa = false ∧ p.st = 4 ∧ needP p = (⟨#[112, 114, 111, 109, 111, 116, 101]⟩, p.to_)) ∨
    ((checkP p == 0) = true ∧ p.fa = false ∧ p.st = 5 ∧ needP p = (⟨#[100, 111, 110, 101]⟩, -1)) := by
  by_cases h : checkP p = 0
  · have hb : (checkP p == 0) = true := by simpa using h
    rw [hb]
    by_cases h' : p.fa = true
    · exact .inr (.inl ⟨rfl, h', need_fa h h'⟩)
    · have h' : p.fa = false := by simpa using h'
      rcases checkP_step h with hs | hs | hs | hs | hs | hs
      · exact .inr (.inr (.inl ⟨rfl, h', hs, need_0 h h' hs⟩))
      · exact .inr (.inr (.inr (.inl ⟨rfl, h', hs, need_1 h h' hs⟩)))
      · exact .inr (.inr (.inr (.inr (.inl ⟨rfl, h', hs, need_2 h h' hs⟩))))
      · exact .inr (.inr (.inr (.inr (.inr (.inl ⟨rfl, h', hs, need_3 h h' hs⟩)))))
      · exact .inr (.inr (.inr (.inr (.inr (.inr (.inl ⟨rfl, h', hs, need_4 h h' hs⟩))))))
      · exact .inr (.inr (.inr (.inr (.inr (.inr (.inr ⟨rfl, h', hs, need_5 h h' hs⟩))))))
  · exact .inl ⟨by simpa using h, need_no h⟩
end Go.Proofs.Ytijhkgabonkmfaa
