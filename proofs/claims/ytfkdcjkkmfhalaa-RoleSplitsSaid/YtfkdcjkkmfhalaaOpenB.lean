/- Slices of plain structs that come in, opened. -/
import Derived.Test.YtfkdcjkkmfhalaaOpen
import Derived.Test.YtfkdcjkkmfhalaaLawE
namespace Go.Proofs.Ytfkdcjkkmfhalaa
open Go.ChangeShapes Go.WideShapes Go.ChangeAt Go.RowKit Go.Deep Go.Joins
set_option linter.unusedVariables false
theorem list_of' {α : Type} {z : α} {Q : Nat → α → Prop} (n : Nat) (h : ∀ i, i < n → ∃ x, Q i x) : ∃ l : List α, l.length = n ∧ ∀ i, i < n → Q i (l.getD i z) := by
  induction n with
  | zero => exact ⟨[], rfl, fun i hi => by omega⟩
  | succ n ih =>
    obtain ⟨l, hl, hq⟩ := ih fun i hi => h i (by omega)
    obtain ⟨x, hx⟩ := h n (by omega)
    refine ⟨l ++ [x], by simp [hl], fun i hi => ?_⟩
    by_cases e : i < n
    · have := hq i e
      rwa [show (l ++ [x]).getD i z = l.getD i z by simp [List.getD_eq_getElem?_getD, List.getElem?_append_left (by omega : i < l.length)]]
    · have : i = n := by omega
      subst this
      subst hl
      simpa [List.getD_eq_getElem?_getD] using hx
theorem addr_add0 (b o j : Nat) : (⟨b, o, none⟩ : Addr).add j = ⟨b, o + j, none⟩ := by unfold Addr.add; split <;> simp_all
theorem open_steps_at {H : Type} {enc : TypeId × Value → H} {w : World} {base : Nat} {held : Bool} {n : Nat} {v : Value} {y : DataW H × List MemPlace} (h : DataW.trod enc Try.prog w base (fun _ => true) held n 40 [v] = some y) :
    ∃ (A : Option Addr) (c : Nat) (l : List StepS), v = .slice A l.length c ∧ (l.length ≤ 1000000 → StepsAt w A c l) := by
  rcases open_slice_fields Try.underlying40 Try.underlying42 (by kernel_rfl) (by kernel_rfl) h with ⟨hcs, _⟩ | ⟨a, len, cap, m, D, Pl, hcs, _, hl, _, hm, _, hi⟩
  · obtain rfl : v = .slice none 0 0 := by simpa using hcs
    exact ⟨none, 0, [], rfl, fun _ => StepsAt.nil w⟩
  · obtain rfl : v = .slice (some a) len cap := by simpa using hcs
    simp only [if_true] at hm
    have hex : ∀ i, i < len → ∃ x : StepS, w.cell? (a.add (i * 4 + 0)) = some (.int .i64 x.ki) ∧ w.cell? (a.add (i * 4 + 1)) = some (.int .i64 x.ep) ∧ w.cell? (a.add (i * 4 + 2)) = some (.int .i64 x.so) ∧ w.cell? (a.add (i * 4 + 3)) = some (.int .i64 x.nu) := by
      intro i hil
      obtain ⟨ys, k, _, _, _, hf⟩ := hi i (by omega)
      obtain ⟨v0, y0, h0, _, t0⟩ := hf 0 _ rfl
      obtain ⟨v1, y1, h1, _, t1⟩ := hf 1 _ rfl
      obtain ⟨v2, y2, h2, _, t2⟩ := hf 2 _ rfl
      obtain ⟨v3, y3, h3, _, t3⟩ := hf 3 _ rfl
      obtain ⟨x0, rfl⟩ := trod_int_cell Try.underlying3 t0
      obtain ⟨x1, rfl⟩ := trod_int_cell Try.underlying3 t1
      obtain ⟨x2, rfl⟩ := trod_int_cell Try.underlying3 t2
      obtain ⟨x3, rfl⟩ := trod_int_cell Try.underlying3 t3
      exact ⟨⟨x0, x1, x2, x3⟩, h0, h1, h2, h3⟩
    obtain ⟨l, hll, hq⟩ := list_of' (z := StepS.z) len hex
    subst hll
    refine ⟨some a, cap, l, rfl, fun h20 => ⟨hl, by omega, fun hp => ?_⟩⟩
    obtain ⟨b, o, sp⟩ := a
    have hs : sp = none := by
      have := (hq 0 hp).1
      simpa [Addr.add] using World.cell?_spot this
    subst hs
    refine ⟨b, o, rfl, fun i hil => ?_⟩
    have := hq i hil
    simp only [addr_add0, Nat.add_zero, ← Nat.add_assoc] at this
    exact this
theorem open_steps {H : Type} {enc : TypeId × Value → H} {w : World} {r : Reach} {b0 base : Nat} {held : Bool} {v : Value} {d : DataW H} {p : List MemPlace} (hv : Value.okWide Try.prog w r b0 40 v) (h : DataW.Trod enc Try.prog w base (fun _ => true) held 40 v d p) :
    ∃ (A : Option Addr) (c : Nat) (l : List StepS), v = .slice A l.length c ∧ (l.length ≤ 1000000 → StepsAt w A c l) := by
  obtain ⟨a, len, cap, rfl⟩ := okWide_slice Try.underlying40 hv
  obtain ⟨fuel, hf⟩ := h
  exact open_steps_at (by simpa [Value.cells] using hf)
end Go.Proofs.Ytfkdcjkkmfhalaa
