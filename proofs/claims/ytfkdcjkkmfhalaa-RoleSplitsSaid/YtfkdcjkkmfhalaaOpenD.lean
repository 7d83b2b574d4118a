/- A slice of slices of transitions that comes in, opened. -/
import Derived.Test.YtfkdcjkkmfhalaaOpenC
import Derived.Test.YtfkdcjkkmfhalaaSitesB
namespace Go.Proofs.Ytfkdcjkkmfhalaa
open Go.ChangeShapes Go.WideShapes Go.ChangeAt Go.RowKit Go.Deep Go.Joins
set_option linter.unusedVariables false
theorem cells_steps : Try.prog.cellsOf 40 = 1 := by kernel_rfl
theorem open_stepss {H : Type} {enc : TypeId × Value → H} {w : World} {r : Reach} {b0 base : Nat} {held : Bool} {v : Value} {d : DataW H} {p : List MemPlace} (hv : Value.okWide Try.prog w r b0 55 v) (h : DataW.Trod enc Try.prog w base (fun _ => true) held 55 v d p) :
    ∃ (A : Option Addr) (c : Nat) (l : List (List StepS)), v = .slice A l.length c ∧ (l.length ≤ 1000000 → StepssAt w A c l) := by
  obtain ⟨a0, len0, cap0, rfl⟩ := okWide_slice Try.underlying55 hv
  obtain ⟨fuel, hf0⟩ := h
  have hf : DataW.trod enc Try.prog w base (fun _ => true) held fuel 55 [.slice a0 len0 cap0] = some (d, p) := by simpa [Value.cells] using hf0
  rcases open_slice Try.underlying55 hf with ⟨hcs, _⟩ | ⟨a, len, cap, m, n, D, Pl, hcs, _, hl, _, hm, _, hi⟩
  · have hv : Value.slice a0 len0 cap0 = .slice none 0 0 := by simpa using hcs
    exact ⟨none, 0, [], hv, fun _ => StepssAt.nil w⟩
  · have hv : Value.slice a0 len0 cap0 = .slice (some a) len cap := by simpa using hcs
    simp only [if_true] at hm
    have hex : ∀ i, i < len → ∃ x : List StepS, ∃ (A' : Option Addr) (c' : Nat), w.cell? (a.add i) = some (.slice A' x.length c') ∧ (x.length ≤ 1000000 → StepsAt w A' c' x) := by
      intro i hil
      obtain ⟨cs', hc, ht⟩ := hi i (by omega)
      rw [cells_steps] at hc
      obtain ⟨_, hcl, hat⟩ := World.cells?_some hc
      match cs', hcl with
      | [v], _ =>
        obtain ⟨A', c', x, rfl, hx⟩ := open_steps_at ht
        refine ⟨x, A', c', ?_, hx⟩
        have := hat 0 (by omega)
        rw [Go.Deep.add_add] at this
        simpa using this
    obtain ⟨l, hll, hq⟩ := list_of' (z := []) len hex
    subst hll
    refine ⟨some a, cap, l, hv, fun h20 => ⟨hl, by omega, fun hp => ?_⟩⟩
    obtain ⟨b, o, sp⟩ := a
    have hs : sp = none := by
      obtain ⟨_, _, this, _⟩ := hq 0 hp
      simpa [Addr.add] using World.cell?_spot this
    subst hs
    refine ⟨b, o, rfl, fun i hil => ?_⟩
    obtain ⟨A', c', h1, h2⟩ := hq i hil
    rw [addr_add0] at h1
    exact ⟨A', c', h1, h2⟩
end Go.Proofs.Ytfkdcjkkmfhalaa
