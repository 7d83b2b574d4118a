/- A slice of sites that comes in, opened. -/
import Derived.Test.YtfkdcjkkmfhalaaOpenB
import Derived.Test.YtfkdcjkkmfhalaaSites
namespace Go.Proofs.Ytfkdcjkkmfhalaa
open Go.ChangeShapes Go.WideShapes Go.ChangeAt Go.RowKit Go.Deep Go.Joins
set_option linter.unusedVariables false
theorem open_sites {H : Type} {enc : TypeId × Value → H} {w : World} {r : Reach} {b0 base : Nat} {held : Bool} {v : Value} {d : DataW H} {p : List MemPlace} (hv : Value.okWide Try.prog w r b0 48 v) (h : DataW.Trod enc Try.prog w base (fun _ => true) held 48 v d p) :
    ∃ (A : Option Addr) (c : Nat) (l : List Site), v = .slice A l.length c ∧ (l.length ≤ 1000000 → SitesAt 20 w A c l) := by
  obtain ⟨a0, len0, cap0, rfl⟩ := okWide_slice Try.underlying48 hv
  obtain ⟨fuel, hf0⟩ := h
  have hf : DataW.trod enc Try.prog w base (fun _ => true) held fuel 48 [.slice a0 len0 cap0] = some (d, p) := by simpa [Value.cells] using hf0
  rcases open_slice_fields Try.underlying48 Try.underlying24 (by kernel_rfl) (by kernel_rfl) hf with ⟨hcs, _⟩ | ⟨a, len, cap, m, D, Pl, hcs, _, hl, _, hm, _, hi⟩
  · have hv : Value.slice a0 len0 cap0 = .slice none 0 0 := by simpa using hcs
    exact ⟨none, 0, [], hv, fun _ => SitesAt.nil 20 w⟩
  · have hv : Value.slice a0 len0 cap0 = .slice (some a) len cap := by simpa using hcs
    simp only [if_true] at hm
    have hex : ∀ i, i < len → ∃ x : Site, ∃ (A' : Option Addr) (c' : Nat), w.cell? (a.add (i * 8 + 0)) = some (.int .i64 x.nu) ∧ w.cell? (a.add (i * 8 + 1)) = some (.int .i64 x.ro) ∧ w.cell? (a.add (i * 8 + 2)) = some (.int .i64 x.ep) ∧ w.cell? (a.add (i * 8 + 3)) = some (.int .i64 x.ap) ∧ w.cell? (a.add (i * 8 + 4)) = some (.slice A' x.li.length c') ∧
        w.cell? (a.add (i * 8 + 5)) = some (.int .i64 x.so) ∧ w.cell? (a.add (i * 8 + 6)) = some (.bool x.al) ∧ w.cell? (a.add (i * 8 + 7)) = some (.bool x.co) ∧ (x.li.length ≤ 20 → SpansAt w A' c' x.li) := by
      intro i hil
      obtain ⟨ys, k, _, _, _, hf⟩ := hi i (by omega)
      obtain ⟨v0, y0, h0, _, t0⟩ := hf 0 _ rfl
      obtain ⟨v1, y1, h1, _, t1⟩ := hf 1 _ rfl
      obtain ⟨v2, y2, h2, _, t2⟩ := hf 2 _ rfl
      obtain ⟨v3, y3, h3, _, t3⟩ := hf 3 _ rfl
      obtain ⟨v4, y4, h4, _, t4⟩ := hf 4 _ rfl
      obtain ⟨v5, y5, h5, _, t5⟩ := hf 5 _ rfl
      obtain ⟨v6, y6, h6, _, t6⟩ := hf 6 _ rfl
      obtain ⟨v7, y7, h7, _, t7⟩ := hf 7 _ rfl
      obtain ⟨x0, rfl⟩ := trod_int_cell Try.underlying3 t0
      obtain ⟨x1, rfl⟩ := trod_int_cell Try.underlying3 t1
      obtain ⟨x2, rfl⟩ := trod_int_cell Try.underlying3 t2
      obtain ⟨x3, rfl⟩ := trod_int_cell Try.underlying3 t3
      obtain ⟨A', c', l', rfl, hl'⟩ := open_lineage t4
      obtain ⟨x5, rfl⟩ := trod_int_cell Try.underlying3 t5
      obtain ⟨x6, rfl⟩ := trod_bool_cell Try.underlying4 t6
      obtain ⟨x7, rfl⟩ := trod_bool_cell Try.underlying4 t7
      exact ⟨⟨x0, x1, x2, x3, l', x5, x6, x7⟩, A', c', h0, h1, h2, h3, h4, h5, h6, h7, hl'⟩
    obtain ⟨l, hll, hq⟩ := list_of' (z := zS) len hex
    subst hll
    refine ⟨some a, cap, l, hv, fun h20 => ⟨hl, by omega, fun hp => ?_⟩⟩
    obtain ⟨b, o, sp⟩ := a
    have hs : sp = none := by
      obtain ⟨_, _, this, _⟩ := hq 0 hp
      simpa [Addr.add] using World.cell?_spot this
    subst hs
    refine ⟨b, o, rfl, fun i hil => ?_⟩
    obtain ⟨A', c', this⟩ := hq i hil
    simp only [addr_add0, Nat.add_zero, ← Nat.add_assoc] at this
    exact ⟨A', c', this⟩
end Go.Proofs.Ytfkdcjkkmfhalaa
