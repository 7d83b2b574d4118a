/- A slice of sites that comes in, opened, the first ten sites read whatever its length; a procedure; a report. -/
import Derived.Test.YtijhkgabonkmfaaOpen
import Derived.Test.YtijhkgabonkmfaaSites
import Derived.Test.YtijhkgabonkmfaaSwP
namespace Go.Proofs.Ytijhkgabonkmfaa
open Go.ChangeShapes Go.WideShapes Go.ChangeAt Go.RowKit Go.Deep Go.Joins
set_option linter.unusedVariables false
set_option linter.unusedSimpArgs false
set_option maxRecDepth 100000
theorem list_of' {α : Type} {z : α} {Q : Nat → α → Prop} (n : Nat) (h : ∀ i, i < n → ∃ x, Q i x) : ∃ l : List α, l.length = n ∧ ∀ i, i < n → Q i (l.getD i z) := by
  induction n with
  | zero => exact ⟨[], rfl, fun i hi => by omega⟩
  | succ n ih =>
    obtain ⟨l, hl, hq⟩ := ih fun i hi => h i (by omega)
    obtain ⟨x, hx⟩ := h n (by omega)
    refine ⟨l ++ [x], by simp [hl], fun i hi => ?_⟩
    by_cases e : i < n
    · have := hq i e
      rwa [show (l ++ [x]).getD i z = l.getD i z by simp [List.getD_eq_getElem?_getD, List.getElem?_append_left (by omega : i < l.length)]]
    · have : i = n := by omega
      subst this
      subst hl
      simpa [List.getD_eq_getElem?_getD] using hx
theorem addr_add0 (b o j : Nat) : (⟨b, o, none⟩ : Addr).add j = ⟨b, o + j, none⟩ := by unfold Addr.add; split <;> simp_all
theorem open_sites10 {H : Type} {enc : TypeId × Value → H} {w : World} {r : Reach} {b0 base : Nat} {held : Bool} {v : Value} {d : DataW H} {p : List MemPlace} (hv : Value.okWide Try.prog w r b0 22 v) (h : DataW.Trod enc Try.prog w base (fun _ => true) held 22 v d p) :
    ∃ (A : Option Addr) (c : Nat) (l : List Site), v = .slice A l.length c ∧ (l.length ≤ 1000000 → SitesAt 20 w A c l) ∧ SitesAt 20 w A c (l.take 10) := by
  obtain ⟨a0, len0, cap0, rfl⟩ := okWide_slice Try.underlying22 hv
  obtain ⟨fuel, hf0⟩ := h
  have hf : DataW.trod enc Try.prog w base (fun _ => true) held fuel 22 [.slice a0 len0 cap0] = some (d, p) := by simpa [Value.cells] using hf0
  rcases open_slice_fields Try.underlying22 Try.underlying57 (by kernel_rfl) (by kernel_rfl) hf with ⟨hcs, _⟩ | ⟨a, len, cap, m, D, Pl, hcs, _, hl, _, hm, _, hi⟩
  · have hv : Value.slice a0 len0 cap0 = .slice none 0 0 := by simpa using hcs
    exact ⟨none, 0, [], hv, fun _ => SitesAt.nil 20 w, SitesAt.nil 20 w⟩
  · have hv : Value.slice a0 len0 cap0 = .slice (some a) len cap := by simpa using hcs
    simp only [if_true] at hm
    have hex : ∀ i, i < len → ∃ x : Site, ∃ (A' : Option Addr) (c' : Nat), w.cell? (a.add (i * 8 + 0)) = some (.int .i64 x.nu) ∧ w.cell? (a.add (i * 8 + 1)) = some (.int .i64 x.ro) ∧ w.cell? (a.add (i * 8 + 2)) = some (.int .i64 x.ep) ∧ w.cell? (a.add (i * 8 + 3)) = some (.int .i64 x.ap) ∧ w.cell? (a.add (i * 8 + 4)) = some (.slice A' x.li.length c') ∧
        w.cell? (a.add (i * 8 + 5)) = some (.int .i64 x.so) ∧ w.cell? (a.add (i * 8 + 6)) = some (.bool x.al) ∧ w.cell? (a.add (i * 8 + 7)) = some (.bool x.co) ∧ (x.li.length ≤ 20 → SpansAt w A' c' x.li) := by
      intro i hil
      obtain ⟨ys, k, _, _, _, hf⟩ := hi i (by omega)
      obtain ⟨v0, y0, h0, _, t0⟩ := hf 0 _ rfl
      obtain ⟨v1, y1, h1, _, t1⟩ := hf 1 _ rfl
      obtain ⟨v2, y2, h2, _, t2⟩ := hf 2 _ rfl
      obtain ⟨v3, y3, h3, _, t3⟩ := hf 3 _ rfl
      obtain ⟨v4, y4, h4, _, t4⟩ := hf 4 _ rfl
      obtain ⟨v5, y5, h5, _, t5⟩ := hf 5 _ rfl
      obtain ⟨v6, y6, h6, _, t6⟩ := hf 6 _ rfl
      obtain ⟨v7, y7, h7, _, t7⟩ := hf 7 _ rfl
      obtain ⟨x0, rfl⟩ := trod_int_cell Try.underlying3 t0
      obtain ⟨x1, rfl⟩ := trod_int_cell Try.underlying3 t1
      obtain ⟨x2, rfl⟩ := trod_int_cell Try.underlying3 t2
      obtain ⟨x3, rfl⟩ := trod_int_cell Try.underlying3 t3
      obtain ⟨A', c', l', rfl, hl'⟩ := open_lineage t4
      obtain ⟨x5, rfl⟩ := trod_int_cell Try.underlying3 t5
      obtain ⟨x6, rfl⟩ := trod_bool_cell Try.underlying4 t6
      obtain ⟨x7, rfl⟩ := trod_bool_cell Try.underlying4 t7
      exact ⟨⟨x0, x1, x2, x3, l', x5, x6, x7⟩, A', c', h0, h1, h2, h3, h4, h5, h6, h7, hl'⟩
    obtain ⟨l, hll, hq⟩ := list_of' (z := zS) len hex
    subst hll
    have key : ∀ L : List Site, L.length ≤ l.length → L.length ≤ 1000000 → (∀ i, i < L.length → L.getD i zS = l.getD i zS) → SitesAt 20 w (some a) cap L := by
      intro L hL h20 hg
      refine ⟨by omega, by omega, fun hp => ?_⟩
      obtain ⟨b, o, sp⟩ := a
      have hs : sp = none := by
        obtain ⟨_, _, this, _⟩ := hq 0 (by omega)
        simpa [Addr.add] using World.cell?_spot this
      subst hs
      refine ⟨b, o, rfl, fun i hil => ?_⟩
      obtain ⟨A', c', this⟩ := hq i (by omega)
      simp only [addr_add0, Nat.add_zero, ← Nat.add_assoc] at this
      rw [hg i hil]
      exact ⟨A', c', this⟩
    refine ⟨some a, cap, l, hv, fun h20 => key l (Nat.le_refl _) h20 (fun _ _ => rfl), key (l.take 10) (by simp; omega) (by simp; omega) (fun i hi => ?_)⟩
    have : i < 10 := by simp at hi; omega
    simp [List.getD_eq_getElem?_getD, List.getElem?_take, this]
theorem open_proc {H : Type} {enc : TypeId × Value → H} {w : World} {r : Reach} {b0 base : Nat} {held : Bool} {v : Value} {d : DataW H} {p : List MemPlace} (hv : Value.okWide Try.prog w r b0 26 v) (h : DataW.Trod enc Try.prog w base (fun _ => true) held 26 v d p) :
    ∃ q : Proc, v = .agg #[.int .i64 q.ki, .int .i64 q.fr, .int .i64 q.to_, .int .i64 q.st, .int .i64 q.ep, .int .i64 q.cy, .bool q.dn, .bool q.fa] := by
  obtain ⟨v0, v1, v2, v3, v4, v5, v6, v7, y0, y1, y2, y3, y4, y5, y6, y7, n, rfl, h0, h1, h2, h3, h4, h5, h6, h7⟩ := open_agg8 Try.underlying26 (by kernel_rfl) (by kernel_rfl) hv h
  obtain ⟨x0, rfl⟩ := trod_int_cell Try.underlying3 h0
  obtain ⟨x1, rfl⟩ := trod_int_cell Try.underlying3 h1
  obtain ⟨x2, rfl⟩ := trod_int_cell Try.underlying3 h2
  obtain ⟨x3, rfl⟩ := trod_int_cell Try.underlying3 h3
  obtain ⟨x4, rfl⟩ := trod_int_cell Try.underlying3 h4
  obtain ⟨x5, rfl⟩ := trod_int_cell Try.underlying3 h5
  obtain ⟨x6, rfl⟩ := trod_bool_cell Try.underlying4 h6
  obtain ⟨x7, rfl⟩ := trod_bool_cell Try.underlying4 h7
  exact ⟨⟨x0, x1, x2, x3, x4, x5, x6, x7⟩, rfl⟩
theorem open_agg2 {H : Type} {enc : TypeId × Value → H} {P : Program} {w : World} {base : Nat} {spare : Nat → Bool} {held : Bool} {r : Reach} {b0 : Nat} {t : TypeId} {f0 f1 : Field} {v : Value} {d : DataW H} {p : List MemPlace} (hs : P.underlying t = some (.struct #[f0, f1])) (hone : oneCellFields P #[f0, f1] = true) (hC : P.cellsOf t = 2)
    (hv : Value.okWide P w r b0 t v) (h : DataW.Trod enc P w base spare held t v d p) :
    ∃ (v0 v1 : Value) (y0 y1 : DataW H × List MemPlace) (n : Nat), v = .agg #[v0, v1] ∧
      DataW.trod enc P w base spare held n f0.type [v0] = some y0 ∧ DataW.trod enc P w base spare held n f1.type [v1] = some y1 := by
  obtain ⟨cs, rfl, hsz⟩ := okWide_struct hs hv
  obtain ⟨l⟩ := cs
  match l, hsz.trans hC with
  | [c0, c1], _ =>
    obtain ⟨fuel, hf⟩ := h
    obtain ⟨xs, n, _, hx, _, hlen, hg⟩ := DataW.trod_struct hs hf
    obtain ⟨o0, k0⟩ := hone_of hone 0 f0 rfl
    obtain ⟨o1, k1⟩ := hone_of hone 1 f1 rfl
    match xs, hlen with
    | [y0, y1], _ => exact ⟨c0, c1, y0, y1, n, rfl, by simpa [Value.cells, o0, k0] using hg 0 f0 rfl, by simpa [Value.cells, o1, k1] using hg 1 f1 rfl⟩
theorem open_report {H : Type} {enc : TypeId × Value → H} {w : World} {r : Reach} {b0 base : Nat} {held : Bool} {v : Value} {d : DataW H} {p : List MemPlace} (hv : Value.okWide Try.prog w r b0 39 v) (h : DataW.Trod enc Try.prog w base (fun _ => true) held 39 v d p) :
    ∃ (ok : Bool) (x : Int), v = .agg #[.bool ok, .int .i64 x] := by
  obtain ⟨v0, v1, y0, y1, n, rfl, h0, h1⟩ := open_agg2 Try.underlying39 (by kernel_rfl) (by kernel_rfl) hv h
  obtain ⟨x0, rfl⟩ := trod_bool_cell Try.underlying4 h0
  obtain ⟨x1, rfl⟩ := trod_int_cell Try.underlying3 h1
  exact ⟨x0, x1, rfl⟩
end Go.Proofs.Ytijhkgabonkmfaa
