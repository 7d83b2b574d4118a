/- Words for the walks: facts kept from the walk, lineages in memory, closers. -/
import Derived.Test.YtijhkgabonkmfaaProg
import Derived.Test.YtijhkgabonkmfaaData
import Derived.WalkKit
import Derived.KernelRfl
import Derived.RowKit3
import Derived.Below
import Derived.Deep.Draws
import Derived.Deep.LoopGhost
import Derived.Deep.QuietTactic
import Derived.BigQuiet
import Derived.Outline
import Derived.Deep.RegionHeld3
import Derived.Deep.DeepCutAuto
import Derived.Deep.CutBlock
import Derived.Laws.OwnMore
import Derived.Deep.OwnRows
import Derived.Maps.AppendAt
namespace Go.Proofs.Ytijhkgabonkmfaa
open Go.RowKit
/-- A fact that the walk's simp does not look into. -/
structure Keep (p : Prop) : Prop where
  mk ::
  out : p
theorem ret_bool {a b : Bool} (h : a = b) : Ending.returned (.bool a) = .returned (.bool b) := by rw [h]
theorem ret_int {k : IntKind} {a b : Int} (h : a = b) : Ending.returned (.int k a) = .returned (.int k b) := by rw [h]
theorem below_new {w W : World} (h : Below w.heap.size w W) (o : Obj) : Below w.heap.size w (W.alloc o) := h.alloc h.size o
theorem below_drewN {w W : World} (h : Below w.heap.size w W) (n : Nat) : Below w.heap.size w (W.drewN n) := ⟨h.os, h.tape, h.output, h.size, h.block⟩
theorem below_drew {w W : World} (h : Below w.heap.size w W) : Below w.heap.size w W.drew := ⟨h.os, h.tape, h.output, h.size, h.block⟩
theorem below_set {w W : World} (h : Below w.heap.size w W) {b o : Nat} (hb : w.heap.size ≤ b) (u : Value) : Below w.heap.size w (W.setCell ⟨b, o, none⟩ u) := h.setCell hb u
theorem below_then {w w1 w2 : World} (h : Below w.heap.size w w1) (k : Below w1.heap.size w1 w2) : Below w.heap.size w w2 := h.trans (k.mono h.size)
/-- Behind a call: old cells and marks read as before. -/
theorem bcell {W w1 : World} (hb : Below W.heap.size W w1) : (∀ b o, b < W.heap.size → w1.cell? ⟨b, o, none⟩ = W.cell? ⟨b, o, none⟩) ∧ (∀ b o, b < W.heap.size → w1.frozen? ⟨b, o, none⟩ = W.frozen? ⟨b, o, none⟩) :=
  ⟨fun b o h => hb.cell (p := ⟨b, o, none⟩) h, fun b o h => hb.frozen (p := ⟨b, o, none⟩) h⟩
theorem max2_int (k k' : IntKind) (x y : Int) : Builtin.max2 (.int k x) (.int k' y) = pure (.int k (if x < y then y else x)) := by simp only [Builtin.max2, gt_iff_lt]
theorem min2_int (k k' : IntKind) (x y : Int) : Builtin.min2 (.int k x) (.int k' y) = pure (.int k (if y < x then y else x)) := by simp only [Builtin.min2]
theorem max_two (ats : Array TypeId) (ty : TypeId) (a b : Value) : Builtin.max_ ats ty #[a, b] = (Builtin.max2 a b >>= fun s => pure s) := by simp only [Builtin.max_, List.foldlM_cons, List.foldlM_nil]
theorem min_two (ats : Array TypeId) (ty : TypeId) (a b : Value) : Builtin.min_ ats ty #[a, b] = (Builtin.min2 a b >>= fun s => pure s) := by simp only [Builtin.min_, List.foldlM_cons, List.foldlM_nil]

/-- The slice at A, of capacity c, reads as the lineage l. -/
def SpansAt (w : World) (A : Option Addr) (c : Nat) (l : List Span) : Prop :=
  l.length ≤ c ∧ l.length ≤ 5864062014634 ∧ (0 < l.length → ∃ b o, A = some ⟨b, o, none⟩ ∧ ∀ i, i < l.length →
    w.cell? ⟨b, o + i * 3, none⟩ = some (.int .i64 (l.getD i .z).ep) ∧ w.cell? ⟨b, o + i * 3 + 1, none⟩ = some (.int .i64 (l.getD i .z).fr) ∧ w.cell? ⟨b, o + i * 3 + 2, none⟩ = some (.int .i64 (l.getD i .z).to_))
theorem SpansAt.len {w : World} {A : Option Addr} {c : Nat} {l : List Span} (h : SpansAt w A c l) : l.length ≤ 5864062014634 := h.2.1
theorem SpansAt.nil (w : World) : SpansAt w none 0 [] := ⟨by simp, by simp, by simp⟩
theorem SpansAt.at_ {w : World} {A : Option Addr} {c : Nat} {l : List Span} (h : SpansAt w A c l) (i : Nat) (hi : i < l.length) : ∃ b o, A = some ⟨b, o, none⟩ ∧ b < w.heap.size ∧
    w.cell? ⟨b, o + i * 3, none⟩ = some (.int .i64 (l.getD i .z).ep) ∧ w.cell? ⟨b, o + i * 3 + 1, none⟩ = some (.int .i64 (l.getD i .z).fr) ∧ w.cell? ⟨b, o + i * 3 + 2, none⟩ = some (.int .i64 (l.getD i .z).to_) := by
  obtain ⟨b, o, e, hc⟩ := h.2.2 (by omega)
  exact ⟨b, o, e, World.block_lt_of_cell? w _ (hc i hi).1, hc i hi⟩
theorem SpansAt.below {w w' : World} {A : Option Addr} {c : Nat} {l : List Span} (h : SpansAt w A c l) (hb : Below w.heap.size w w') : SpansAt w' A c l := by
  refine ⟨h.1, h.2.1, fun hn => ?_⟩
  obtain ⟨b, o, e, hc⟩ := h.2.2 hn
  refine ⟨b, o, e, fun i hi => ?_⟩
  obtain ⟨c0, c1, c2⟩ := hc i hi
  have hlt : b < w.heap.size := World.block_lt_of_cell? w _ c0
  exact ⟨(hb.cell (p := ⟨b, _, none⟩) hlt).trans c0, (hb.cell (p := ⟨b, _, none⟩) hlt).trans c1, (hb.cell (p := ⟨b, _, none⟩) hlt).trans c2⟩
theorem SpansAt.alloc {w : World} {A : Option Addr} {c : Nat} {l : List Span} (h : SpansAt w A c l) (o : Obj) : SpansAt (w.alloc o) A c l := h.below ((Below.refl _ _).alloc (Nat.le_refl _) o)
theorem drop_getD {l : List Span} {k : Nat} (h : k < l.length) {x : Span} (hx : l.getD k .z = x) : l.drop k = x :: l.drop (k + 1) := by
  rw [List.drop_eq_getElem_cons h]; congr 1; rw [← hx]; simp [List.getD_eq_getElem?_getD, List.getElem?_eq_getElem h]
/-- Block g holds the cells cs; below the start of the call all is as it was. -/
structure Held (w0 : World) (g : Nat) (cs : List Value) (t : TypeId) (W : World) : Prop where
  blk : W.heap[g]? = some (.cells cs.toArray t (0, 0))
  ge : w0.heap.size ≤ g
  bel : Below w0.heap.size w0 W
theorem Held.lt {w0 W : World} {g : Nat} {cs : List Value} {t : TypeId} (h : Held w0 g cs t W) : g < W.heap.size := (Array.getElem?_eq_some_iff.1 h.blk).1
theorem Held.cell {w0 W : World} {g : Nat} {cs : List Value} {t : TypeId} (h : Held w0 g cs t W) (j : Nat) (v : Value) (hv : cs[j]? = some v) : W.cell? ⟨g, j, none⟩ = some v := by
  rw [cell_of_row W g j cs.toArray t (0, 0) h.blk]; simpa using hv
theorem Held.frozen {w0 W : World} {g : Nat} {cs : List Value} {t : TypeId} (h : Held w0 g cs t W) (j : Nat) : W.frozen? ⟨g, j, none⟩ = false := frozen_of_row W g j cs.toArray t h.blk
theorem Held.c8 {w0 W : World} {g : Nat} {v0 v1 v2 v3 v4 v5 v6 v7 : Value} {t : TypeId} (h : Held w0 g [v0, v1, v2, v3, v4, v5, v6, v7] t W) :
    (W.cell? ⟨g, 0, none⟩ = some v0 ∧ W.cell? ⟨g, 1, none⟩ = some v1 ∧ W.cell? ⟨g, 2, none⟩ = some v2 ∧ W.cell? ⟨g, 3, none⟩ = some v3 ∧ W.cell? ⟨g, 4, none⟩ = some v4 ∧ W.cell? ⟨g, 5, none⟩ = some v5 ∧ W.cell? ⟨g, 6, none⟩ = some v6 ∧ W.cell? ⟨g, 7, none⟩ = some v7) ∧ ∀ j, W.frozen? ⟨g, j, none⟩ = false :=
  ⟨⟨h.cell 0 _ rfl, h.cell 1 _ rfl, h.cell 2 _ rfl, h.cell 3 _ rfl, h.cell 4 _ rfl, h.cell 5 _ rfl, h.cell 6 _ rfl, h.cell 7 _ rfl⟩, h.frozen⟩
theorem Held.step {w0 W W' : World} {g : Nat} {cs : List Value} {t : TypeId} (h : Held w0 g cs t W) (hb : Below W.heap.size W W') : Held w0 g cs t W' :=
  ⟨(hb.block g h.lt).trans h.blk, h.ge, below_then h.bel hb⟩
theorem Held.drew {w0 W : World} {g : Nat} {cs : List Value} {t : TypeId} (h : Held w0 g cs t W) : Held w0 g cs t W.drew := ⟨h.blk, h.ge, below_drew h.bel⟩
theorem Held.drewN {w0 W : World} {g : Nat} {cs : List Value} {t : TypeId} (h : Held w0 g cs t W) (n : Nat) : Held w0 g cs t (W.drewN n) := ⟨h.blk, h.ge, below_drewN h.bel n⟩
theorem Held.new {w0 W : World} (h : Below w0.heap.size w0 W) (cs : List Value) (t : TypeId) : Held w0 W.heap.size cs t (W.alloc (.cells cs.toArray t)) := ⟨heap_alloc_new W _, h.size, below_new h _⟩
theorem Held.alloc {w0 W : World} {g : Nat} {cs : List Value} {t : TypeId} (h : Held w0 g cs t W) (o : Obj) : Held w0 g cs t (W.alloc o) := ⟨(heap_alloc_old W o h.lt).trans h.blk, h.ge, below_new h.bel o⟩
theorem Held.set {w0 W : World} {g : Nat} {cs : List Value} {t : TypeId} (h : Held w0 g cs t W) (j : Nat) (v : Value) : Held w0 g (cs.set j v) t (W.setCell ⟨g, j, none⟩ v) :=
  ⟨by rw [heap_setCell_same W g j cs.toArray t v h.blk]; simp, h.ge, below_set h.bel h.ge v⟩
theorem Held.setOther {w0 W : World} {g : Nat} {cs : List Value} {t : TypeId} (h : Held w0 g cs t W) {b j : Nat} (hb : w0.heap.size ≤ b) (hne : g ≠ b) (v : Value) : Held w0 g cs t (W.setCell ⟨b, j, none⟩ v) :=
  ⟨by rw [heap_setCell_other W ⟨b, j, none⟩ g v hne]; exact h.blk, h.ge, below_set h.bel hb v⟩
theorem results_row_tmp {P : Program} {fn : Func} {p u : Tmp} {ty : TypeId} (h : fn.results = #[.cell p ty, .tmp u]) (tmps : Array Value) (w : World) (g : Nat) (t : TypeId) (cs : Array Value) (d : TypeDesc)
    (hp : tmps.getD p undef = .pointer (some ⟨g, 0, none⟩)) (hg : w.heap[g]? = some (.cells cs t (0, 0)))
    (hu : P.underlying ty = some d) (hd : (match d with | .struct _ | .array _ _ => true | _ => false) = true) (hi : (P.info? ty).map (·.size) = some cs.size) :
    (results fn tmps).run P w = .ok (.tuple #[.agg cs, tmps.getD u undef]) w := by
  have hp' : tmps[p]?.getD undef = .pointer (some ⟨g, 0, none⟩) := by simpa using hp
  rw [results_cell_tmp h]
  simp [hp', asAddr, run_loadVar_row w g t ty cs (0, 0) d hg hu hd hi, Result.andThen]

/-! ### a lineage of the call's own -/
def spanCells (l : List Span) : List Value := l.flatMap fun x => [.int .i64 x.ep, .int .i64 x.fr, .int .i64 x.to_]
theorem spanCells_length (l : List Span) : (spanCells l).length = l.length * 3 := by
  induction l with
  | nil => rfl
  | cons x r ih => simp only [spanCells, List.flatMap_cons, List.length_append, List.length_cons, List.length_nil] at ih ⊢; omega
theorem spanCells_at (l : List Span) : ∀ i, i < l.length → (spanCells l)[i * 3]? = some (.int .i64 (l.getD i .z).ep) ∧ (spanCells l)[i * 3 + 1]? = some (.int .i64 (l.getD i .z).fr) ∧ (spanCells l)[i * 3 + 2]? = some (.int .i64 (l.getD i .z).to_) := by
  induction l with
  | nil => intro i h; simp at h
  | cons x r ih =>
    intro i h
    rcases i with _ | i
    · simp [spanCells]
    · have := ih i (by simpa using h)
      have e : ∀ j, (spanCells (x :: r))[(i + 1) * 3 + j]? = (spanCells r)[i * 3 + j]? := by
        intro j
        show ([Value.int .i64 x.ep, Value.int .i64 x.fr, Value.int .i64 x.to_] ++ spanCells r)[(i + 1) * 3 + j]? = _
        rw [List.getElem?_append_right (by simp; omega)]
        congr 1
        simp
        omega
      have e0 := e 0
      simp only [Nat.add_zero] at e0
      rw [e0, e 1, e 2]
      simpa using this
theorem spanCells_one (l : List Span) : ∀ u ∈ spanCells l, u.oneCell' = true := by
  intro u hu
  simp only [spanCells, List.mem_flatMap] at hu
  obtain ⟨x, _, hx⟩ := hu
  simp at hx
  rcases hx with rfl | rfl | rfl <;> rfl
theorem spanCells_append (l m : List Span) : spanCells (l ++ m) = spanCells l ++ spanCells m := by simp [spanCells]
def OwnSp (W : World) (base : Nat) (A : Option Addr) (c : Nat) (l : List Span) : Prop := W.ownsRow base 88 3 (.slice A l.length c) l.length (spanCells l) ∧ l.length ≤ 5864062014634 ∧ l.length ≤ c
theorem OwnSp.reads {W : World} {base : Nat} {A : Option Addr} {c : Nat} {l : List Span} (h : OwnSp W base A c l) : SpansAt W A c l := by
  refine ⟨h.2.2, h.2.1, fun hn => ?_⟩
  rcases h.1.2 with ⟨hv, h0⟩ | ⟨g, cap, cur, hv, _⟩
  · omega
  · injection hv with hA
    refine ⟨g, 0, hA, fun i hi => ?_⟩
    have hc := h.1.cells (g := g) (by rw [hA]; rfl)
    obtain ⟨a0, a1, a2⟩ := spanCells_at l i hi
    have p0 := hc _ _ a0
    have p1 := hc _ _ a1
    have p2 := hc _ _ a2
    have ea : ∀ j, (⟨g, 0, none⟩ : Addr).add j = ⟨g, j, none⟩ := fun j => by unfold Addr.add; split <;> simp_all
    rw [ea] at p0 p1 p2
    simp only [Nat.zero_add]
    exact ⟨p0, p1, p2⟩
theorem OwnSp.nil (W : World) (base : Nat) : OwnSp W base none 0 [] := ⟨World.ownsRow_nil W base _ 3, by simp, by simp⟩
theorem OwnSp.step {W W' : World} {base : Nat} {A : Option Addr} {c : Nat} {l : List Span} (h : OwnSp W base A c l) (hb : Below W.heap.size W W') : OwnSp W' base A c l :=
  ⟨h.1.kept (row := none) ⟨hb.os, hb.tape, hb.output, hb.size, fun k hk _ => hb.block k hk⟩ (by cases (Value.slice A l.length c).ownBlock <;> simp), h.2⟩
theorem OwnSp.mono {W : World} {base base' : Nat} {A : Option Addr} {c : Nat} {l : List Span} (h : OwnSp W base A c l) (hb : base' ≤ base) : OwnSp W base' A c l := by
  refine ⟨⟨h.1.1, ?_⟩, h.2⟩
  rcases h.1.2 with h' | ⟨g, cap, cur, e, hg, rest⟩
  · exact .inl h'
  · exact .inr ⟨g, cap, cur, e, by omega, rest⟩
/-- A store into a block of another type leaves it alone. -/
theorem OwnSp.setOther {W : World} {base : Nat} {A : Option Addr} {c : Nat} {l : List Span} (h : OwnSp W base A c l) {g j : Nat} {cs : Array Value} {t : TypeId} (hg : W.heap[g]? = some (.cells cs t (0, 0))) (ht : t ≠ 88) (v : Value) : OwnSp (W.setCell ⟨g, j, none⟩ v) base A c l := by
  refine ⟨h.1.kept (row := some g) ⟨rfl, rfl, rfl, by simp, fun k hk hne => heap_setCell_other W ⟨g, j, none⟩ k v (fun e => hne (by rw [e]))⟩ ?_, h.2⟩
  rcases h.1.2 with ⟨hv, _⟩ | ⟨b, cap, cur, hv, hb, hbb, _⟩
  · left; rw [hv]; rfl
  · right; rw [hv]
    intro e
    have : b = g := by simpa [Value.ownBlock] using e
    subst this
    rw [hbb] at hg
    injection hg with hg
    injection hg with _ hg
    exact ht hg.symm
end Go.Proofs.Ytijhkgabonkmfaa
