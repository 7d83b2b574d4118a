/- A slice of sites of the call's own: what it owns, how it grows; slices of slices of transitions. -/
import Derived.Test.YtijhkgabonkmfaaSites
namespace Go.Proofs.Ytijhkgabonkmfaa
open Go.RowKit
set_option linter.unusedSimpArgs false
set_option linter.unusedVariables false
/-- A site as a value in memory. -/
structure Sv where
  s : Site
  A : Option Addr
  c : Nat
def zSv : Sv := ⟨zS, none, 0⟩
def svRow (x : Sv) : List Value := [.int .i64 x.s.nu, .int .i64 x.s.ro, .int .i64 x.s.ep, .int .i64 x.s.ap, .slice x.A x.s.li.length x.c, .int .i64 x.s.so, .bool x.s.al, .bool x.s.co]
def svCells (l : List Sv) : List Value := l.flatMap svRow
theorem svCells_length (l : List Sv) : (svCells l).length = l.length * 8 := by
  induction l with
  | nil => rfl
  | cons x r ih => simp only [svCells, svRow, List.flatMap_cons, List.length_append, List.length_cons, List.length_nil] at ih ⊢; omega
theorem svCells_append (l m : List Sv) : svCells (l ++ m) = svCells l ++ svCells m := by simp [svCells]
theorem svCells_at (l : List Sv) : ∀ i, i < l.length → ∀ j, j < 8 → (svCells l)[i * 8 + j]? = (svRow (l.getD i zSv))[j]? := by
  induction l with
  | nil => intro i h; simp at h
  | cons x r ih =>
    intro i h j hj
    rcases i with _ | i
    · show (svRow x ++ svCells r)[0 * 8 + j]? = _
      rw [List.getElem?_append_left (by simp [svRow]; omega)]
      simp
    · show (svRow x ++ svCells r)[(i + 1) * 8 + j]? = _
      rw [List.getElem?_append_right (by simp [svRow]; omega)]
      have e : (i + 1) * 8 + j - (svRow x).length = i * 8 + j := by simp [svRow]; omega
      rw [e, ih i (by simpa using h) j hj]
      simp
theorem svCells_one (l : List Sv) : ∀ u ∈ svCells l, u.oneCell' = true := by
  intro u hu
  simp only [svCells, List.mem_flatMap] at hu
  obtain ⟨x, _, hx⟩ := hu
  simp [svRow] at hx
  rcases hx with rfl | rfl | rfl | rfl | rfl | rfl | rfl | rfl <;> rfl
def OwnSi (W : World) (base : Nat) (A : Option Addr) (c : Nat) (l : List Sv) : Prop := W.ownsRow base 57 8 (.slice A l.length c) l.length (svCells l) ∧ l.length ≤ 1000000 ∧ l.length ≤ c
theorem OwnSi.nil (W : World) (base : Nat) : OwnSi W base none 0 [] := ⟨World.ownsRow_nil W base _ 8, by simp, by simp⟩
theorem OwnSi.step {W W' : World} {base : Nat} {A : Option Addr} {c : Nat} {l : List Sv} (h : OwnSi W base A c l) (hb : Below W.heap.size W W') : OwnSi W' base A c l :=
  ⟨h.1.kept (row := none) ⟨hb.os, hb.tape, hb.output, hb.size, fun k hk _ => hb.block k hk⟩ (by cases (Value.slice A l.length c).ownBlock <;> simp), h.2⟩
theorem OwnSi.grown {W W' : World} {base : Nat} {A : Option Addr} {c : Nat} {l : List Sv} {g : Nat} (h : OwnSi W base A c l) (hne : (Value.slice A l.length c).ownBlock ≠ some g) (hgr : W.grownBy W' (some g)) : OwnSi W' base A c l := ⟨h.1.kept hgr (.inr hne), h.2⟩
theorem OwnSi.lt {W : World} {base : Nat} {A : Option Addr} {c : Nat} {l : List Sv} (h : OwnSi W base A c l) : ∀ k, (Value.slice A l.length c).ownBlock = some k → base ≤ k ∧ k < W.heap.size := h.1.lt
theorem OwnSi.mono {W : World} {base base' : Nat} {A : Option Addr} {c : Nat} {l : List Sv} (h : OwnSi W base A c l) (hb : base' ≤ base) : OwnSi W base' A c l := by
  refine ⟨⟨h.1.1, ?_⟩, h.2⟩
  rcases h.1.2 with h' | ⟨g, cap, cur, e, hg, rest⟩
  · exact .inl h'
  · exact .inr ⟨g, cap, cur, e, by omega, rest⟩
/-- The row grows: a lineage of the call's own is as it was. -/
theorem OwnSp.row {W W' : World} {base base2 : Nat} {A A2 : Option Addr} {c c2 : Nat} {l : List Span} {m : List Sv} (h : OwnSp W base A c l) (ho : OwnSi W base2 A2 c2 m) {n : Nat} (hn : n = m.length) (hgr : W.grownBy W' (Value.slice A2 n c2).ownBlock) : OwnSp W' base A c l := by
  subst hn
  refine ⟨h.1.kept hgr ?_, h.2⟩
  rcases h.1.2 with ⟨hv, _⟩ | ⟨b, cap, cur, hv, hb, hbb, _⟩
  · left; rw [hv]; rfl
  · right; rw [hv]
    intro e
    rcases ho.1.2 with ⟨hv2, _⟩ | ⟨b2, cap2, cur2, hv2, hb2, hbb2, _⟩
    · rw [hv2] at e; simp [Value.ownBlock] at e
    · rw [hv2] at e
      have e' : b = b2 := by simpa [Value.ownBlock] using e
      subst e'
      rw [hbb] at hbb2
      injection hbb2 with hx
      injection hx with _ hx
      exact absurd hx (by decide)
theorem Lin.row {w0 W W' : World} {base2 : Nat} {A A2 : Option Addr} {c c2 : Nat} {l : List Span} {m : List Sv} (h : Lin w0 W A c l) (ho : OwnSi W base2 A2 c2 m) {n : Nat} (hn : n = m.length) (hgr : W.grownBy W' (Value.slice A2 n c2).ownBlock) : Lin w0 W' A c l := h.imp id fun h => h.row ho hn hgr
theorem OwnSi.reads {W : World} {base B : Nat} {A : Option Addr} {c : Nat} {l : List Sv} (h : OwnSi W base A c l) (hl : ∀ x, x ∈ l → x.s.li.length ≤ B → SpansAt W x.A x.c x.s.li) : SitesAt B W A c (l.map (·.s)) := by
  refine ⟨by simpa using h.2.2, by have := h.2.1; simp; omega, fun hn => ?_⟩
  rcases h.1.2 with ⟨hv, h0⟩ | ⟨g, cap, cur, hv, _⟩
  · simp at hn; omega
  · injection hv with hA
    refine ⟨g, 0, hA, fun i hi => ?_⟩
    have hi' : i < l.length := by simpa using hi
    have hc := h.1.cells (g := g) (by rw [hA]; rfl)
    have ea : ∀ j, (⟨g, 0, none⟩ : Addr).add j = ⟨g, j, none⟩ := fun j => by unfold Addr.add; split <;> simp_all
    have e1 : (l.map (·.s)).getD i zS = (l.getD i zSv).s := by
      simp [List.getD_eq_getElem?_getD, List.getElem?_eq_getElem hi']
    have hmem : l.getD i zSv ∈ l := by rw [List.getD_eq_getElem?_getD, List.getElem?_eq_getElem hi']; exact List.getElem_mem hi'
    rw [e1]
    have hs := hl _ hmem
    have hcell : ∀ j v, j < 8 → (svRow (l.getD i zSv))[j]? = some v → W.cell? ⟨g, i * 8 + j, none⟩ = some v := by
      intro j v hj hv
      have := hc _ v ((svCells_at l i hi' j hj).trans hv)
      rwa [ea] at this
    generalize l.getD i zSv = x at hcell hs
    simp only [Nat.zero_add]
    exact ⟨x.A, x.c, hcell 0 _ (by omega) rfl, hcell 1 _ (by omega) rfl, hcell 2 _ (by omega) rfl, hcell 3 _ (by omega) rfl, hcell 4 _ (by omega) rfl, hcell 5 _ (by omega) rfl, hcell 6 _ (by omega) rfl, hcell 7 _ (by omega) rfl, hs⟩
theorem site_info : (Try.prog.info? 57).map (fun i => (i.zero, i.size, i.bytes)) = some (some (.agg #[.int .i64 0, .int .i64 0, .int .i64 0, .int .i64 0, .slice none 0 0, .int .i64 0, .bool false, .bool false]), 8, 72) := by kernel_rfl
section
variable {ops : Array Oper} {rest : List Oper} {o : Oper} {a : Act} {Q : Exit → Act → World → Prop}
theorem wpList_app_sites {W : World} (hgd : o.guard = none) (s x : Operand) (ho : o.op = .call { callee := .builtin .append, args := #[s, x], argTypes := #[22, 22] })
    (base : Nat) (A1 : Option Addr) (c1 n1 : Nat) (l1 : List Sv) (hn1 : n1 = l1.length) (HO : OwnSi W base A1 c1 l1) (a0 : Addr) (c n : Nat) (l : List Sv) (hn : n = l.length) (hnews : ∀ j u, (svCells l)[j]? = some u → W.cell? (a0.add j) = some u) (hs : a.eval s = .slice A1 n1 c1) (hx : a.eval x = .slice (some a0) n c) (hlen : l1.length + l.length ≤ 1000000) (hbase : base ≤ W.heap.size)
    (h : ∀ A' c' w', OwnSi w' base A' c' (l1 ++ l) → W.grownBy w' (Value.slice A1 n1 c1).ownBlock → wpList Try.prog ops Q rest (a.put o.dst (.slice A' (n1 + n) c')) w') :
    wpList Try.prog ops Q (o :: rest) a W := by
  subst hn1 hn
  refine wpList_plain hgd fun K hK => ?_
  obtain ⟨i0, hi, hzz⟩ := Option.map_eq_some_iff.1 site_info
  simp only [Prod.mk.injEq] at hzz
  obtain ⟨hz0, hz1, hz2⟩ := hzz
  obtain ⟨v', w', hr, h2, h3, h4, h5⟩ := run_append_own_at (P := Try.prog) W base 22 o.type 57 i0 _ 8 72 Try.underlying22 hi hz0 hz1 hz2 rfl (by decide) (.slice A1 l1.length c1) l1.length (svCells l1) HO.1 a0 l.length c (svCells l) (by rw [svCells_length]) hnews (svCells_one l) (by simp only [maxLen]; omega) (by omega) hbase
  have hex : ∃ A' c', v' = .slice A' (l1.length + l.length) c' ∧ l1.length + l.length ≤ c' := by
    rcases h2.2 with ⟨hv, h0⟩ | ⟨g, cap, cur, hv, _, _, hle, _⟩
    · exact ⟨none, 0, by rw [hv, h0], by omega⟩
    · exact ⟨_, cap, hv, hle⟩
  obtain ⟨A', c', rfl, hle⟩ := hex
  unfold Oper.wp execOp
  simp only [ho, resolve, invoke, builtin, Sem.run_bind, Sem.run_pure, Result.andThen_ok, List.map_toArray, List.map_cons, List.map_nil, hs, hx, hr]
  exact hK _ _ (h A' c' w' ⟨by rw [svCells_append]; simpa using h2, by simpa using hlen, by simpa using hle⟩ h3)
end
/-- the cells of one new site -/
theorem news_one {w W : World} {g : Nat} {x : Sv} (K : Held w g (svRow x) 57 W) : ∀ j u, (svCells [x])[j]? = some u → W.cell? ((⟨g, 0, none⟩ : Addr).add j) = some u := by
  intro j u hu
  have ea : (⟨g, 0, none⟩ : Addr).add j = ⟨g, j, none⟩ := by unfold Addr.add; split <;> simp_all
  rw [ea]
  exact K.cell j u (by simpa [svCells] using hu)
/-- Sites that lie in a row of the call's own, their lineages read. -/
structure OwnAll (w W : World) (A : Option Addr) (c : Nat) (l : List Sv) : Prop where
  own : OwnSi W w.heap.size A c l
  lin : ∀ x, x ∈ l → Lin w W x.A x.c x.s.li
theorem OwnAll.nil (w W : World) : OwnAll w W none 0 [] := ⟨OwnSi.nil _ _, fun _ h => by cases h⟩
theorem OwnAll.step {w W W' : World} {A : Option Addr} {c : Nat} {l : List Sv} (h : OwnAll w W A c l) (hb : Below W.heap.size W W') : OwnAll w W' A c l := ⟨h.own.step hb, fun x hx => (h.lin x hx).step hb⟩
theorem OwnAll.grown {w W W' : World} {A : Option Addr} {c : Nat} {l : List Sv} {g : Nat} {cs : List Value} {t : TypeId} (h : OwnAll w W A c l) (K : Held w g cs t W) (ht : t ≠ 88) (hne : ∀ k, (Value.slice A l.length c).ownBlock = some k → k < g) (hgr : W.grownBy W' (some g)) : OwnAll w W' A c l :=
  ⟨h.own.grown (fun e => Nat.lt_irrefl _ (hne g e)) hgr, fun x hx => (h.lin x hx).grown K ht hgr⟩
theorem OwnAll.reads {w W : World} {A : Option Addr} {c : Nat} {l : List Sv} (h : OwnAll w W A c l) (hB : Below w.heap.size w W) (B : Nat) : SitesAt B W A c (l.map (·.s)) :=
  h.own.reads fun x hx _ => (h.lin x hx).reads hB
theorem getD_map_s (l : List Sv) (j : Nat) (h : j < l.length) : (l.map (·.s)).getD j zS = (l.getD j zSv).s := by
  simp [List.getD_eq_getElem?_getD, List.getElem?_eq_getElem h]
theorem OwnAll.few {w W : World} {A : Option Addr} {c : Nat} {m : List Sv} (h : OwnAll w W A c m) (hB : Below w.heap.size w W) : ∀ x, x ∈ m.map (·.s) → x.li.length ≤ 5864062014634 := by
  intro x hx
  obtain ⟨y, hy, rfl⟩ := List.mem_map.1 hx
  exact ((h.lin y hy).reads hB).len
/-- one more site behind them -/
theorem OwnAll.snoc {w W W' : World} {A A' : Option Addr} {c c' n : Nat} {l : List Sv} {x : Sv} (h : OwnAll w W A c l) (hx : Lin w W x.A x.c x.s.li) (hn : n = l.length) (ho : OwnSi W' w.heap.size A' c' (l ++ [x])) (hgr : W.grownBy W' (Value.slice A n c).ownBlock) : OwnAll w W' A' c' (l ++ [x]) := by
  refine ⟨ho, fun y hy => ?_⟩
  rcases List.mem_append.1 hy with hy | hy
  · exact (h.lin y hy).row h.own hn hgr
  · rw [List.mem_singleton.1 hy]; exact hx.row h.own hn hgr
theorem OwnAll.below {w W W' : World} {A : Option Addr} {c n : Nat} {l : List Sv} (h : OwnAll w W A c l) (hB : Below w.heap.size w W) (hn : n = l.length) (hgr : W.grownBy W' (Value.slice A n c).ownBlock) : Below w.heap.size w W' := by
  subst hn
  exact hB.trans ⟨hgr.os, hgr.tape, hgr.output, hgr.size, fun k hk => hgr.block k (Nat.lt_of_lt_of_le hk hB.size) (fun e => by have := h.own.lt k e.symm; omega)⟩
end Go.Proofs.Ytijhkgabonkmfaa
