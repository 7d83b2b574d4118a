/- Words for the laws on many sites: stores of whole rows, lineages that are the call's own or came in. -/
import Derived.Test.YtijhkgabonkmfaaRoleJ
import Derived.Test.YtijhkgabonkmfaaRoleG
import Derived.Test.YtijhkgabonkmfaaReg
import Derived.Test.YtijhkgabonkmfaaPlainA
namespace Go.Proofs.Ytijhkgabonkmfaa
open Go.RowKit
set_option linter.unusedVariables false
section
variable {P : Program} {ops : Array Oper} {rest : List Oper} {op : Oper} {a : Act} {Q : Exit → Act → World → Prop}
/-- An aggregate is stored over the whole of a block of the call's own. -/
theorem wpList_store_held {W : World} (hgd : op.guard = none) (ty : TypeId) (x y : Operand) (ho : op.op = .store ty x y) (w : World) (g : Nat) (cs : List Value) (t : TypeId) (K : Held w g cs t W)
    (hx : a.eval x = .pointer (some ⟨g, 0, none⟩)) (cells : List Value) (hy : a.eval y = .agg cells.toArray) (hl : cs.length = cells.length) (hi : (P.info? ty).map (·.size) = some cells.toArray.size) (h1 : cells.toArray.all (·.oneCell') = true)
    (h : ∀ W', Held w g cells t W' → W.grownBy W' (some g) → wpList P ops Q rest (a.put op.dst undef) W') :
    wpList P ops Q (op :: rest) a W := by
  refine wpList_plain hgd fun _ hK => ?_
  unfold Oper.wp execOp
  simp only [ho, hx, hy, Instr.storeAt, Instr.sureAddr, Sem.run_bind, Sem.run_pure, Result.andThen_ok, run_storeVar_row W g t ty cs.toArray cells.toArray K.blk hi (by simpa using hl) h1]
  refine hK _ _ (h _ ⟨setRow_heap W g _ _ t _ K.blk, K.ge, ?_⟩ ⟨rfl, rfl, rfl, by simp, fun k _ hk => setRow_other W g k _ (fun e => hk (by rw [e]))⟩)
  exact K.bel.trans ⟨rfl, rfl, rfl, by simp, fun k hk => setRow_other W g k _ (by have := K.ge; omega)⟩
end
theorem Below.of_grown {w0 W W' : World} {g : Nat} (h : Below w0.heap.size w0 W) (hg : w0.heap.size ≤ g) (hgr : W.grownBy W' (some g)) : Below w0.heap.size w0 W' :=
  h.trans ⟨hgr.os, hgr.tape, hgr.output, hgr.size, fun k hk => hgr.block k (Nat.lt_of_lt_of_le hk h.size) (by simp; omega)⟩
theorem Held.grown {w0 W W' : World} {g h : Nat} {cs : List Value} {t : TypeId} (K : Held w0 h cs t W) (hne : h ≠ g) (hg : w0.heap.size ≤ g) (hgr : W.grownBy W' (some g)) : Held w0 h cs t W' :=
  ⟨(hgr.block h K.lt (by simpa using hne)).trans K.blk, K.ge, Below.of_grown K.bel hg hgr⟩
theorem OwnSp.grown {W W' : World} {base : Nat} {A : Option Addr} {c : Nat} {l : List Span} {g : Nat} {cs : Array Value} {t : TypeId} (h : OwnSp W base A c l) (hg : W.heap[g]? = some (.cells cs t (0, 0))) (ht : t ≠ 88) (hgr : W.grownBy W' (some g)) : OwnSp W' base A c l := by
  refine ⟨h.1.kept (row := some g) hgr ?_, h.2⟩
  rcases h.1.2 with ⟨hv, _⟩ | ⟨b, cap, cur, hv, hb, hbb, _⟩
  · left; rw [hv]; rfl
  · right; rw [hv]
    intro e
    have : b = g := by simpa [Value.ownBlock] using e
    subst this
    rw [hbb] at hg
    injection hg with hg
    injection hg with _ hg
    exact ht hg.symm
section
variable {ops : Array Oper} {rest : List Oper} {op : Oper} {a : Act} {Q : Exit → Act → World → Prop}
theorem site_one (r : Site) (A : Option Addr) (c : Nat) : (#[.int .i64 r.nu, .int .i64 r.ro, .int .i64 r.ep, .int .i64 r.ap, .slice A r.li.length c, .int .i64 r.so, .bool r.al, .bool r.co] : Array Value).all (·.oneCell') = true :=
  Array.all_eq_true_iff_forall_mem.2 (fun v hv => by simp only [List.mem_toArray, List.mem_cons, List.not_mem_nil, or_false] at hv; rcases hv with rfl | rfl | rfl | rfl | rfl | rfl | rfl | rfl <;> rfl)
theorem site_size : (Try.prog.info? 57).map (·.size) = some 8 := by kernel_rfl
/-- A site is stored over the whole of a block of the call's own. -/
theorem wpList_store_site {W : World} (hgd : op.guard = none) (x y : Operand) (ho : op.op = .store 57 x y) (w : World) (g : Nat) {v0 v1 v2 v3 v4 v5 v6 v7 : Value} (K : Held w g [v0, v1, v2, v3, v4, v5, v6, v7] 57 W)
    (hx : a.eval x = .pointer (some ⟨g, 0, none⟩)) (r : Site) (A : Option Addr) (c : Nat) (hy : a.eval y = .agg #[.int .i64 r.nu, .int .i64 r.ro, .int .i64 r.ep, .int .i64 r.ap, .slice A r.li.length c, .int .i64 r.so, .bool r.al, .bool r.co])
    (h : ∀ W', Held w g [.int .i64 r.nu, .int .i64 r.ro, .int .i64 r.ep, .int .i64 r.ap, .slice A r.li.length c, .int .i64 r.so, .bool r.al, .bool r.co] 57 W' → W.grownBy W' (some g) → wpList Try.prog ops Q rest (a.put op.dst undef) W') :
    wpList Try.prog ops Q (op :: rest) a W :=
  wpList_store_held hgd _ x y ho w g _ _ K hx [.int .i64 r.nu, .int .i64 r.ro, .int .i64 r.ep, .int .i64 r.ap, .slice A r.li.length c, .int .i64 r.so, .bool r.al, .bool r.co] hy rfl site_size (site_one r A c) h
end
/-- A lineage that came in, or is the call's own. -/
def Lin (w0 W : World) (A : Option Addr) (c : Nat) (l : List Span) : Prop := SpansAt w0 A c l ∨ OwnSp W w0.heap.size A c l
theorem Lin.reads {w0 W : World} {A : Option Addr} {c : Nat} {l : List Span} (h : Lin w0 W A c l) (hB : Below w0.heap.size w0 W) : SpansAt W A c l := h.elim (fun h => h.below hB) (fun h => h.reads)
theorem Lin.step {w0 W W' : World} {A : Option Addr} {c : Nat} {l : List Span} (h : Lin w0 W A c l) (hb : Below W.heap.size W W') : Lin w0 W' A c l := h.imp id fun h => h.step hb
theorem Lin.grown {w0 W W' : World} {A : Option Addr} {c : Nat} {l : List Span} {g : Nat} {cs : List Value} {t : TypeId} (h : Lin w0 W A c l) (K : Held w0 g cs t W) (ht : t ≠ 88) (hgr : W.grownBy W' (some g)) : Lin w0 W' A c l := h.imp id fun h => h.grown K.blk ht hgr
theorem Lin.own {w0 w1 W : World} {A : Option Addr} {c : Nat} {l : List Span} (h : OwnSp W w1.heap.size A c l) (hb : w0.heap.size ≤ w1.heap.size) : Lin w0 W A c l := .inr (h.mono hb)
theorem Held.newN {w0 W : World} (h : Below w0.heap.size w0 W) (cs : List Value) (t : TypeId) {n : Nat} (hn : W.heap.size = n) : Held w0 n cs t (W.alloc (.cells cs.toArray t)) := by subst hn; exact Held.new h cs t
end Go.Proofs.Ytijhkgabonkmfaa
