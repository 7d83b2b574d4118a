/- Contract: switchover.Step: its doors, and the ways in which the procedure or the sites are not in order. -/
import Derived.Test.YtijhkgabonkmfaaSwL
import Derived.Test.YtijhkgabonkmfaaSwI
import Derived.Test.YtijhkgabonkmfaaSwJ
import Derived.Test.YtijhkgabonkmfaaSwM
import Derived.Test.YtijhkgabonkmfaaSwE
namespace Go.Proofs.Ytijhkgabonkmfaa
open Go.RowKit
set_option linter.unusedSimpArgs false
set_option linter.unusedVariables false
set_option maxRecDepth 100000
/-- the same machine with nothing in its memory: what is read there is read anywhere -/
def e0 (w : World) : World := { w with heap := #[] }
theorem e0b {w W : World} (h : Below w.heap.size w W) : Below (e0 w).heap.size (e0 w) W := ⟨h.os, h.tape, h.output, Nat.zero_le _, fun k hk => absurd hk (Nat.not_lt_zero _)⟩
theorem Held.toE {w W : World} {g : Nat} {cs : List Value} {t : TypeId} (K : Held w g cs t W) : Held (e0 w) g cs t W := ⟨K.blk, Nat.zero_le _, e0b K.bel⟩
def StepRes (w : World) (r : Proc × List Site × Int) (en : Ending) (w' : World) : Prop := ∃ A c m, en = .returned (.tuple #[.agg #[.int .i64 r.1.ki, .int .i64 r.1.fr, .int .i64 r.1.to_, .int .i64 r.1.st, .int .i64 r.1.ep, .int .i64 r.1.cy, .bool r.1.dn, .bool r.1.fa], .slice A m.length c, .int .i64 r.2.2]) ∧ m.map (·.s) = r.2.1 ∧ OwnAll (e0 w) w' A c m ∧ Below w.heap.size w w'
theorem results_three {P : Program} {fn : Func} {p q s : Tmp} {ty tq ts : TypeId} (h : fn.results = #[.cell p ty, .cell q tq, .cell s ts]) (tmps : Array Value) (w : World) (g gq gs : Nat) (t : TypeId) (cs : Array Value) (v u : Value) (d : TypeDesc)
    (hp : tmps.getD p undef = .pointer (some ⟨g, 0, none⟩)) (hg : w.heap[g]? = some (.cells cs t (0, 0))) (hq : tmps.getD q undef = .pointer (some ⟨gq, 0, none⟩)) (hl : (loadVar tq ⟨gq, 0, none⟩).run P w = .ok v w) (hs : tmps.getD s undef = .pointer (some ⟨gs, 0, none⟩)) (hm : (loadVar ts ⟨gs, 0, none⟩).run P w = .ok u w)
    (hu : P.underlying ty = some d) (hd : (match d with | .struct _ | .array _ _ => true | _ => false) = true) (hi : (P.info? ty).map (·.size) = some cs.size) :
    (results fn tmps).run P w = .ok (.tuple #[.agg cs, v, u]) w := by
  have hp' : tmps[p]?.getD undef = .pointer (some ⟨g, 0, none⟩) := by simpa using hp
  have hq' : tmps[q]?.getD undef = .pointer (some ⟨gq, 0, none⟩) := by simpa using hq
  have hs' : tmps[s]?.getD undef = .pointer (some ⟨gs, 0, none⟩) := by simpa using hs
  unfold results
  simp [h, hp', hq', hs', asAddr, run_loadVar_row w g t ty cs (0, 0) d hg hu hd hi, hl, hm, Result.andThen]
theorem load_sites (w : World) (g : Nat) (v : Value) (h : w.cell? ⟨g, 0, none⟩ = some v) (h1 : ∃ A n c, v = .slice A n c) : (loadVar 22 ⟨g, 0, none⟩).run Try.prog w = .ok v w := by
  obtain ⟨A, n, c, rfl⟩ := h1
  go_simp
theorem step_door (w w1 : World) (tmps : Array Value) (h8 : tmps.getD 8 undef = .pointer (some ⟨w.heap.size + 1, 0, none⟩)) (h9 : tmps.getD 9 undef = .pointer (some ⟨w.heap.size + 2, 0, none⟩)) (h10 : tmps.getD 10 undef = .pointer (some ⟨w.heap.size + 3, 0, none⟩)) {v0 v1 v2 v3 v4 v5 v6 v7 v8 v9 : Value} (KP : Held w (w.heap.size + 1) [v0, v1, v2, v3, v4, v5, v6, v7] 26 w1) (KM : Held w (w.heap.size + 2) [v9] 22 w1) (KE : Held w (w.heap.size + 3) [v8] 27 w1) (e : Int) :
    bodyPostD Try.prog Try.f19 (StepRes w (zP, [], e)) (Exit.panic [{ v := .iface 92 (.int .i64 e), recovered := false }])
      { tmps := tmps, defers := [{ target := Target.fn (Fn.func 39) #[.pointer (some ⟨w.heap.size + 1, 0, none⟩), .pointer (some ⟨w.heap.size + 2, 0, none⟩), .pointer (some ⟨w.heap.size + 3, 0, none⟩)], args := #[] }] } w1 := by
  refine leaves_cons (f := 39) (args := #[.pointer (some ⟨w.heap.size + 1, 0, none⟩), .pointer (some ⟨w.heap.size + 2, 0, none⟩), .pointer (some ⟨w.heap.size + 3, 0, none⟩)]) (by simp) (by simp [go_sem]) ?_
  refine (step_panic w w1 _ _ _ KP KM KE ⟨by omega, by omega, by omega⟩ e []).mono ?_
  rintro en u' w'' ⟨rfl, rfl, K1, K2, K3⟩
  simp only [Leaves, settle]
  exact ⟨_, results_three rfl tmps w'' _ _ _ 26 _ _ _ _ h8 K1.blk h9 (load_sites _ _ _ (K2.cell 0 _ rfl) ⟨_, _, _, rfl⟩) h10 (load_errno _ _ _ (K3.cell 0 _ rfl)) Try.underlying26 rfl (by kernel_rfl), ⟨none, 0, [], rfl, rfl, OwnAll.nil _ _, K1.bel⟩⟩
theorem step_door_ok (w w1 : World) (tmps : Array Value) (h8 : tmps.getD 8 undef = .pointer (some ⟨w.heap.size + 1, 0, none⟩)) (h9 : tmps.getD 9 undef = .pointer (some ⟨w.heap.size + 2, 0, none⟩)) (h10 : tmps.getD 10 undef = .pointer (some ⟨w.heap.size + 3, 0, none⟩)) (r : Proc) (A : Option Addr) (c : Nat) (m : List Sv) (l : List Site) (hl : m.map (·.s) = l) (e : Int) (KP : Held w (w.heap.size + 1) [.int .i64 r.ki, .int .i64 r.fr, .int .i64 r.to_, .int .i64 r.st, .int .i64 r.ep, .int .i64 r.cy, .bool r.dn, .bool r.fa] 26 w1) (KM : Held w (w.heap.size + 2) [.slice A m.length c] 22 w1) (KE : Held w (w.heap.size + 3) [.int .i64 e] 27 w1) (HO : OwnAll (e0 w) w1 A c m) :
    bodyPostD Try.prog Try.f19 (StepRes w (r, l, e)) Exit.ret
      { tmps := tmps, defers := [{ target := Target.fn (Fn.func 39) #[.pointer (some ⟨w.heap.size + 1, 0, none⟩), .pointer (some ⟨w.heap.size + 2, 0, none⟩), .pointer (some ⟨w.heap.size + 3, 0, none⟩)], args := #[] }] } w1 := by
  refine leaves_cons (f := 39) (args := #[.pointer (some ⟨w.heap.size + 1, 0, none⟩), .pointer (some ⟨w.heap.size + 2, 0, none⟩), .pointer (some ⟨w.heap.size + 3, 0, none⟩)]) (by simp) (by simp [go_sem]) ?_
  refine (step_idle _ _ _ _).mono ?_
  rintro en u' w'' ⟨rfl, rfl, hw⟩
  subst w''
  simp only [Leaves, settle]
  exact ⟨_, results_three rfl tmps w1 _ _ _ 26 _ _ _ _ h8 KP.blk h9 (load_sites _ _ _ (KM.cell 0 _ rfl) ⟨_, _, _, rfl⟩) h10 (load_errno _ _ _ (KE.cell 0 _ rfl)) Try.underlying26 rfl (by kernel_rfl), ⟨A, c, m, rfl, hl, HO, KP.bel⟩⟩
theorem abort_door (w w1 : World) (tmps : Array Value) (h8 : tmps.getD 4 undef = .pointer (some ⟨w.heap.size + 1, 0, none⟩)) (h9 : tmps.getD 5 undef = .pointer (some ⟨w.heap.size + 2, 0, none⟩)) (h10 : tmps.getD 6 undef = .pointer (some ⟨w.heap.size + 3, 0, none⟩)) {v0 v1 v2 v3 v4 v5 v6 v7 v8 v9 : Value} (KP : Held w (w.heap.size + 1) [v0, v1, v2, v3, v4, v5, v6, v7] 26 w1) (KM : Held w (w.heap.size + 2) [v9] 22 w1) (KE : Held w (w.heap.size + 3) [v8] 27 w1) (e : Int) :
    bodyPostD Try.prog Try.f22 (StepRes w (zP, [], e)) (Exit.panic [{ v := .iface 92 (.int .i64 e), recovered := false }])
      { tmps := tmps, defers := [{ target := Target.fn (Fn.func 43) #[.pointer (some ⟨w.heap.size + 1, 0, none⟩), .pointer (some ⟨w.heap.size + 2, 0, none⟩), .pointer (some ⟨w.heap.size + 3, 0, none⟩)], args := #[] }] } w1 := by
  refine leaves_cons (f := 43) (args := #[.pointer (some ⟨w.heap.size + 1, 0, none⟩), .pointer (some ⟨w.heap.size + 2, 0, none⟩), .pointer (some ⟨w.heap.size + 3, 0, none⟩)]) (by simp) (by simp [go_sem]) ?_
  refine (abort_panic w w1 _ _ _ KP KM KE ⟨by omega, by omega, by omega⟩ e []).mono ?_
  rintro en u' w'' ⟨rfl, rfl, K1, K2, K3⟩
  simp only [Leaves, settle]
  exact ⟨_, results_three rfl tmps w'' _ _ _ 26 _ _ _ _ h8 K1.blk h9 (load_sites _ _ _ (K2.cell 0 _ rfl) ⟨_, _, _, rfl⟩) h10 (load_errno _ _ _ (K3.cell 0 _ rfl)) Try.underlying26 rfl (by kernel_rfl), ⟨none, 0, [], rfl, rfl, OwnAll.nil _ _, K1.bel⟩⟩
theorem abort_door_ok (w w1 : World) (tmps : Array Value) (h8 : tmps.getD 4 undef = .pointer (some ⟨w.heap.size + 1, 0, none⟩)) (h9 : tmps.getD 5 undef = .pointer (some ⟨w.heap.size + 2, 0, none⟩)) (h10 : tmps.getD 6 undef = .pointer (some ⟨w.heap.size + 3, 0, none⟩)) (r : Proc) (A : Option Addr) (c : Nat) (m : List Sv) (l : List Site) (hl : m.map (·.s) = l) (e : Int) (KP : Held w (w.heap.size + 1) [.int .i64 r.ki, .int .i64 r.fr, .int .i64 r.to_, .int .i64 r.st, .int .i64 r.ep, .int .i64 r.cy, .bool r.dn, .bool r.fa] 26 w1) (KM : Held w (w.heap.size + 2) [.slice A m.length c] 22 w1) (KE : Held w (w.heap.size + 3) [.int .i64 e] 27 w1) (HO : OwnAll (e0 w) w1 A c m) :
    bodyPostD Try.prog Try.f22 (StepRes w (r, l, e)) Exit.ret
      { tmps := tmps, defers := [{ target := Target.fn (Fn.func 43) #[.pointer (some ⟨w.heap.size + 1, 0, none⟩), .pointer (some ⟨w.heap.size + 2, 0, none⟩), .pointer (some ⟨w.heap.size + 3, 0, none⟩)], args := #[] }] } w1 := by
  refine leaves_cons (f := 43) (args := #[.pointer (some ⟨w.heap.size + 1, 0, none⟩), .pointer (some ⟨w.heap.size + 2, 0, none⟩), .pointer (some ⟨w.heap.size + 3, 0, none⟩)]) (by simp) (by simp [go_sem]) ?_
  refine (abort_idle _ _ _ _).mono ?_
  rintro en u' w'' ⟨rfl, rfl, hw⟩
  subst w''
  simp only [Leaves, settle]
  exact ⟨_, results_three rfl tmps w1 _ _ _ 26 _ _ _ _ h8 KP.blk h9 (load_sites _ _ _ (KM.cell 0 _ rfl) ⟨_, _, _, rfl⟩) h10 (load_errno _ _ _ (KE.cell 0 _ rfl)) Try.underlying26 rfl (by kernel_rfl), ⟨A, c, m, rfl, hl, HO, KP.bel⟩⟩
end Go.Proofs.Ytijhkgabonkmfaa
