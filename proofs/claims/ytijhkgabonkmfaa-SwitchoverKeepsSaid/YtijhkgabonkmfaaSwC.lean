/- Contracts: caught; the deferred closures of Begin, Step, Abort. -/
import Derived.Test.YtijhkgabonkmfaaSwB
import Derived.Test.YtijhkgabonkmfaaSwP
import Derived.Defers
import Derived.Recover
namespace Go.Proofs.Ytijhkgabonkmfaa
open Go.RowKit
set_option linter.unusedSimpArgs false
set_option linter.unusedVariables false
theorem as_failure (e : Int) (w : World) : (Instr.typeAssert (.iface 92 (.int .i64 e)) 20 92 true).run Try.prog w = .ok (.tuple #[.int .i64 e, .bool true]) w := by kernel_rfl
theorem sw_caught (e : Int) (w : World) : Calls Try.prog 31 #[.iface 92 (.int .i64 e)] w fun en w' => en = .returned (.int .i64 e) ∧ w' = w := by
  have ha := as_failure e
  go_enter Try.func31, Try.ntmps31
  go_wp2
  go_ret
  exact ⟨rfl, rfl⟩
theorem neq_iface_nil (t : TypeId) (v : Value) (w : World) : (binOp .neq 20 (.iface t v) .nilIface).run Try.prog w = .ok (.bool true) w := by kernel_rfl
theorem neq_nil_nil (w : World) : (binOp .neq 20 .nilIface .nilIface).run Try.prog w = .ok (.bool false) w := by kernel_rfl
section
variable {ops : Array Oper} {rest : List Oper} {op : Oper} {a : Act} {Q : Exit → Act → World → Prop}
theorem proc_one (r : Proc) : (#[.int .i64 r.ki, .int .i64 r.fr, .int .i64 r.to_, .int .i64 r.st, .int .i64 r.ep, .int .i64 r.cy, .bool r.dn, .bool r.fa] : Array Value).all (·.oneCell') = true :=
  Array.all_eq_true_iff_forall_mem.2 (fun v hv => by simp only [List.mem_toArray, List.mem_cons, List.not_mem_nil, or_false] at hv; rcases hv with rfl | rfl | rfl | rfl | rfl | rfl | rfl | rfl <;> rfl)
theorem proc_size : (Try.prog.info? 26).map (·.size) = some 8 := by kernel_rfl
/-- A procedure is stored over the whole of a block of the call's own. -/
theorem wpList_store_proc {W : World} (hgd : op.guard = none) (x y : Operand) (ho : op.op = .store 26 x y) (w : World) (g : Nat) {v0 v1 v2 v3 v4 v5 v6 v7 : Value} (K : Held w g [v0, v1, v2, v3, v4, v5, v6, v7] 26 W)
    (hx : a.eval x = .pointer (some ⟨g, 0, none⟩)) (r : Proc) (hy : a.eval y = .agg #[.int .i64 r.ki, .int .i64 r.fr, .int .i64 r.to_, .int .i64 r.st, .int .i64 r.ep, .int .i64 r.cy, .bool r.dn, .bool r.fa])
    (h : ∀ W', Held w g [.int .i64 r.ki, .int .i64 r.fr, .int .i64 r.to_, .int .i64 r.st, .int .i64 r.ep, .int .i64 r.cy, .bool r.dn, .bool r.fa] 26 W' → W.grownBy W' (some g) → wpList Try.prog ops Q rest (a.put op.dst undef) W') :
    wpList Try.prog ops Q (op :: rest) a W :=
  wpList_store_held hgd _ x y ho w g _ _ K hx [.int .i64 r.ki, .int .i64 r.fr, .int .i64 r.to_, .int .i64 r.st, .int .i64 r.ep, .int .i64 r.cy, .bool r.dn, .bool r.fa] hy rfl proc_size (proc_one r) h
end
theorem begin_idle (p q : Addr) (w : World) :
    CallsD Try.prog 30 #[.pointer (some p), .pointer (some q)] .returning w fun e u' w' => e = .returned (.tuple #[]) ∧ u' = .returning ∧ w' = w := by
  refine callsD_of_wpS Try.func30 rfl fun c₀ cs hu => ?_
  apply wpS_seq
  apply wpS_region
  simp [wpOpsS, go_sem, recoverD, hu, Try.ntmps30, Exit.thenS, Array.replicate_succ]
  refine wpS_of_wp ?_
  have hn := neq_nil_nil
  go_wp2
  cases c₀
  simp_all [bodyPostS, results, Try.results30]
set_option maxHeartbeats 1000000 in
theorem begin_panic (w0 w : World) (gp gq : Nat) {v0 v1 v2 v3 v4 v5 v6 v7 v8 : Value} (h1 : Held w0 gp [v0, v1, v2, v3, v4, v5, v6, v7] 26 w) (h2 : Held w0 gq [v8] 27 w) (hne : gp ≠ gq) (e : Int) (older : List PanicEntry) :
    CallsD Try.prog 30 #[.pointer (some ⟨gp, 0, none⟩), .pointer (some ⟨gq, 0, none⟩)] (.panicking ({ v := .iface 92 (.int .i64 e), recovered := false } :: older)) w fun en u' w' => en = .returned (.tuple #[]) ∧ u' = .panicking ({ v := .iface 92 (.int .i64 e), recovered := true } :: older) ∧ Held w0 gp [.int .i64 0, .int .i64 0, .int .i64 0, .int .i64 0, .int .i64 0, .int .i64 0, .bool false, .bool false] 26 w' ∧ Held w0 gq [.int .i64 e] 27 w' := by
  have H := Keep.mk (And.intro h1 (And.intro h2 hne))
  clear h1 h2 hne
  refine callsD_of_wpS Try.func30 rfl fun c₀ cs hu => ?_
  apply wpS_seq
  apply wpS_region
  simp [wpOpsS, go_sem, recoverD, hu, Try.ntmps30, Exit.thenS, Array.replicate_succ]
  refine wpS_of_wp ?_
  have hn := neq_iface_nil
  go_wp2_with (first
    | (go_at_call 31; (with_reducible refine (sw_caught e _).mono ?_); rintro en w' ⟨rfl, hw⟩; subst w')
    | ((with_reducible refine wpList_store_proc ?_ (.tmp 0) (.tmp 6) ?_ w0 gp H.out.1 ?_ zP ?_ ?_); rfl; rfl; rfl; rfl; intro w1 K1 hg; have K2 := H.out.2.1.grown (Ne.symm H.out.2.2) H.out.1.ge hg; have c8 := K2.cell 0 _ rfl; have f8 := K2.frozen 0; have H2 := Keep.mk (And.intro K1 (And.intro K2 H.out.2.2)); clear K1 K2 hg H))
  have R1 := H2.out.1.setOther (j := 0) H2.out.2.1.ge H2.out.2.2 (.int .i64 e)
  have R2 := H2.out.2.1.set 0 (.int .i64 e)
  clear H2 c8 f8 hn
  simp [bodyPostS, results, Try.results30]
  exact ⟨R1, R2⟩
end Go.Proofs.Ytijhkgabonkmfaa
