/- Contracts: the deferred closures of Step and Abort. -/
import Derived.Test.YtijhkgabonkmfaaSwC
namespace Go.Proofs.Ytijhkgabonkmfaa
open Go.RowKit
set_option linter.unusedSimpArgs false
set_option linter.unusedVariables false
theorem step_idle (p q r : Addr) (w : World) :
    CallsD Try.prog 39 #[.pointer (some p), .pointer (some q), .pointer (some r)] .returning w fun e u' w' => e = .returned (.tuple #[]) ∧ u' = .returning ∧ w' = w := by
  refine callsD_of_wpS Try.func39 rfl fun c₀ cs hu => ?_
  apply wpS_seq
  apply wpS_region
  simp [wpOpsS, go_sem, recoverD, hu, Try.ntmps39, Exit.thenS, Array.replicate_succ]
  refine wpS_of_wp ?_
  have hn := neq_nil_nil
  go_wp2
  cases c₀
  simp_all [bodyPostS, results, Try.results39]
set_option maxHeartbeats 1000000 in
theorem step_panic (w0 w : World) (gp gm gq : Nat) {v0 v1 v2 v3 v4 v5 v6 v7 v8 v9 : Value} (h1 : Held w0 gp [v0, v1, v2, v3, v4, v5, v6, v7] 26 w) (hm : Held w0 gm [v9] 22 w) (h2 : Held w0 gq [v8] 27 w) (hne : gp ≠ gq ∧ gp ≠ gm ∧ gm ≠ gq) (e : Int) (older : List PanicEntry) :
    CallsD Try.prog 39 #[.pointer (some ⟨gp, 0, none⟩), .pointer (some ⟨gm, 0, none⟩), .pointer (some ⟨gq, 0, none⟩)] (.panicking ({ v := .iface 92 (.int .i64 e), recovered := false } :: older)) w fun en u' w' => en = .returned (.tuple #[]) ∧ u' = .panicking ({ v := .iface 92 (.int .i64 e), recovered := true } :: older) ∧ Held w0 gp [.int .i64 0, .int .i64 0, .int .i64 0, .int .i64 0, .int .i64 0, .int .i64 0, .bool false, .bool false] 26 w' ∧ Held w0 gm [.slice none 0 0] 22 w' ∧ Held w0 gq [.int .i64 e] 27 w' := by
  have H := Keep.mk (And.intro h1 (And.intro hm (And.intro h2 hne)))
  clear h1 h2 hne hm
  refine callsD_of_wpS Try.func39 rfl fun c₀ cs hu => ?_
  apply wpS_seq
  apply wpS_region
  simp [wpOpsS, go_sem, recoverD, hu, Try.ntmps39, Exit.thenS, Array.replicate_succ]
  refine wpS_of_wp ?_
  have hn := neq_iface_nil
  go_wp2_with (first
    | (go_at_call 31; (with_reducible refine (sw_caught e _).mono ?_); rintro en w' ⟨rfl, hw⟩; subst w')
    | ((with_reducible refine wpList_store_proc ?_ (.tmp 0) (.tmp 7) ?_ w0 gp H.out.1 ?_ zP ?_ ?_); rfl; rfl; rfl; rfl; intro w1 K1 hg; have Km := H.out.2.1.grown (Ne.symm H.out.2.2.2.2.1) H.out.1.ge hg; have K2 := H.out.2.2.1.grown (Ne.symm H.out.2.2.2.1) H.out.1.ge hg; have c9 := Km.cell 0 _ rfl; have f9 := Km.frozen 0; have hnm := H.out.2.2.2.2.2; have c8 := K2.cell 0 _ rfl; have f8 := K2.frozen 0; have H2 := Keep.mk (And.intro K1 (And.intro Km (And.intro K2 H.out.2.2.2))); clear K1 K2 Km hg H))
  have R1 := (H2.out.1.setOther (j := 0) H2.out.2.1.ge H2.out.2.2.2.2.1 (.slice none 0 0)).setOther (j := 0) H2.out.2.2.1.ge H2.out.2.2.2.1 (.int .i64 e)
  have Rm := (H2.out.2.1.set 0 (.slice none 0 0)).setOther (j := 0) H2.out.2.2.1.ge H2.out.2.2.2.2.2 (.int .i64 e)
  have R2 := (H2.out.2.2.1.setOther (j := 0) H2.out.2.1.ge (Ne.symm H2.out.2.2.2.2.2) (.slice none 0 0)).set 0 (.int .i64 e)
  clear H2 c8 f8 c9 f9 hn hnm
  simp [bodyPostS, results, Try.results39]
  exact ⟨R1, Rm, R2⟩
theorem abort_idle (p q r : Addr) (w : World) :
    CallsD Try.prog 43 #[.pointer (some p), .pointer (some q), .pointer (some r)] .returning w fun e u' w' => e = .returned (.tuple #[]) ∧ u' = .returning ∧ w' = w := by
  refine callsD_of_wpS Try.func43 rfl fun c₀ cs hu => ?_
  apply wpS_seq
  apply wpS_region
  simp [wpOpsS, go_sem, recoverD, hu, Try.ntmps43, Exit.thenS, Array.replicate_succ]
  refine wpS_of_wp ?_
  have hn := neq_nil_nil
  go_wp2
  cases c₀
  simp_all [bodyPostS, results, Try.results43]
set_option maxHeartbeats 1000000 in
theorem abort_panic (w0 w : World) (gp gm gq : Nat) {v0 v1 v2 v3 v4 v5 v6 v7 v8 v9 : Value} (h1 : Held w0 gp [v0, v1, v2, v3, v4, v5, v6, v7] 26 w) (hm : Held w0 gm [v9] 22 w) (h2 : Held w0 gq [v8] 27 w) (hne : gp ≠ gq ∧ gp ≠ gm ∧ gm ≠ gq) (e : Int) (older : List PanicEntry) :
    CallsD Try.prog 43 #[.pointer (some ⟨gp, 0, none⟩), .pointer (some ⟨gm, 0, none⟩), .pointer (some ⟨gq, 0, none⟩)] (.panicking ({ v := .iface 92 (.int .i64 e), recovered := false } :: older)) w fun en u' w' => en = .returned (.tuple #[]) ∧ u' = .panicking ({ v := .iface 92 (.int .i64 e), recovered := true } :: older) ∧ Held w0 gp [.int .i64 0, .int .i64 0, .int .i64 0, .int .i64 0, .int .i64 0, .int .i64 0, .bool false, .bool false] 26 w' ∧ Held w0 gm [.slice none 0 0] 22 w' ∧ Held w0 gq [.int .i64 e] 27 w' := by
  have H := Keep.mk (And.intro h1 (And.intro hm (And.intro h2 hne)))
  clear h1 h2 hne hm
  refine callsD_of_wpS Try.func43 rfl fun c₀ cs hu => ?_
  apply wpS_seq
  apply wpS_region
  simp [wpOpsS, go_sem, recoverD, hu, Try.ntmps43, Exit.thenS, Array.replicate_succ]
  refine wpS_of_wp ?_
  have hn := neq_iface_nil
  go_wp2_with (first
    | (go_at_call 31; (with_reducible refine (sw_caught e _).mono ?_); rintro en w' ⟨rfl, hw⟩; subst w')
    | ((with_reducible refine wpList_store_proc ?_ (.tmp 0) (.tmp 7) ?_ w0 gp H.out.1 ?_ zP ?_ ?_); rfl; rfl; rfl; rfl; intro w1 K1 hg; have Km := H.out.2.1.grown (Ne.symm H.out.2.2.2.2.1) H.out.1.ge hg; have K2 := H.out.2.2.1.grown (Ne.symm H.out.2.2.2.1) H.out.1.ge hg; have c9 := Km.cell 0 _ rfl; have f9 := Km.frozen 0; have hnm := H.out.2.2.2.2.2; have c8 := K2.cell 0 _ rfl; have f8 := K2.frozen 0; have H2 := Keep.mk (And.intro K1 (And.intro Km (And.intro K2 H.out.2.2.2))); clear K1 K2 Km hg H))
  have R1 := (H2.out.1.setOther (j := 0) H2.out.2.1.ge H2.out.2.2.2.2.1 (.slice none 0 0)).setOther (j := 0) H2.out.2.2.1.ge H2.out.2.2.2.1 (.int .i64 e)
  have Rm := (H2.out.2.1.set 0 (.slice none 0 0)).setOther (j := 0) H2.out.2.2.1.ge H2.out.2.2.2.2.2 (.int .i64 e)
  have R2 := (H2.out.2.2.1.setOther (j := 0) H2.out.2.1.ge (Ne.symm H2.out.2.2.2.2.2) (.slice none 0 0)).set 0 (.int .i64 e)
  clear H2 c8 f8 c9 f9 hn hnm
  simp [bodyPostS, results, Try.results43]
  exact ⟨R1, Rm, R2⟩
end Go.Proofs.Ytijhkgabonkmfaa
