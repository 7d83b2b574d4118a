/- Contract: role.Allowed. -/
import Derived.Test.YtfkdcjkkmfhalaaRoleG
import Derived.Laws.Tables
namespace Go.Proofs.Ytfkdcjkkmfhalaa
open Go.RowKit
set_option linter.unusedSimpArgs false
set_option linter.unusedVariables false
section
variable {P : Program} {ops : Array Oper} {rest : List Oper} {op : Oper} {a : Act} {Q : Exit → Act → World → Prop}
/-- An aggregate is stored over the whole of a block of the call's own. -/
theorem wpList_store_row {W : World} (hgd : op.guard = none) (ty : TypeId) (x y : Operand) (ho : op.op = .store ty x y) (w : World) (g : Nat) (cs : List Value) (t : TypeId) (K : Held w g cs t W)
    (hx : a.eval x = .pointer (some ⟨g, 0, none⟩)) (cells : List Value) (hy : a.eval y = .agg cells.toArray) (hl : cs.length = cells.length) (hi : (P.info? ty).map (·.size) = some cells.toArray.size) (h1 : cells.toArray.all (·.oneCell') = true)
    (h : ∀ W', Held w g cells t W' → (∀ k, k ≠ g → W'.heap[k]? = W.heap[k]?) → W'.heap.size = W.heap.size → wpList P ops Q rest (a.put op.dst undef) W') :
    wpList P ops Q (op :: rest) a W := by
  refine wpList_plain hgd fun _ hK => ?_
  unfold Oper.wp execOp
  simp only [ho, hx, hy, Instr.storeAt, Instr.sureAddr, Sem.run_bind, Sem.run_pure, Result.andThen_ok, run_storeVar_row W g t ty cs.toArray cells.toArray K.blk hi (by simpa using hl) h1]
  refine hK _ _ (h _ ⟨setRow_heap W g _ _ t _ K.blk, K.ge, ?_⟩ (fun k hk => setRow_other W g k _ hk) (by simp))
  exact K.bel.trans ⟨rfl, rfl, rfl, by simp, fun k hk => setRow_other W g k _ (by have := K.ge; omega)⟩
end
theorem Held.keep {w0 W W' : World} {g : Nat} {cs : List Value} {t : TypeId} (h : Held w0 g cs t W) (hB : Below w0.heap.size w0 W') (hk : W'.heap[g]? = W.heap[g]?) : Held w0 g cs t W' := ⟨hk.trans h.blk, h.ge, hB⟩
def tabL (s : Site) : List Bool := [false, false, false, false, false, true, true, false, false, true, false, false, s.co, true, true, false, false, false, true, true, false, false, s.co, false, false, false, false, false, false, false]
theorem tab_one (s : Site) : ((tabL s).map Value.bool).toArray.all (·.oneCell') = true :=
  Array.all_eq_true_iff_forall_mem.2 (fun v hv => by simp only [List.mem_toArray, List.mem_map] at hv; obtain ⟨b, _, rfl⟩ := hv; rfl)
theorem tab_len (s : Site) : (List.replicate 30 (Value.bool false)).length = ((tabL s).map Value.bool).length := by simp [tabL]
theorem tab_info (s : Site) : (Try.prog.info? 78).map (·.size) = some ((tabL s).map Value.bool).toArray.size := by kernel_rfl
theorem tab_at (s : Site) (j : Nat) (h : j < 30) : ((tabL s).map Value.bool)[j]? = some (.bool ((tabL s).getD j false)) := by
  have : j < (tabL s).length := by simpa [tabL] using h
  simp [List.getD_eq_getElem?_getD, List.getElem?_eq_getElem this]
theorem allowed_false (s : Site) (op : Int) (h : (checkS s == 0) = false ∨ s.al = false ∨ inB op 0 4 = false) : allowedS s op = false := by
  unfold allowedS
  rcases h with h | h | h
  · rw [h]; rfl
  · rw [h]; simp
  · have : op < 0 ∨ 4 < op := by simp [inB] at h; omega
    have h0 : (op == 0) = false := by simp; omega
    have h1 : (op == 1) = false := by simp; omega
    have h2 : (op == 2) = false := by simp; omega
    have h3 : (op == 3) = false := by simp; omega
    have h4 : (op == 4) = false := by simp; omega
    rw [h0, h1, h2, h3, h4]
    simp
theorem allowed_tab (s : Site) (op : Int) (h : (checkS s == 0) = true) (hal : s.al = true) (ho : inB op 0 4 = true) : 0 ≤ s.ro ∧ s.ro ≤ 5 ∧ 0 ≤ op ∧ op ≤ 4 ∧ allowedS s op = (tabL s).getD (s.ro.toNat * 5 + op.toNat) false := by
  have hr : inB s.ro 0 5 = true := by
    cases hr : inB s.ro 0 5
    · exfalso
      unfold checkS at h
      split at h
      · rw [if_neg (by simp [hr])] at h; exact absurd h (by decide)
      · exact absurd h (by decide)
    · rfl
  simp only [inB, Bool.and_eq_true, decide_eq_true_eq] at hr ho
  refine ⟨hr.1, hr.2, ho.1, ho.2, ?_⟩
  unfold allowedS
  rw [h, hal]
  simp only [Bool.and_self, Bool.true_and]
  have r6 : s.ro = 0 ∨ s.ro = 1 ∨ s.ro = 2 ∨ s.ro = 3 ∨ s.ro = 4 ∨ s.ro = 5 := by omega
  have o5 : op = 0 ∨ op = 1 ∨ op = 2 ∨ op = 3 ∨ op = 4 := by omega
  rcases r6 with e | e | e | e | e | e <;> rcases o5 with rfl | rfl | rfl | rfl | rfl <;> rw [e] <;> simp [tabL]
set_option maxHeartbeats 1000000 in
theorem role_Allowed (w : World) (s : Site) (A : Option Addr) (c : Nat) (op : Int) (h : SpansAt w A c s.li) :
    Calls Try.prog 22 #[.agg #[.int .i64 s.nu, .int .i64 s.ro, .int .i64 s.ep, .int .i64 s.ap, .slice A s.li.length c, .int .i64 s.so, .bool s.al, .bool s.co], .int .i64 op] w fun e w' => e = .returned (.bool (allowedS s op)) ∧ Below w.heap.size w w' := by
  have HC := Keep.mk h
  clear h
  have ways : ((checkS s == 0) = false ∧ allowedS s op = false) ∨ ((checkS s == 0) = true ∧ (s.al == false) = true ∧ allowedS s op = false) ∨ ((checkS s == 0) = true ∧ (s.al == false) = false ∧ inB op 0 4 = false ∧ allowedS s op = false) ∨ ((checkS s == 0) = true ∧ (s.al == false) = false ∧ inB op 0 4 = true) := by
    cases h1 : (checkS s == 0)
    · left; exact ⟨rfl, allowed_false s op (.inl h1)⟩
    · cases h2 : s.al
      · right; left; exact ⟨rfl, rfl, allowed_false s op (.inr (.inl h2))⟩
      · cases h3 : inB op 0 4
        · right; right; left; exact ⟨rfl, rfl, rfl, allowed_false s op (.inr (.inr h3))⟩
        · right; right; right; exact ⟨rfl, rfl, rfl⟩
  rcases ways with ⟨h1, hv⟩ | ⟨h1, h2, hv⟩ | ⟨h1, h2, h3, hv⟩ | ⟨h1, h2, h3⟩
  case inr.inr.inr =>
    have hal : s.al = true := by simpa using h2
    obtain ⟨a0, a1, b0, b1, hv⟩ := allowed_tab s op h1 hal h3
    rw [hv]
    have hlen : s.ro.toNat * 5 + op.toNat < 30 := by omega
    have htab := tab_at s (s.ro.toNat * 5 + op.toNat) hlen
    generalize (tabL s).getD (s.ro.toNat * 5 + op.toNat) false = rr at htab
    have HT := Keep.mk htab
    have HAL := Keep.mk hal
    clear h2 htab hv hlen hal
    go_enter Try.func22, Try.ntmps22
    go_wp2_with (first
    | (refine wpList_store_row rfl 78 (.tmp 5) (.tmp 14) rfl w (w.heap.size + 1) _ _ (Held.new1 w _ (List.replicate 30 (.bool false)) _) rfl ((tabL s).map .bool) rfl (tab_len s) (tab_info s) (tab_one s) ?_; intro W K1 hk hsz; have K0 := ((Held.new (Below.refl w.heap.size w) [.int .i64 s.nu, .int .i64 s.ro, .int .i64 s.ep, .int .i64 s.ap, .slice A s.li.length c, .int .i64 s.so, .bool s.al, .bool s.co] 24).alloc _).keep K1.bel (hk _ (by omega)); obtain ⟨⟨p0, p1, p2, p3, p4, p5, p6, p7⟩, p8⟩ := K0.c8; have KK := Keep.mk (And.intro K0 K1); clear K0 K1 hk hsz)
    | (go_at_call 23; refine (role_Check _ s _ _ (HC.out.below KK.out.1.bel)).mono ?_; rintro e W1 ⟨rfl, hb⟩; have HB := Keep.mk (KK.out.1.step hb).bel; have q1 := (KK.out.1.step hb).cell 1 _ rfl; have q6 := (KK.out.1.step hb).cell 6 _ rfl; try (rw [HAL.out] at q6); try (have q9 := (KK.out.2.step hb).cell _ _ HT.out); clear hb)
    | (go_at_call 47; refine (role_in _ _ _ _).mono ?_; rintro e w' ⟨rfl, rfl⟩))
    go_ret
    exact ⟨rfl, HB.out⟩
  all_goals
    rw [hv]
    try (have HAL := Keep.mk (show s.al = false by simpa using h2))
    try (have HAL := Keep.mk (show s.al = true by simpa using h2))
    try clear h2
    clear hv
    go_enter Try.func22, Try.ntmps22
    go_wp2_with (first
    | (refine wpList_store_row rfl 78 (.tmp 5) (.tmp 14) rfl w (w.heap.size + 1) _ _ (Held.new1 w _ (List.replicate 30 (.bool false)) _) rfl ((tabL s).map .bool) rfl (tab_len s) (tab_info s) (tab_one s) ?_; intro W K1 hk hsz; have K0 := ((Held.new (Below.refl w.heap.size w) [.int .i64 s.nu, .int .i64 s.ro, .int .i64 s.ep, .int .i64 s.ap, .slice A s.li.length c, .int .i64 s.so, .bool s.al, .bool s.co] 24).alloc _).keep K1.bel (hk _ (by omega)); obtain ⟨⟨p0, p1, p2, p3, p4, p5, p6, p7⟩, p8⟩ := K0.c8; have KK := Keep.mk (And.intro K0 K1); clear K0 K1 hk hsz)
    | (go_at_call 23; refine (role_Check _ s _ _ (HC.out.below KK.out.1.bel)).mono ?_; rintro e W1 ⟨rfl, hb⟩; have HB := Keep.mk (KK.out.1.step hb).bel; have q1 := (KK.out.1.step hb).cell 1 _ rfl; have q6 := (KK.out.1.step hb).cell 6 _ rfl; try (rw [HAL.out] at q6); try (have q9 := (KK.out.2.step hb).cell _ _ HT.out); clear hb)
    | (go_at_call 47; refine (role_in _ _ _ _).mono ?_; rintro e w' ⟨rfl, rfl⟩))
    go_ret
    exact ⟨rfl, HB.out⟩
end Go.Proofs.Ytfkdcjkkmfhalaa
