/- Contracts: quiesce, drain, grant. -/
import Derived.Test.YtijhkgabonkmfaaSwD
import Derived.Test.YtijhkgabonkmfaaSwR
import Derived.StillTailTactics
namespace Go.Proofs.Ytijhkgabonkmfaa
open Go.RowKit
set_option linter.unusedSimpArgs false
set_option linter.unusedVariables false
set_option maxRecDepth 100000
theorem ws_skip {P : Program} {ops : Array Oper} {w : World} {Q : Act → Prop} {a : Act} {o : Oper} {rest : List Oper} (hw : Region.wanted o (yielded ops a.tmps) = false) (h : wpStill P ops w Q rest (a.put o.dst undef)) : wpStill P ops w Q (o :: rest) a :=
  wpStill_step fun _ hK => by rw [if_neg (by rw [hw]; exact Bool.false_ne_true)]; exact hK _ h
theorem ws_ran {P : Program} {ops : Array Oper} {w : World} {Q : Act → Prop} {a : Act} {o : Oper} {rest : List Oper} (hw : Region.wanted o (yielded ops a.tmps) = true) (h : ∃ v, (execOp a.eval o).run P w = .ok (.value v) w ∧ wpStill P ops w Q rest (a.put o.dst v)) : wpStill P ops w Q (o :: rest) a :=
  wpStill_step fun _ hK => by
    rw [if_pos hw]
    obtain ⟨v, h1, h2⟩ := h
    unfold Oper.still
    rw [h1]
    exact ⟨rfl, hK _ h2⟩
attribute [local irreducible] wpStill
theorem OwnAll.other {w W W' : World} {A : Option Addr} {c : Nat} {l : List Sv} {g : Nat} {cs : List Value} {t : TypeId} (h : OwnAll w W A c l) (K : Held w g cs t W) (ht : t ≠ 88) (hne : (Value.slice A l.length c).ownBlock ≠ some g) (hgr : W.grownBy W' (some g)) : OwnAll w W' A c l :=
  ⟨h.own.grown hne hgr, fun x hx => (h.lin x hx).grown K ht hgr⟩
/-- the state of a step that is carried out: the procedure in a block of the call's own, the sites in a row of the call's own -/
structure Mv (w0 W : World) (gp b c : Nat) (p : Proc) (m : List Sv) : Prop where
  kp : Held w0 gp [.int .i64 p.ki, .int .i64 p.fr, .int .i64 p.to_, .int .i64 p.st, .int .i64 p.ep, .int .i64 p.cy, .bool p.dn, .bool p.fa] 26 W
  row : OwnAll w0 W (some ⟨b, 0, none⟩) c m
  ne : gp ≠ b
theorem Mv.step {w0 W W' : World} {gp b c : Nat} {p : Proc} {m : List Sv} (h : Mv w0 W gp b c p m) (hB : Below W.heap.size W W') : Mv w0 W' gp b c p m := ⟨h.kp.step hB, h.row.step hB, h.ne⟩
theorem Mv.at_ {w0 W : World} {gp b c : Nat} {p : Proc} {m : List Sv} (h : Mv w0 W gp b c p m) (i : Nat) (hi : i < m.length) (a : Site) (ha : (m.getD i zSv).s = a) : ∃ A' c', SiteAt 5864062014634 W b (i * 8) a A' c' ∧ SpansAt W A' c' a.li := by
  obtain ⟨A', c', hs⟩ := (h.row.reads h.kp.bel 5864062014634).atp i (by simpa using hi)
  rw [getD_map_s m i hi, ha, Nat.zero_add] at hs
  have hmem : m.getD i zSv ∈ m := by rw [List.getD_eq_getElem?_getD, List.getElem?_eq_getElem hi]; exact List.getElem_mem _
  have hf := h.row.few h.kp.bel _ (List.mem_map_of_mem hmem)
  rw [ha] at hf
  exact ⟨A', c', hs, hs.2.2.2.2.2.2.2.2 hf⟩
theorem grown_set (W : World) (b j : Nat) (v : Value) : W.grownBy (W.setCell ⟨b, j, none⟩ v) (some b) := ⟨rfl, rfl, rfl, by simp, fun k _ hk => Below.heap_setCell _ _ _ k (fun e => hk (by rw [e]))⟩
/-- a store into the procedure -/
theorem Mv.setp {w0 W : World} {gp b c : Nat} {p : Proc} {m : List Sv} (h : Mv w0 W gp b c p m) (j : Nat) (u : Value) (q : Proc) (hq : [.int .i64 p.ki, .int .i64 p.fr, .int .i64 p.to_, .int .i64 p.st, .int .i64 p.ep, .int .i64 p.cy, .bool p.dn, .bool p.fa].set j u = [.int .i64 q.ki, .int .i64 q.fr, .int .i64 q.to_, .int .i64 q.st, .int .i64 q.ep, .int .i64 q.cy, .bool q.dn, .bool q.fa]) : Mv w0 (W.setCell ⟨gp, j, none⟩ u) gp b c q m :=
  ⟨hq ▸ h.kp.set j u, h.row.other h.kp (by decide) (by simp [Value.ownBlock]; exact fun e => h.ne e.symm) (grown_set W gp j u), h.ne⟩
def MvNo (W : World) (e : Int) (en : Ending) (W' : World) : Prop := en = .panicked [{ v := .iface 92 (.int .i64 e), recovered := false }] ∧ Below W.heap.size W W'
def MvOk (w0 W : World) (gp b c : Nat) (p : Proc) (m : List Sv) (en : Ending) (W' : World) : Prop := en = .returned (.tuple #[]) ∧ Mv w0 W' gp b c p m ∧ ∀ q, q < W.heap.size → q ≠ gp → q ≠ b → W'.heap[q]? = W.heap[q]?
def MvPost (w0 W : World) (gp b c : Nat) (p' : Proc) (m' : List Sv) (e : Int) (en : Ending) (W' : World) : Prop := (e ≠ 0 ∧ MvNo W e en W') ∨ (e = 0 ∧ MvOk w0 W gp b c p' m' en W')
theorem MvPost.no {w0 W : World} {gp b c : Nat} {p' : Proc} {m' : List Sv} {e : Int} {W' : World} (h0 : e ≠ 0) (hB : Below W.heap.size W W') : MvPost w0 W gp b c p' m' e (.panicked [{ v := .iface 92 (.int .i64 e), recovered := false }]) W' := Or.inl ⟨h0, rfl, hB⟩
theorem MvPost.ok {w0 W W1 : World} {gp b c : Nat} {p' : Proc} {m' : List Sv} {W' : World} (hB : Below W.heap.size W W1) (h : Mv w0 W' gp b c p' m') (hk : ∀ q, q ≠ gp → q ≠ b → W'.heap[q]? = W1.heap[q]?) : MvPost w0 W gp b c p' m' 0 (.returned (.tuple #[])) W' :=
  Or.inr ⟨rfl, rfl, h, fun q h1 h2 h3 => (hk q h2 h3).trans (hB.block q h1)⟩
theorem Mv.drew {w0 W : World} {gp b c : Nat} {p : Proc} {m : List Sv} (h : Mv w0 W gp b c p m) : Mv w0 W.drew gp b c p m := h.step (below_drew (Below.refl _ _))
theorem heap_set_other (W : World) (g j q : Nat) (u : Value) (h : q ≠ g) : (W.setCell ⟨g, j, none⟩ u).heap[q]? = W.heap[q]? := Below.heap_setCell _ _ _ q h
set_option maxHeartbeats 1000000 in
theorem mv_quiesce (w0 W : World) (gp b c i k : Nat) (p : Proc) (m : List Sv) (v : Int) (a b' : Site) (H : Mv w0 W gp b c p m) (hi : i < m.length) (hk : k < m.length) (ha : (m.getD i zSv).s = a) (hb : (m.getD k zSv).s = b') :
    Calls Try.prog 55 #[.agg #[.pointer (some ⟨gp, 0, none⟩), .pointer (some ⟨b, i * 8, none⟩), .pointer (some ⟨b, k * 8, none⟩), .int .i64 v]] W (MvPost w0 W gp b c { p with cy := v, st := 1 } m (quE a v)) := by
  unfold quE
  cases g1 : (a.ro == 1)
  · simp only [Bool.true_eq_false, Bool.false_eq_true, if_false, if_true]
    go_enter Try.func55, Try.ntmps55
    go_upto_region 1 with (fail)
    have KX := Held.new (Below.refl W.heap.size W) [.pointer (some ⟨gp, 0, none⟩), .pointer (some ⟨b, i * 8, none⟩), .pointer (some ⟨b, k * 8, none⟩), .int .i64 v] 79
    have H1 := Keep.mk (H.step KX.bel)
    generalize hW1 : W.alloc (.cells #[.pointer (some ⟨gp, 0, none⟩), .pointer (some ⟨b, i * 8, none⟩), .pointer (some ⟨b, k * 8, none⟩), .int .i64 v] 79) = W1 at KX H1 ⊢
    clear hW1
    have x0 := KX.cell 0 _ rfl; have x1 := KX.cell 1 _ rfl; have x2 := KX.cell 2 _ rfl; have x3 := KX.cell 3 _ rfl
    have KX := Keep.mk KX
    obtain ⟨⟨p0, p1, p2, p3, p4, p5, p6, p7⟩, p8⟩ := H1.out.kp.c8
    obtain ⟨A1, c1, ⟨a0, a1, a2, a3, a4, a5, a6, a7, -⟩, SA⟩ := H1.out.at_ i hi a ha
    obtain ⟨A2, c2, ⟨b0, b1, b2, b3, b4, b5, b6, b7, -⟩, SB⟩ := H1.out.at_ k hk b' hb
    have SAB := Keep.mk (And.intro SA SB)
    clear SA SB
    go_wp2_with (first | (go_at_call 34; (with_reducible refine (sw_demand_ok _ _).mono ?_); rintro e w' ⟨rfl, hw⟩; subst w') | (go_at_call 34; (with_reducible refine (sw_demand_no _ _).mono ?_); rintro e w' ⟨rfl, hw⟩; subst w'))
    refine ⟨rfl, MvPost.no ?_ (by repeat' (first | exact KX.out.bel | (apply below_new) | (refine below_drewN ?_ _) | (refine below_drew ?_) | (refine below_set ?_ (by first | exact Nat.le_refl _ | omega | (simp; done) | (simp; omega)) _)))⟩; decide
  cases g2 : (v == a.ap)
  · simp only [Bool.true_eq_false, Bool.false_eq_true, if_false, if_true]
    go_enter Try.func55, Try.ntmps55
    go_upto_region 1 with (fail)
    have KX := Held.new (Below.refl W.heap.size W) [.pointer (some ⟨gp, 0, none⟩), .pointer (some ⟨b, i * 8, none⟩), .pointer (some ⟨b, k * 8, none⟩), .int .i64 v] 79
    have H1 := Keep.mk (H.step KX.bel)
    generalize hW1 : W.alloc (.cells #[.pointer (some ⟨gp, 0, none⟩), .pointer (some ⟨b, i * 8, none⟩), .pointer (some ⟨b, k * 8, none⟩), .int .i64 v] 79) = W1 at KX H1 ⊢
    clear hW1
    have x0 := KX.cell 0 _ rfl; have x1 := KX.cell 1 _ rfl; have x2 := KX.cell 2 _ rfl; have x3 := KX.cell 3 _ rfl
    have KX := Keep.mk KX
    obtain ⟨⟨p0, p1, p2, p3, p4, p5, p6, p7⟩, p8⟩ := H1.out.kp.c8
    obtain ⟨A1, c1, ⟨a0, a1, a2, a3, a4, a5, a6, a7, -⟩, SA⟩ := H1.out.at_ i hi a ha
    obtain ⟨A2, c2, ⟨b0, b1, b2, b3, b4, b5, b6, b7, -⟩, SB⟩ := H1.out.at_ k hk b' hb
    have SAB := Keep.mk (And.intro SA SB)
    clear SA SB
    go_wp2_with (first | (go_at_call 34; (with_reducible refine (sw_demand_ok _ _).mono ?_); rintro e w' ⟨rfl, hw⟩; subst w') | (go_at_call 34; (with_reducible refine (sw_demand_no _ _).mono ?_); rintro e w' ⟨rfl, hw⟩; subst w'))
    refine wp_region_still_tail 8 (by kernel_rfl) (by kernel_rfl) ?_
    simp only [List.take_succ_cons, List.take_zero, List.drop_succ_cons, List.drop_zero]
    repeat (first | (refine ws_skip (by rfl) ?_; simp only [Act.put, List.setIfInBounds_toArray, List.set_cons_succ, List.set_cons_zero]) | (refine ws_ran (by rfl) ?_; apply Exists.intro; refine ⟨?_, ?_⟩; ((go_simp; rfl)); simp only [Act.put, List.setIfInBounds_toArray, List.set_cons_succ, List.set_cons_zero]))
    refine wpStill_nil ?_
    change wpList _ _ _ _ _ (World.drew _)
    go_wp2_with (first | (go_at_call 34; (with_reducible refine (sw_demand_ok _ _).mono ?_); rintro e w' ⟨rfl, hw⟩; subst w') | (go_at_call 34; (with_reducible refine (sw_demand_no _ _).mono ?_); rintro e w' ⟨rfl, hw⟩; subst w'))
    refine ⟨rfl, MvPost.no ?_ (by repeat' (first | exact KX.out.bel | (apply below_new) | (refine below_drewN ?_ _) | (refine below_drew ?_) | (refine below_set ?_ (by first | exact Nat.le_refl _ | omega | (simp; done) | (simp; omega)) _)))⟩; decide
  simp only [Bool.true_eq_false, Bool.false_eq_true, if_false, if_true]
  go_enter Try.func55, Try.ntmps55
  go_upto_region 1 with (fail)
  have KX := Held.new (Below.refl W.heap.size W) [.pointer (some ⟨gp, 0, none⟩), .pointer (some ⟨b, i * 8, none⟩), .pointer (some ⟨b, k * 8, none⟩), .int .i64 v] 79
  have H1 := Keep.mk (H.step KX.bel)
  generalize hW1 : W.alloc (.cells #[.pointer (some ⟨gp, 0, none⟩), .pointer (some ⟨b, i * 8, none⟩), .pointer (some ⟨b, k * 8, none⟩), .int .i64 v] 79) = W1 at KX H1 ⊢
  clear hW1
  have x0 := KX.cell 0 _ rfl; have x1 := KX.cell 1 _ rfl; have x2 := KX.cell 2 _ rfl; have x3 := KX.cell 3 _ rfl
  have KX := Keep.mk KX
  obtain ⟨⟨p0, p1, p2, p3, p4, p5, p6, p7⟩, p8⟩ := H1.out.kp.c8
  obtain ⟨A1, c1, ⟨a0, a1, a2, a3, a4, a5, a6, a7, -⟩, SA⟩ := H1.out.at_ i hi a ha
  obtain ⟨A2, c2, ⟨b0, b1, b2, b3, b4, b5, b6, b7, -⟩, SB⟩ := H1.out.at_ k hk b' hb
  have SAB := Keep.mk (And.intro SA SB)
  clear SA SB
  go_wp2_with (first | (go_at_call 34; (with_reducible refine (sw_demand_ok _ _).mono ?_); rintro e w' ⟨rfl, hw⟩; subst w') | (go_at_call 34; (with_reducible refine (sw_demand_no _ _).mono ?_); rintro e w' ⟨rfl, hw⟩; subst w'))
  refine wp_region_still_tail 8 (by kernel_rfl) (by kernel_rfl) ?_
  simp only [List.take_succ_cons, List.take_zero, List.drop_succ_cons, List.drop_zero]
  repeat (first | (refine ws_skip (by rfl) ?_; simp only [Act.put, List.setIfInBounds_toArray, List.set_cons_succ, List.set_cons_zero]) | (refine ws_ran (by rfl) ?_; apply Exists.intro; refine ⟨?_, ?_⟩; ((go_simp; rfl)); simp only [Act.put, List.setIfInBounds_toArray, List.set_cons_succ, List.set_cons_zero]))
  refine wpStill_nil ?_
  change wpList _ _ _ _ _ (World.drew _)
  go_wp2_with (first | (go_at_call 34; (with_reducible refine (sw_demand_ok _ _).mono ?_); rintro e w' ⟨rfl, hw⟩; subst w') | (go_at_call 34; (with_reducible refine (sw_demand_no _ _).mono ?_); rintro e w' ⟨rfl, hw⟩; subst w'))
  go_region
  go_end0
  exact (MvPost.ok KX.out.bel (((H1.out.setp 5 (.int .i64 v) { p with cy := v } rfl).setp 3 (.int .i64 1) { p with cy := v, st := 1 } rfl).drew.drew) (fun q h1 h2 => (heap_set_other _ gp 3 q _ h1).trans (heap_set_other _ gp 5 q _ h1)))
end Go.Proofs.Ytijhkgabonkmfaa
