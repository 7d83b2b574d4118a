/- Contract: switchover.Step: the ways behind both searches. -/
import Derived.Test.YtijhkgabonkmfaaSwT
import Derived.Deep.DeepCutAuto
namespace Go.Proofs.Ytijhkgabonkmfaa
open Go.RowKit
set_option linter.unusedSimpArgs false
set_option linter.unusedVariables false
set_option maxRecDepth 100000
theorem results_row1 {P : Program} {fn : Func} {p : Tmp} {ty : TypeId} (h : fn.results = #[.cell p ty]) (tmps : Array Value) (w : World) (g : Nat) (t : TypeId) (cs : Array Value) (d : TypeDesc)
    (hp : tmps.getD p undef = .pointer (some ⟨g, 0, none⟩)) (hg : w.heap[g]? = some (.cells cs t (0, 0)))
    (hu : P.underlying ty = some d) (hd : (match d with | .struct _ | .array _ _ => true | _ => false) = true) (hi : (P.info? ty).map (·.size) = some cs.size) :
    (results fn tmps).run P w = .ok (.agg cs) w := by
  have hp' : tmps[p]?.getD undef = .pointer (some ⟨g, 0, none⟩) := by simpa using hp
  unfold results
  simp [h, hp', asAddr, run_loadVar_row w g t ty cs (0, 0) d hg hu hd hi, Result.andThen]
def stepsV : Value := .agg #[.func (.func 55) #[] #[], .func (.func 56) #[] #[], .func (.func 57) #[] #[], .func (.func 58) #[] #[], .func (.func 59) #[] #[]]
theorem steps_at0 (W : World) : (Instr.index 81 stepsV (.int .i64 0)).run Try.prog W = .ok (.func (.func 55) #[] #[]) W := by kernel_rfl
theorem steps_at1 (W : World) : (Instr.index 81 stepsV (.int .i64 1)).run Try.prog W = .ok (.func (.func 56) #[] #[]) W := by kernel_rfl
theorem steps_at2 (W : World) : (Instr.index 81 stepsV (.int .i64 2)).run Try.prog W = .ok (.func (.func 57) #[] #[]) W := by kernel_rfl
theorem steps_at3 (W : World) : (Instr.index 81 stepsV (.int .i64 3)).run Try.prog W = .ok (.func (.func 58) #[] #[]) W := by kernel_rfl
theorem steps_at4 (W : World) : (Instr.index 81 stepsV (.int .i64 4)).run Try.prog W = .ok (.func (.func 59) #[] #[]) W := by kernel_rfl
theorem steps_size : (Try.prog.info? 81).map (·.size) = some 5 := by kernel_rfl
theorem steps_one : (#[.func (.func 55) #[] #[], .func (.func 56) #[] #[], .func (.func 57) #[] #[], .func (.func 58) #[] #[], .func (.func 59) #[] #[]] : Array Value).all (·.oneCell') = true := Array.all_eq_true_iff_forall_mem.2 (fun v hv => by simp only [List.mem_toArray, List.mem_cons, List.not_mem_nil, or_false] at hv; rcases hv with rfl | rfl | rfl | rfl | rfl <;> rfl)
set_option maxHeartbeats 1000000 in
theorem sw_steps (w : World) : Calls Try.prog 41 #[] w fun e w' => e = .returned stepsV ∧ Below w.heap.size w w' := by
  go_enter Try.func41, Try.ntmps41
  go_wp2_with ((with_reducible refine wpList_store_held ?_ 81 (.tmp 0) (.tmp 1) ?_ w w.heap.size [.nilFunc, .nilFunc, .nilFunc, .nilFunc, .nilFunc] _ (Held.new (Below.refl _ _) [.nilFunc, .nilFunc, .nilFunc, .nilFunc, .nilFunc] 81) ?_ [.func (.func 55) #[] #[], .func (.func 56) #[] #[], .func (.func 57) #[] #[], .func (.func 58) #[] #[], .func (.func 59) #[] #[]] ?_ ?_ ?_ ?_ ?_); rfl; rfl; rfl; rfl; rfl; exact steps_size; exact steps_one; intro w1 K1 hg; have HK := Keep.mk K1; clear K1 hg)
  exact bodyPost_ret (results_row1 rfl _ _ w.heap.size 81 _ _ rfl HK.out.blk Try.underlying81 rfl (by kernel_rfl)) rfl ⟨rfl, HK.out.bel⟩
theorem step_tail {p : Proc} {l : List Site} {ok : Bool} {v : Int} {i k : Nat} (hc : checkP p = 0) (he : (checkAllS l).2 = 0) (h1 : findS l p.fr = i) (h2 : findS l p.to_ = k) :
    stepS p l ok v = if p.dn = true then (zP, [], 12) else if p.fa = true then (zP, [], 12) else if ok = false then ({ p with fa := decide (p.st ≤ 3) }, l, 0)
      else if sucE p (l.getD i zS) (l.getD k zS) v ≠ 0 then (zP, [], sucE p (l.getD i zS) (l.getD k zS) v) else (sucP p v, sucL p l i k, 0) := by
  unfold stepS
  rw [if_neg (not_not_intro hc), if_neg (not_not_intro he), h1, h2, if_neg (by omega), if_neg (by omega)]
  simp [atS]
section
variable {P : Program} {ops : Array Oper} {Q : Exit → Act → World → Prop} {md : Region.Mode} {S R : World → Prop} {i fuel : Nat} {o : Oper} {listed : Array Bool} {a : Act} {w : World} {d : Tmp} {v : Value} {f : FuncId} {args : Array Value}
theorem opCalledR (ho : ops[i]? = some o) (hd : o.dst = some d) (hw : Region.wanted o (yielded ops a.tmps) = true) (he : (execOp a.eval o).run P w = .ok (.enter f args) w) (hc : Calls P f args w fun e w' => e = .returned v ∧ R w') (h : ∀ w', R w' → S w' ∧ wpAnyH P md ops Q S fuel (listed.setIfInBounds i true) (a.put (some d) v) w') :
    wpOp P ops Q i (fun a' w' => S w' ∧ wpAnyH P md ops Q S fuel (listed.setIfInBounds i true) a' w') a w := by
  unfold wpOp
  simp only [ho, hw, if_true]
  refine .inl ?_
  unfold Oper.wp
  rw [he, Oper.upon_enter, hd]
  exact hc.mono (by rintro e w' ⟨rfl, hS⟩; exact h w' hS)
end
theorem StB.sites {w W : World} {b c : Nat} {p : Proc} {m : List Sv} {l : List Site} (h : StB w W b c p m) (hm : m.map (·.s) = l) : SitesAt 5864062014634 W (some ⟨b, 0, none⟩) c l := hm ▸ h.mv.row.reads h.mv.kp.bel _
theorem StB.c1 {w W : World} {b c : Nat} {p : Proc} {m : List Sv} (h : StB w W b c p m) : W.cell? ⟨w.heap.size, 1, none⟩ = some (.int .i64 p.fr) := h.mv.kp.cell 1 _ rfl
theorem StB.c2 {w W : World} {b c : Nat} {p : Proc} {m : List Sv} (h : StB w W b c p m) : W.cell? ⟨w.heap.size, 2, none⟩ = some (.int .i64 p.to_) := h.mv.kp.cell 2 _ rfl
theorem StB.cm {w W : World} {b c : Nat} {p : Proc} {m : List Sv} (h : StB w W b c p m) {n : Nat} (hn : n = m.length) : W.cell? ⟨w.heap.size + 1 + 1, 0, none⟩ = some (.slice (some ⟨b, 0, none⟩) n c) := hn ▸ h.km.cell 0 _ rfl
/-- behind the searches: the move lies in a block of its own -/
structure StG (w W : World) (b c gx i k : Nat) (p : Proc) (m : List Sv) (v : Int) : Prop where
  st : StB w W b c p m
  kx : Held w gx [.pointer (some ⟨w.heap.size, 0, none⟩), .pointer (some ⟨b, i * 8, none⟩), .pointer (some ⟨b, k * 8, none⟩), .int .i64 v] 79 W
  hx : w.heap.size + 4 ≤ gx
  hb : b ≠ gx
theorem StB.lt {w W : World} {b c : Nat} {p : Proc} {m : List Sv} (h : StB w W b c p m) (hm : 0 < m.length) : b < W.heap.size := by
  obtain ⟨b', e, -, hb, -⟩ := h.mv.row.own.form hm
  injection e with e
  injection e with e
  rw [e]; exact hb
theorem opStored {P : Program} {ops : Array Oper} {Q : Exit → Act → World → Prop} {md : Region.Mode} {S : World → Prop} {i fuel : Nat} {o : Oper} {listed : Array Bool} {a : Act} {w w' : World} (ho : ops[i]? = some o) (hd : o.dst = none) (hw : Region.wanted o (yielded ops a.tmps) = true) (he : (execOp a.eval o).run P w = .ok .skip w') (hS : S w') (h : wpAnyH P md ops Q S fuel (listed.setIfInBounds i true) a w') :
    wpOp P ops Q i (fun a' w' => S w' ∧ wpAnyH P md ops Q S fuel (listed.setIfInBounds i true) a' w') a w := by
  unfold wpOp
  simp only [ho, hw, if_true]
  refine .inl ?_
  unfold Oper.wp
  rw [he, Oper.upon_skip, hd]
  exact ⟨hS, h⟩
theorem StB.setp {w W : World} {b c : Nat} {p : Proc} {m : List Sv} (h : StB w W b c p m) (j : Nat) (u : Value) (q : Proc) (hq : ([.int .i64 p.ki, .int .i64 p.fr, .int .i64 p.to_, .int .i64 p.st, .int .i64 p.ep, .int .i64 p.cy, .bool p.dn, .bool p.fa] : List Value).set j u = [.int .i64 q.ki, .int .i64 q.fr, .int .i64 q.to_, .int .i64 q.st, .int .i64 q.ep, .int .i64 q.cy, .bool q.dn, .bool q.fa]) : StB w (W.setCell ⟨w.heap.size, j, none⟩ u) b c q m :=
  ⟨h.mv.setp j u q hq, hq ▸ h.kp.set j u, h.kq.setOther (Nat.le_refl _) (by omega) u, h.km.setOther (Nat.le_refl _) (by omega) u, h.ke.setOther (Nat.le_refl _) (by omega) u, h.far⟩
theorem stb_store4 {w W : World} {b c gx : Nat} {p : Proc} {m : List Sv} {v0 v1 v2 v3 : Value} (h : StB w W b c p m) (K : Held w gx [v0, v1, v2, v3] 79 W) (hx : w.heap.size + 4 ≤ gx) (hb : b ≠ gx) (u0 u1 u2 u3 : Value) :
    StB w ((((W.setCell ⟨gx, 0, none⟩ u0).setCell ⟨gx, 1, none⟩ u1).setCell ⟨gx, 2, none⟩ u2).setCell ⟨gx, 3, none⟩ u3) b c p m ∧ Held w gx [u0, u1, u2, u3] 79 ((((W.setCell ⟨gx, 0, none⟩ u0).setCell ⟨gx, 1, none⟩ u1).setCell ⟨gx, 2, none⟩ u2).setCell ⟨gx, 3, none⟩ u3) :=
  ⟨(((h.other K (by decide) hx hb (grown_set _ _ _ _)).other (K.set 0 u0) (by decide) hx hb (grown_set _ _ _ _)).other ((K.set 0 u0).set 1 u1) (by decide) hx hb (grown_set _ _ _ _)).other (((K.set 0 u0).set 1 u1).set 2 u2) (by decide) hx hb (grown_set _ _ _ _), (((K.set 0 u0).set 1 u1).set 2 u2).set 3 u3⟩
theorem StG.step {w W W' : World} {b c gx i k : Nat} {p : Proc} {m : List Sv} {v : Int} (h : StG w W b c gx i k p m v) (hB : Below W.heap.size W W') : StG w W' b c gx i k p m v := ⟨h.st.step hB, h.kx.step hB, h.hx, h.hb⟩
theorem StG.drew {w W : World} {b c gx i k : Nat} {p : Proc} {m : List Sv} {v : Int} (h : StG w W b c gx i k p m v) : StG w W.drew b c gx i k p m v := h.step (below_drew (Below.refl _ _))
theorem StG.moved {w W W' : World} {b c gx i k : Nat} {p p' : Proc} {m m' : List Sv} {v : Int} (h : StG w W b c gx i k p m v) (hm : Mv (e0 w) W' w.heap.size b c p' m') (hk : ∀ q, q < W.heap.size → q ≠ w.heap.size → q ≠ b → W'.heap[q]? = W.heap[q]?) (hl : m'.length = m.length) : StG w W' b c gx i k p' m' v := by
  have hf := h.st.far
  have hx := h.hx
  have hbel : Below w.heap.size w W' := by
    refine ⟨hm.kp.bel.os, hm.kp.bel.tape, hm.kp.bel.output, ?_, fun q hq => ?_⟩
    · have h1 := (Array.getElem?_eq_some_iff.1 hm.kp.blk).1
      omega
    · exact (hk q (Nat.lt_of_lt_of_le hq h.st.kq.bel.size) (by omega) (by omega)).trans (h.st.kq.bel.block q hq)
  exact ⟨⟨hm, ⟨hm.kp.blk, Nat.le_refl _, hbel⟩, ⟨(hk _ h.st.kq.lt (by omega) (by omega)).trans h.st.kq.blk, h.st.kq.ge, hbel⟩, by rw [hl]; exact ⟨(hk _ h.st.km.lt (by omega) (by omega)).trans h.st.km.blk, h.st.km.ge, hbel⟩, ⟨(hk _ h.st.ke.lt (by omega) (by omega)).trans h.st.ke.blk, h.st.ke.ge, hbel⟩, hf⟩, ⟨(hk _ h.kx.lt (by omega) (Ne.symm h.hb)).trans h.kx.blk, h.kx.ge, hbel⟩, hx, h.hb⟩
theorem checkP_dn {p : Proc} (h : checkP p = 0) : p.dn = (p.st == 5) := by
  unfold checkP at h
  split at h
  · rename_i h'
    simp only [Bool.and_eq_true] at h'
    exact beq_iff_eq.1 h'.1.2
  · exact absurd h (by decide)
theorem grownp (W : World) (g : Nat) (q : Proc) : W.grownBy ((((((((W.setCell ⟨g, 0, none⟩ (.int .i64 q.ki)).setCell ⟨g, 1, none⟩ (.int .i64 q.fr)).setCell ⟨g, 2, none⟩ (.int .i64 q.to_)).setCell ⟨g, 3, none⟩ (.int .i64 q.st)).setCell ⟨g, 4, none⟩ (.int .i64 q.ep)).setCell ⟨g, 5, none⟩ (.int .i64 q.cy)).setCell ⟨g, 6, none⟩ (.bool q.dn)).setCell ⟨g, 7, none⟩ (.bool q.fa)) (some g) :=
  grown_tr (grown_tr (grown_tr (grown_tr (grown_tr (grown_tr (grown_tr (grown_set _ g 0 _) (grown_set _ g 1 _)) (grown_set _ g 2 _)) (grown_set _ g 3 _)) (grown_set _ g 4 _)) (grown_set _ g 5 _)) (grown_set _ g 6 _)) (grown_set _ g 7 _)
theorem step_end {w W : World} {b c : Nat} {q : Proc} {m : List Sv} (h : StB w W b c q m) {n : Nat} (hn : n = m.length) :
    Held w (w.heap.size + 1) [.int .i64 q.ki, .int .i64 q.fr, .int .i64 q.to_, .int .i64 q.st, .int .i64 q.ep, .int .i64 q.cy, .bool q.dn, .bool q.fa] 26 (((((((((((W.setCell ⟨w.heap.size + 1, 0, none⟩ (.int .i64 q.ki)).setCell ⟨w.heap.size + 1, 1, none⟩ (.int .i64 q.fr)).setCell ⟨w.heap.size + 1, 2, none⟩ (.int .i64 q.to_)).setCell ⟨w.heap.size + 1, 3, none⟩ (.int .i64 q.st)).setCell ⟨w.heap.size + 1, 4, none⟩ (.int .i64 q.ep)).setCell ⟨w.heap.size + 1, 5, none⟩ (.int .i64 q.cy)).setCell ⟨w.heap.size + 1, 6, none⟩ (.bool q.dn)).setCell ⟨w.heap.size + 1, 7, none⟩ (.bool q.fa)).setCell ⟨w.heap.size + 1 + 1, 0, none⟩ (.slice (some ⟨b, 0, none⟩) n c)).setCell ⟨w.heap.size + 1 + 1 + 1, 0, none⟩ (.int .i64 0)).drew) ∧ Held w (w.heap.size + 2) [.slice (some ⟨b, 0, none⟩) m.length c] 22 (((((((((((W.setCell ⟨w.heap.size + 1, 0, none⟩ (.int .i64 q.ki)).setCell ⟨w.heap.size + 1, 1, none⟩ (.int .i64 q.fr)).setCell ⟨w.heap.size + 1, 2, none⟩ (.int .i64 q.to_)).setCell ⟨w.heap.size + 1, 3, none⟩ (.int .i64 q.st)).setCell ⟨w.heap.size + 1, 4, none⟩ (.int .i64 q.ep)).setCell ⟨w.heap.size + 1, 5, none⟩ (.int .i64 q.cy)).setCell ⟨w.heap.size + 1, 6, none⟩ (.bool q.dn)).setCell ⟨w.heap.size + 1, 7, none⟩ (.bool q.fa)).setCell ⟨w.heap.size + 1 + 1, 0, none⟩ (.slice (some ⟨b, 0, none⟩) n c)).setCell ⟨w.heap.size + 1 + 1 + 1, 0, none⟩ (.int .i64 0)).drew) ∧ Held w (w.heap.size + 3) [.int .i64 0] 27 (((((((((((W.setCell ⟨w.heap.size + 1, 0, none⟩ (.int .i64 q.ki)).setCell ⟨w.heap.size + 1, 1, none⟩ (.int .i64 q.fr)).setCell ⟨w.heap.size + 1, 2, none⟩ (.int .i64 q.to_)).setCell ⟨w.heap.size + 1, 3, none⟩ (.int .i64 q.st)).setCell ⟨w.heap.size + 1, 4, none⟩ (.int .i64 q.ep)).setCell ⟨w.heap.size + 1, 5, none⟩ (.int .i64 q.cy)).setCell ⟨w.heap.size + 1, 6, none⟩ (.bool q.dn)).setCell ⟨w.heap.size + 1, 7, none⟩ (.bool q.fa)).setCell ⟨w.heap.size + 1 + 1, 0, none⟩ (.slice (some ⟨b, 0, none⟩) n c)).setCell ⟨w.heap.size + 1 + 1 + 1, 0, none⟩ (.int .i64 0)).drew) ∧ OwnAll (e0 w) (((((((((((W.setCell ⟨w.heap.size + 1, 0, none⟩ (.int .i64 q.ki)).setCell ⟨w.heap.size + 1, 1, none⟩ (.int .i64 q.fr)).setCell ⟨w.heap.size + 1, 2, none⟩ (.int .i64 q.to_)).setCell ⟨w.heap.size + 1, 3, none⟩ (.int .i64 q.st)).setCell ⟨w.heap.size + 1, 4, none⟩ (.int .i64 q.ep)).setCell ⟨w.heap.size + 1, 5, none⟩ (.int .i64 q.cy)).setCell ⟨w.heap.size + 1, 6, none⟩ (.bool q.dn)).setCell ⟨w.heap.size + 1, 7, none⟩ (.bool q.fa)).setCell ⟨w.heap.size + 1 + 1, 0, none⟩ (.slice (some ⟨b, 0, none⟩) n c)).setCell ⟨w.heap.size + 1 + 1 + 1, 0, none⟩ (.int .i64 0)).drew) (some ⟨b, 0, none⟩) c m := by
  subst hn
  have hf := h.far
  have hne : ∀ g, g ≠ b → (Value.slice (some ⟨b, 0, none⟩) m.length c).ownBlock ≠ some g := fun g hg e => by
    simp [Value.ownBlock] at e; exact hg e.symm
  have G := grownp W (w.heap.size + 1) q
  have K1 : Held w (w.heap.size + 1) [.int .i64 q.ki, .int .i64 q.fr, .int .i64 q.to_, .int .i64 q.st, .int .i64 q.ep, .int .i64 q.cy, .bool q.dn, .bool q.fa] 26 ((((((((W.setCell ⟨w.heap.size + 1, 0, none⟩ (.int .i64 q.ki)).setCell ⟨w.heap.size + 1, 1, none⟩ (.int .i64 q.fr)).setCell ⟨w.heap.size + 1, 2, none⟩ (.int .i64 q.to_)).setCell ⟨w.heap.size + 1, 3, none⟩ (.int .i64 q.st)).setCell ⟨w.heap.size + 1, 4, none⟩ (.int .i64 q.ep)).setCell ⟨w.heap.size + 1, 5, none⟩ (.int .i64 q.cy)).setCell ⟨w.heap.size + 1, 6, none⟩ (.bool q.dn)).setCell ⟨w.heap.size + 1, 7, none⟩ (.bool q.fa)) :=
    (((((((h.kq.set 0 (.int .i64 q.ki)).set 1 (.int .i64 q.fr)).set 2 (.int .i64 q.to_)).set 3 (.int .i64 q.st)).set 4 (.int .i64 q.ep)).set 5 (.int .i64 q.cy)).set 6 (.bool q.dn)).set 7 (.bool q.fa)
  have K2 := h.km.grown (by omega) h.kq.ge G
  have K3 := h.ke.grown (by omega) h.kq.ge G
  have R := h.mv.row.other h.kq.toE (by decide) (hne _ (by omega)) G
  generalize ((((((((W.setCell ⟨w.heap.size + 1, 0, none⟩ (.int .i64 q.ki)).setCell ⟨w.heap.size + 1, 1, none⟩ (.int .i64 q.fr)).setCell ⟨w.heap.size + 1, 2, none⟩ (.int .i64 q.to_)).setCell ⟨w.heap.size + 1, 3, none⟩ (.int .i64 q.st)).setCell ⟨w.heap.size + 1, 4, none⟩ (.int .i64 q.ep)).setCell ⟨w.heap.size + 1, 5, none⟩ (.int .i64 q.cy)).setCell ⟨w.heap.size + 1, 6, none⟩ (.bool q.dn)).setCell ⟨w.heap.size + 1, 7, none⟩ (.bool q.fa)) = W8 at K1 K2 K3 R ⊢
  have R2 := R.other K2.toE (by decide) (hne _ (by omega)) (grown_set W8 (w.heap.size + 2) 0 (.slice (some ⟨b, 0, none⟩) m.length c))
  have K32 := K3.setOther (b := w.heap.size + 2) (j := 0) K2.ge (by omega) (.slice (some ⟨b, 0, none⟩) m.length c)
  have R3 := R2.other K32.toE (by decide) (hne _ (by omega)) (grown_set _ (w.heap.size + 3) 0 (.int .i64 0))
  exact ⟨((K1.setOther K2.ge (by omega) _).setOther K3.ge (by omega) _).drew, ((K2.set 0 _).setOther K3.ge (by omega) _).drew, (K32.set 0 _).drew, R3.step (below_drew (Below.refl _ _))⟩
set_option maxHeartbeats 2000000 in
theorem sw_Step_go (w : World) (p : Proc) (A : Option Addr) (c B : Nat) (l : List Site) (ok : Bool) (v : Int) (i k : Nat) (hc : checkP p = 0) (he : (checkAllS l).2 = 0) (h1 : findS l p.fr = i) (hil : i < l.length) (h2 : findS l p.to_ = k) (hkl : k < l.length) (hB : ∀ x, x ∈ l → x.li.length ≤ B) (h : SitesAt B w A c l) :
    Calls Try.prog 19 #[.agg #[.int .i64 p.ki, .int .i64 p.fr, .int .i64 p.to_, .int .i64 p.st, .int .i64 p.ep, .int .i64 p.cy, .bool p.dn, .bool p.fa], .slice A l.length c, .bool ok, .int .i64 v] w (StepRes w (stepS p l ok v)) := by
  have hmf : ∀ (fn : Fn) (first cap : Array Value) (w : World), (Instr.makeFunc fn first cap).run Try.prog w = .ok (.func fn first cap) w := fun _ _ _ _ => rfl
  have HT := Keep.mk (step_tail (ok := ok) (v := v) hc he h1 h2)
  have HST := Keep.mk (And.intro (checkP_step hc) (checkP_dn hc))
  have HCK := fun w => sw_Check w p
  rw [hc] at HCK
  obtain ⟨ki, fr, to_, st, ep, cy, dn, fa⟩ := p
  simp only at h1 h2 HCK HST HT ⊢
  generalize stepS ⟨ki, fr, to_, st, ep, cy, dn, fa⟩ l ok v = r at HT ⊢
  have S0 := Keep.mk (step_start w ⟨ki, fr, to_, st, ep, cy, dn, fa⟩)
  simp only at S0
  have HC := Keep.mk h
  have HE := Keep.mk he
  have HB0 := Keep.mk hB
  have HI := Keep.mk h1
  have HK := Keep.mk h2
  have hl4 := checkAll_len he
  clear hc h he hB h1 h2
  go_enter_defers Try.func19, Try.ntmps19
  go_upto_region 4 with (first
    | (go_at_call 17; (with_reducible refine (HCK _).mono ?_); rintro en w1 ⟨rfl, hB⟩; have S1 := Keep.mk (And.intro (S0.out.1.step hB) (And.intro (S0.out.2.1.step hB) (And.intro (S0.out.2.2.1.step hB) (And.intro (S0.out.2.2.2.step hB) hB)))); clear hB)
    | (go_at_call 40; (with_reducible refine (sw_ok_ok _).mono ?_); rintro en w' ⟨rfl, hw⟩; subst w')
    | (go_at_call 32; (with_reducible refine (sw_checked_at w _ S1.out.1.bel A c B l HE.out hl4 HB0.out HC.out).mono ?_); rintro en w2 ⟨A1, c1, m, rfl, hm, hO, hO2, hB⟩; go_loud (have SS := row_start (p := ⟨ki, fr, to_, st, ep, cy, dn, fa⟩) (Nat.le_trans (w4_size w ⟨ki, fr, to_, st, ep, cy, dn, fa⟩) S1.out.2.2.2.2.size) (S1.out.1.step hB) (And.intro (S1.out.2.1.step hB) (And.intro (S1.out.2.2.1.step hB) (S1.out.2.2.2.1.step hB))) hO hO2 l.length (by rw [← hm, List.length_map])); have HM := Keep.mk hm; have m0 := S1.out.2.2.1.step hB; have m8 := m0.frozen 0; have m1 := m0.cell 0 _ rfl; clear m0; have SS := Keep.mk SS; clear hB hO hO2 hm))
  (try simp only at SS)
  have hml : l.length = m.length := by rw [← HM.out, List.length_map]
  have hA0 : ∃ b, A1 = some ⟨b, 0, none⟩ ∧ w.heap.size + 4 ≤ b := by obtain ⟨b, e, hb, -⟩ := SS.out.2.2.2.2.2.form (by omega); exact ⟨b, e, hb⟩
  obtain ⟨b, rfl, hb4⟩ := hA0
  generalize w2.setCell ⟨w.heap.size + 1 + 1, 0, none⟩ (.slice (some ⟨b, 0, none⟩) l.length c1) = w3 at SS ⊢
  clear m8 m1
  have HB3 := Keep.mk (show StB w w3 b c1 ⟨ki, fr, to_, st, ep, cy, dn, fa⟩ m from ⟨⟨SS.out.1.toE, SS.out.2.2.2.2.1, by omega⟩, SS.out.1, SS.out.2.1, SS.out.2.2.1, SS.out.2.2.2.1, hb4⟩)
  have HML := Keep.mk hml
  have HM0 := Keep.mk (show 0 < m.length by omega)
  have p1 := HB3.out.c1
  have p2 := HB3.out.c2
  have p3 := HB3.out.cm HML.out
  simp only at p1 p2
  have HB4 := Keep.mk hb4
  clear SS S0 S1 hml hb4
  go_cut [11] from 18 to 28 (fun s11 wx => ∃ gx, s11 = .pointer (some ⟨gx, 0, none⟩) ∧ Keep (StG w wx b c1 gx i k ⟨ki, fr, to_, st, ep, cy, dn, fa⟩ m v))
  case first =>
    refine wp_region_noPanic (wp_region_held_drew (S := fun W => StB w W b c1 ⟨ki, fr, to_, st, ep, cy, dn, fa⟩ m) (by kernel_rfl) HB3.out.drew (fun hHeld => ?_))
    refine takeD (i := 0) (v := .slice (some ⟨b, 0, none⟩) l.length c1) rfl rfl (by kernel_rfl) (by kernel_rfl) (by kernel_rfl) (fun _ _ _ h => h) (by rfl) ?_ hHeld ?_
    · intro W hSw
      have t1 := hSw.c1
      have t2 := hSw.c2
      have t3 := hSw.cm HML.out
      go_simp
    simp only [Act.put, List.setIfInBounds_toArray, List.set_cons_zero, List.set_cons_succ]
    refine takeD (i := 1) (v := .pointer (some ⟨w.heap.size, 1, none⟩)) rfl rfl (by kernel_rfl) (by kernel_rfl) (by kernel_rfl) (fun _ _ _ h => h) (by rfl) ?_ hHeld ?_
    · intro W hSw
      have t1 := hSw.c1
      have t2 := hSw.c2
      have t3 := hSw.cm HML.out
      go_simp
    simp only [Act.put, List.setIfInBounds_toArray, List.set_cons_zero, List.set_cons_succ]
    refine takeD (i := 2) (v := .int .i64 fr) rfl rfl (by kernel_rfl) (by kernel_rfl) (by kernel_rfl) (fun _ _ _ h => h) (by rfl) ?_ hHeld ?_
    · intro W hSw
      have t1 := hSw.c1
      have t2 := hSw.c2
      have t3 := hSw.cm HML.out
      go_simp
    simp only [Act.put, List.setIfInBounds_toArray, List.set_cons_zero, List.set_cons_succ]
    refine takeD (i := 4) (v := .slice (some ⟨b, 0, none⟩) l.length c1) rfl rfl (by kernel_rfl) (by kernel_rfl) (by kernel_rfl) (fun _ _ _ h => h) (by rfl) ?_ hHeld ?_
    · intro W hSw
      have t1 := hSw.c1
      have t2 := hSw.c2
      have t3 := hSw.cm HML.out
      go_simp
    simp only [Act.put, List.setIfInBounds_toArray, List.set_cons_zero, List.set_cons_succ]
    refine takeD (i := 5) (v := .pointer (some ⟨w.heap.size, 2, none⟩)) rfl rfl (by kernel_rfl) (by kernel_rfl) (by kernel_rfl) (fun _ _ _ h => h) (by rfl) ?_ hHeld ?_
    · intro W hSw
      have t1 := hSw.c1
      have t2 := hSw.c2
      have t3 := hSw.cm HML.out
      go_simp
    simp only [Act.put, List.setIfInBounds_toArray, List.set_cons_zero, List.set_cons_succ]
    refine takeD (i := 6) (v := .int .i64 to_) rfl rfl (by kernel_rfl) (by kernel_rfl) (by kernel_rfl) (fun _ _ _ h => h) (by rfl) ?_ hHeld ?_
    · intro W hSw
      have t1 := hSw.c1
      have t2 := hSw.c2
      have t3 := hSw.cm HML.out
      go_simp
    simp only [Act.put, List.setIfInBounds_toArray, List.set_cons_zero, List.set_cons_succ]
    refine takeD (i := 8) (v := .int .i64 v) rfl rfl (by kernel_rfl) (by kernel_rfl) (by kernel_rfl) (fun _ _ _ h => h) (by rfl) ?_ hHeld ?_
    · intro W hSw
      have t1 := hSw.c1
      have t2 := hSw.c2
      have t3 := hSw.cm HML.out
      go_simp
    simp only [Act.put, List.setIfInBounds_toArray, List.set_cons_zero, List.set_cons_succ]
    refine wpAnyH_all (rs := [3, 10]) (by kernel_rfl) (by simp) ?_
    intro j hj
    simp only [List.mem_cons, List.not_mem_nil, or_false] at hj
    rcases hj with rfl | rfl
    · refine opCalledR (R := fun w' => Below (w3.drew).heap.size (w3.drew) w') (v := .pointer (some ⟨b, i * 8, none⟩)) (f := 33) (args := #[.slice (some ⟨b, 0, none⟩) l.length c1, .int .i64 fr]) rfl rfl (by rfl) ?_ (Calls.mono (sw_find_at _ b c1 l.length 5864062014634 l fr i rfl (hHeld.sites HM.out) HI.out hil) ?_) ?_
      · go_simp
      · rintro e w' ⟨rfl, hB⟩; exact ⟨rfl, hB⟩
      intro w5 hB
      have hHeld := hHeld.step hB
      refine ⟨hHeld, ?_⟩
      clear hB
      simp only [Act.put, List.setIfInBounds_toArray, List.set_cons_zero, List.set_cons_succ]
      refine wpAnyH_all (rs := [7, 10]) (by kernel_rfl) (by simp) ?_
      intro j hj
      simp only [List.mem_cons, List.not_mem_nil, or_false] at hj
      rcases hj with rfl | rfl
      · refine opCalledR (R := fun w' => Below (w5).heap.size (w5) w') (v := .pointer (some ⟨b, k * 8, none⟩)) (f := 33) (args := #[.slice (some ⟨b, 0, none⟩) l.length c1, .int .i64 to_]) rfl rfl (by rfl) ?_ (Calls.mono (sw_find_at _ b c1 l.length 5864062014634 l to_ k rfl (hHeld.sites HM.out) HK.out hkl) ?_) ?_
        · go_simp
        · rintro e w' ⟨rfl, hB⟩; exact ⟨rfl, hB⟩
        intro w6 hB
        have hHeld := hHeld.step hB
        refine ⟨hHeld, ?_⟩
        clear hB
        simp only [Act.put, List.setIfInBounds_toArray, List.set_cons_zero, List.set_cons_succ]
        refine takeD (i := 9) (v := .agg #[.pointer (some ⟨w.heap.size, 0, none⟩), .pointer (some ⟨b, i * 8, none⟩), .pointer (some ⟨b, k * 8, none⟩), .int .i64 v]) rfl rfl (by kernel_rfl) (by kernel_rfl) (by kernel_rfl) (fun _ _ _ h => h) (by rfl) ?_ hHeld ?_
        · intro W hSw
          have t1 := hSw.c1
          have t2 := hSw.c2
          have t3 := hSw.cm HML.out
          go_simp
        simp only [Act.put, List.setIfInBounds_toArray, List.set_cons_zero, List.set_cons_succ]
        refine wpAnyH_all (rs := [10]) (by kernel_rfl) (by simp) ?_
        intro j hj
        simp only [List.mem_cons, List.not_mem_nil, or_false] at hj
        subst hj
        refine opRan (v := .pointer (some ⟨(w6).heap.size, 0, none⟩)) (w' := (w6).alloc (.cells #[.pointer none, .pointer none, .pointer none, .int .i64 0] 79)) rfl rfl (by rfl) ?_ (hHeld.alloc _) ?_
        · go_simp
        have KX := Held.new hHeld.kp.bel [.pointer none, .pointer none, .pointer none, .int .i64 0] 79
        have hbl := hHeld.lt HM0.out
        have hHeld := hHeld.alloc (.cells #[.pointer none, .pointer none, .pointer none, .int .i64 0] 79)
        simp only [Act.put, List.setIfInBounds_toArray, List.set_cons_zero, List.set_cons_succ]
        generalize (w6).alloc (.cells #[.pointer none, .pointer none, .pointer none, .int .i64 0] 79) = W6 at KX hHeld ⊢
        generalize (w6).heap.size = gx at KX hbl ⊢
        refine wpAnyH_all (rs := [11]) (by kernel_rfl) (by simp) ?_
        intro j hj
        simp only [List.mem_cons, List.not_mem_nil, or_false] at hj
        subst hj
        have x0 := KX.cell 0 _ rfl
        have x1 := KX.cell 1 _ rfl
        have x2 := KX.cell 2 _ rfl
        have x3 := KX.cell 3 _ rfl
        have x8 := KX.frozen
        have hS4 := stb_store4 hHeld KX (by have := HB4.out; omega) (by omega) (.pointer (some ⟨w.heap.size, 0, none⟩)) (.pointer (some ⟨b, i * 8, none⟩)) (.pointer (some ⟨b, k * 8, none⟩)) (.int .i64 v)
        refine opStored (w' := (((W6.setCell ⟨gx, 0, none⟩ (.pointer (some ⟨w.heap.size, 0, none⟩))).setCell ⟨gx, 1, none⟩ (.pointer (some ⟨b, i * 8, none⟩))).setCell ⟨gx, 2, none⟩ (.pointer (some ⟨b, k * 8, none⟩))).setCell ⟨gx, 3, none⟩ (.int .i64 v)) rfl rfl (by rfl) ?_ hS4.1 ?_
        · go_simp
        refine wpAnyH_done (by kernel_rfl) (NoPanic.normal ?_) _
        go_wp2_with fail
        go_meet
        exact ⟨_, rfl, ⟨⟨hS4.1, hS4.2, by have := HB4.out; omega, by omega⟩⟩⟩
      · refine opRan (v := .pointer (some ⟨(w5).heap.size, 0, none⟩)) (w' := (w5).alloc (.cells #[.pointer none, .pointer none, .pointer none, .int .i64 0] 79)) rfl rfl (by rfl) ?_ (hHeld.alloc _) ?_
        · go_simp
        have KX := Held.new hHeld.kp.bel [.pointer none, .pointer none, .pointer none, .int .i64 0] 79
        have hbl := hHeld.lt HM0.out
        have hHeld := hHeld.alloc (.cells #[.pointer none, .pointer none, .pointer none, .int .i64 0] 79)
        simp only [Act.put, List.setIfInBounds_toArray, List.set_cons_zero, List.set_cons_succ]
        generalize (w5).alloc (.cells #[.pointer none, .pointer none, .pointer none, .int .i64 0] 79) = W6 at KX hHeld ⊢
        generalize (w5).heap.size = gx at KX hbl ⊢
        refine wpAnyH_all (rs := [7]) (by kernel_rfl) (by simp) ?_
        intro j hj
        simp only [List.mem_cons, List.not_mem_nil, or_false] at hj
        subst hj
        refine opCalledR (R := fun w' => Below (W6).heap.size (W6) w') (v := .pointer (some ⟨b, k * 8, none⟩)) (f := 33) (args := #[.slice (some ⟨b, 0, none⟩) l.length c1, .int .i64 to_]) rfl rfl (by rfl) ?_ (Calls.mono (sw_find_at _ b c1 l.length 5864062014634 l to_ k rfl (hHeld.sites HM.out) HK.out hkl) ?_) ?_
        · go_simp
        · rintro e w' ⟨rfl, hB⟩; exact ⟨rfl, hB⟩
        intro w6 hB
        have hHeld := hHeld.step hB
        have KX := KX.step hB
        refine ⟨hHeld, ?_⟩
        clear hB
        simp only [Act.put, List.setIfInBounds_toArray, List.set_cons_zero, List.set_cons_succ]
        refine takeD (i := 9) (v := .agg #[.pointer (some ⟨w.heap.size, 0, none⟩), .pointer (some ⟨b, i * 8, none⟩), .pointer (some ⟨b, k * 8, none⟩), .int .i64 v]) rfl rfl (by kernel_rfl) (by kernel_rfl) (by kernel_rfl) (fun _ _ _ h => h) (by rfl) ?_ hHeld ?_
        · intro W hSw
          have t1 := hSw.c1
          have t2 := hSw.c2
          have t3 := hSw.cm HML.out
          go_simp
        simp only [Act.put, List.setIfInBounds_toArray, List.set_cons_zero, List.set_cons_succ]
        refine wpAnyH_all (rs := [11]) (by kernel_rfl) (by simp) ?_
        intro j hj
        simp only [List.mem_cons, List.not_mem_nil, or_false] at hj
        subst hj
        have x0 := KX.cell 0 _ rfl
        have x1 := KX.cell 1 _ rfl
        have x2 := KX.cell 2 _ rfl
        have x3 := KX.cell 3 _ rfl
        have x8 := KX.frozen
        have hS4 := stb_store4 hHeld KX (by have := HB4.out; omega) (by omega) (.pointer (some ⟨w.heap.size, 0, none⟩)) (.pointer (some ⟨b, i * 8, none⟩)) (.pointer (some ⟨b, k * 8, none⟩)) (.int .i64 v)
        refine opStored (w' := (((w6.setCell ⟨gx, 0, none⟩ (.pointer (some ⟨w.heap.size, 0, none⟩))).setCell ⟨gx, 1, none⟩ (.pointer (some ⟨b, i * 8, none⟩))).setCell ⟨gx, 2, none⟩ (.pointer (some ⟨b, k * 8, none⟩))).setCell ⟨gx, 3, none⟩ (.int .i64 v)) rfl rfl (by rfl) ?_ hS4.1 ?_
        · go_simp
        refine wpAnyH_done (by kernel_rfl) (NoPanic.normal ?_) _
        go_wp2_with fail
        go_meet
        exact ⟨_, rfl, ⟨⟨hS4.1, hS4.2, by have := HB4.out; omega, by omega⟩⟩⟩
    · refine opRan (v := .pointer (some ⟨(w3.drew).heap.size, 0, none⟩)) (w' := (w3.drew).alloc (.cells #[.pointer none, .pointer none, .pointer none, .int .i64 0] 79)) rfl rfl (by rfl) ?_ (hHeld.alloc _) ?_
      · go_simp
      have KX := Held.new hHeld.kp.bel [.pointer none, .pointer none, .pointer none, .int .i64 0] 79
      have hbl := hHeld.lt HM0.out
      have hHeld := hHeld.alloc (.cells #[.pointer none, .pointer none, .pointer none, .int .i64 0] 79)
      simp only [Act.put, List.setIfInBounds_toArray, List.set_cons_zero, List.set_cons_succ]
      generalize (w3.drew).alloc (.cells #[.pointer none, .pointer none, .pointer none, .int .i64 0] 79) = W6 at KX hHeld ⊢
      generalize (w3.drew).heap.size = gx at KX hbl ⊢
      refine wpAnyH_all (rs := [3]) (by kernel_rfl) (by simp) ?_
      intro j hj
      simp only [List.mem_cons, List.not_mem_nil, or_false] at hj
      subst hj
      refine opCalledR (R := fun w' => Below (W6).heap.size (W6) w') (v := .pointer (some ⟨b, i * 8, none⟩)) (f := 33) (args := #[.slice (some ⟨b, 0, none⟩) l.length c1, .int .i64 fr]) rfl rfl (by rfl) ?_ (Calls.mono (sw_find_at _ b c1 l.length 5864062014634 l fr i rfl (hHeld.sites HM.out) HI.out hil) ?_) ?_
      · go_simp
      · rintro e w' ⟨rfl, hB⟩; exact ⟨rfl, hB⟩
      intro w5 hB
      have hHeld := hHeld.step hB
      have KX := KX.step hB
      refine ⟨hHeld, ?_⟩
      clear hB
      simp only [Act.put, List.setIfInBounds_toArray, List.set_cons_zero, List.set_cons_succ]
      refine wpAnyH_all (rs := [7]) (by kernel_rfl) (by simp) ?_
      intro j hj
      simp only [List.mem_cons, List.not_mem_nil, or_false] at hj
      subst hj
      refine opCalledR (R := fun w' => Below (w5).heap.size (w5) w') (v := .pointer (some ⟨b, k * 8, none⟩)) (f := 33) (args := #[.slice (some ⟨b, 0, none⟩) l.length c1, .int .i64 to_]) rfl rfl (by rfl) ?_ (Calls.mono (sw_find_at _ b c1 l.length 5864062014634 l to_ k rfl (hHeld.sites HM.out) HK.out hkl) ?_) ?_
      · go_simp
      · rintro e w' ⟨rfl, hB⟩; exact ⟨rfl, hB⟩
      intro w6 hB
      have hHeld := hHeld.step hB
      have KX := KX.step hB
      refine ⟨hHeld, ?_⟩
      clear hB
      simp only [Act.put, List.setIfInBounds_toArray, List.set_cons_zero, List.set_cons_succ]
      refine takeD (i := 9) (v := .agg #[.pointer (some ⟨w.heap.size, 0, none⟩), .pointer (some ⟨b, i * 8, none⟩), .pointer (some ⟨b, k * 8, none⟩), .int .i64 v]) rfl rfl (by kernel_rfl) (by kernel_rfl) (by kernel_rfl) (fun _ _ _ h => h) (by rfl) ?_ hHeld ?_
      · intro W hSw
        have t1 := hSw.c1
        have t2 := hSw.c2
        have t3 := hSw.cm HML.out
        go_simp
      simp only [Act.put, List.setIfInBounds_toArray, List.set_cons_zero, List.set_cons_succ]
      refine wpAnyH_all (rs := [11]) (by kernel_rfl) (by simp) ?_
      intro j hj
      simp only [List.mem_cons, List.not_mem_nil, or_false] at hj
      subst hj
      have x0 := KX.cell 0 _ rfl
      have x1 := KX.cell 1 _ rfl
      have x2 := KX.cell 2 _ rfl
      have x3 := KX.cell 3 _ rfl
      have x8 := KX.frozen
      have hS4 := stb_store4 hHeld KX (by have := HB4.out; omega) (by omega) (.pointer (some ⟨w.heap.size, 0, none⟩)) (.pointer (some ⟨b, i * 8, none⟩)) (.pointer (some ⟨b, k * 8, none⟩)) (.int .i64 v)
      refine opStored (w' := (((w6.setCell ⟨gx, 0, none⟩ (.pointer (some ⟨w.heap.size, 0, none⟩))).setCell ⟨gx, 1, none⟩ (.pointer (some ⟨b, i * 8, none⟩))).setCell ⟨gx, 2, none⟩ (.pointer (some ⟨b, k * 8, none⟩))).setCell ⟨gx, 3, none⟩ (.int .i64 v)) rfl rfl (by rfl) ?_ hS4.1 ?_
      · go_simp
      refine wpAnyH_done (by kernel_rfl) (NoPanic.normal ?_) _
      go_wp2_with fail
      go_meet
      exact ⟨_, rfl, ⟨⟨hS4.1, hS4.2, by have := HB4.out; omega, by omega⟩⟩⟩
  case rest =>
    obtain ⟨gx, rfl, HG⟩ := hcut
    clear HB3 p1 p2 p3 HC HE HB0 HI HK HCK
    obtain ⟨⟨p0, p1, p2, p3, p4, p5, p6, p7⟩, p8⟩ := HG.out.st.mv.kp.c8
    (try simp only at p0 p1 p2 p3 p4 p5 p6 p7)
    (try simp only at HT)
    cases dn
    case true =>
      have hr : r = (zP, [], 12) := HT.out.trans (by simp)
      subst hr
      go_wp2_with (first | (go_at_call 34; (with_reducible refine (sw_demand_ok _ _).mono ?_); rintro e w' ⟨rfl, hw⟩; subst w') | (go_at_call 34; (with_reducible refine (sw_demand_no _ _).mono ?_); rintro e w' ⟨rfl, hw⟩; subst w'))
      exact step_door w _ _ rfl rfl rfl HG.out.st.kq HG.out.st.km HG.out.st.ke 12
    cases fa
    case true =>
      have hr : r = (zP, [], 12) := HT.out.trans (by simp)
      subst hr
      go_wp2_with (first | (go_at_call 34; (with_reducible refine (sw_demand_ok _ _).mono ?_); rintro e w' ⟨rfl, hw⟩; subst w') | (go_at_call 34; (with_reducible refine (sw_demand_no _ _).mono ?_); rintro e w' ⟨rfl, hw⟩; subst w'))
      exact step_door w _ _ rfl rfl rfl HG.out.st.kq HG.out.st.km HG.out.st.ke 12
    cases ok
    case false =>
      have hr : r = (⟨ki, fr, to_, st, ep, cy, false, decide (st ≤ 3)⟩, l, 0) := HT.out.trans (by simp)
      subst hr
      go_wp2_with (first | (go_at_call 34; (with_reducible refine (sw_demand_ok _ _).mono ?_); rintro e w' ⟨rfl, hw⟩; subst w') | (go_at_call 34; (with_reducible refine (sw_demand_no _ _).mono ?_); rintro e w' ⟨rfl, hw⟩; subst w'))
      have hS : StB w (wc.setCell ⟨w.heap.size, 7, none⟩ (.bool (decide (st ≤ 3)))) b c1 ⟨ki, fr, to_, st, ep, cy, false, decide (st ≤ 3)⟩ m := HG.out.st.setp 7 _ _ rfl
      generalize wc.setCell ⟨w.heap.size, 7, none⟩ (.bool (decide (st ≤ 3))) = W9 at hS ⊢
      have HS9 := Keep.mk hS
      clear p0 p1 p2 p3 p4 p5 p6 p7 p8
      obtain ⟨⟨p0, p1, p2, p3, p4, p5, p6, p7⟩, p8⟩ := HS9.out.mv.kp.c8
      obtain ⟨⟨q0, q1, q2, q3, q4, q5, q6, q7⟩, q8⟩ := HS9.out.kq.c8
      have m0 := HS9.out.cm HML.out
      have m8 : ∀ j, W9.frozen? ⟨w.heap.size + 1 + 1, j, none⟩ = false := HS9.out.km.frozen
      have e0 : W9.cell? ⟨w.heap.size + 1 + 1 + 1, 0, none⟩ = some (.int .i64 0) := HS9.out.ke.cell 0 _ rfl
      have e8 : ∀ j, W9.frozen? ⟨w.heap.size + 1 + 1 + 1, j, none⟩ = false := HS9.out.ke.frozen
      clear hS
      go_region
      go_wp2_with fail
      have hE := step_end HS9.out HML.out
      exact step_door_ok w _ _ rfl rfl rfl ⟨ki, fr, to_, st, ep, cy, false, decide (st ≤ 3)⟩ _ _ _ _ HM.out 0 hE.1 hE.2.1 hE.2.2.1 hE.2.2.2
    have HAB := Keep.mk (show (m.getD i zSv).s = l.getD i zS ∧ (m.getD k zSv).s = l.getD k zS by rw [← getD_map_s m i (HML.out ▸ hil), ← getD_map_s m k (HML.out ▸ hkl), HM.out]; exact ⟨rfl, rfl⟩)
    obtain ⟨sa, hsa⟩ : ∃ x, l.getD i zS = x := ⟨_, rfl⟩
    obtain ⟨sb, hsb⟩ : ∃ x, l.getD k zS = x := ⟨_, rfl⟩
    rw [hsa, hsb] at HAB HT
    have HSS := Keep.mk (And.intro hsa hsb)
    have HLT := Keep.mk (show i < m.length ∧ k < m.length from ⟨HML.out ▸ hil, HML.out ▸ hkl⟩)
    clear hsa hsb
    have h5 : st ≠ 5 := fun e => by have := HST.out.2; subst e; exact absurd this (by decide)
    rcases HST.out.1 with hs | hs | hs | hs | hs | hs
    · subst hs
      by_cases he : quE sa v = 0
      · have hr : r = (⟨ki, fr, to_, 1, ep, v, false, false⟩, l, 0) := HT.out.trans (by simp [sucE, sucP, sucL, he])
        subst hr
        have hmv : ∀ W, Mv (e0 w) W w.heap.size b c1 ⟨ki, fr, to_, 0, ep, cy, false, false⟩ m → Calls Try.prog 55 #[.agg #[.pointer (some ⟨w.heap.size, 0, none⟩), .pointer (some ⟨b, i * 8, none⟩), .pointer (some ⟨b, k * 8, none⟩), .int .i64 v]] W (fun en W' => ∃ m', MvOk (e0 w) W w.heap.size b c1 ⟨ki, fr, to_, 1, ep, v, false, false⟩ m' en W' ∧ m'.map (·.s) = l ∧ m'.length = m.length) := fun W H =>
          (mv_quiesce (e0 w) W w.heap.size b c1 i k ⟨ki, fr, to_, 0, ep, cy, false, false⟩ m v sa sb H HLT.out.1 HLT.out.2 HAB.out.1 HAB.out.2).mono (by rintro en W' (⟨h0, -⟩ | ⟨-, h⟩); exact absurd he h0; exact ⟨m, h, HM.out, rfl⟩)
        have HMV := Keep.mk hmv
        clear hmv he h5
        go_wp2_with (first | (go_at_call 34; (with_reducible refine (sw_demand_ok _ _).mono ?_); rintro e w' ⟨rfl, hw⟩; subst w') | (go_at_call 34; (with_reducible refine (sw_demand_no _ _).mono ?_); rintro e w' ⟨rfl, hw⟩; subst w'))
        have HG0 := HG.out.drew
        refine wp_region_noPanic (wp_region_held_drew (S := (fun W => Held w gx [.pointer (some ⟨w.heap.size, 0, none⟩), .pointer (some ⟨b, i * 8, none⟩), .pointer (some ⟨b, k * 8, none⟩), .int .i64 v] 79 W)) (by kernel_rfl) HG0.kx (fun hHeld => ?_))
        refine takeD (i := 1) (v := .pointer (some ⟨w.heap.size, 3, none⟩)) rfl rfl (by kernel_rfl) (by kernel_rfl) (by kernel_rfl) (fun _ _ _ h => h) (by rfl) ?_ hHeld ?_
        · intro W hSw
          go_simp
        simp only [Act.put, List.setIfInBounds_toArray, List.set_cons_zero, List.set_cons_succ]
        refine takeD (i := 4) (v := .agg #[.pointer (some ⟨w.heap.size, 0, none⟩), .pointer (some ⟨b, i * 8, none⟩), .pointer (some ⟨b, k * 8, none⟩), .int .i64 v]) rfl rfl (by kernel_rfl) (by kernel_rfl) (by kernel_rfl) (fun _ _ _ h => h) (by rfl) ?_ hHeld ?_
        · intro W hSw
          have t0 := hSw.cell 0 _ rfl
          have t1 := hSw.cell 1 _ rfl
          have t2 := hSw.cell 2 _ rfl
          have t3 := hSw.cell 3 _ rfl
          go_simp
        simp only [Act.put, List.setIfInBounds_toArray, List.set_cons_zero, List.set_cons_succ]
        refine wpAnyH_all (rs := [0, 2]) (by kernel_rfl) (by simp) ?_
        intro j hj
        simp only [List.mem_cons, List.not_mem_nil, or_false] at hj
        rcases hj with rfl | rfl
        · refine opCalledR (R := fun w' => Below (wc.drew).heap.size (wc.drew) w') (v := stepsV) (f := 41) (args := #[]) rfl rfl (by rfl) ?_ (sw_steps _) ?_
          · go_simp
          intro w5 hB
          have HG5 := HG0.step hB
          refine ⟨HG5.kx, ?_⟩
          have hHeld := HG5.kx
          clear hB
          simp only [Act.put, List.setIfInBounds_toArray, List.set_cons_zero, List.set_cons_succ]
          refine wpAnyH_all (rs := [2]) (by kernel_rfl) (by simp) ?_
          intro j hj
          simp only [List.mem_cons, List.not_mem_nil, or_false] at hj
          subst hj
          refine opRan (v := .int .i64 0) (w' := w5) rfl rfl (by rfl) ?_ HG5.kx ?_
          · have t9 := HG5.st.mv.kp.cell 3 _ rfl
            (try simp only at t9)
            go_simp
          have hHeld := HG5.kx
          simp only [Act.put, List.setIfInBounds_toArray, List.set_cons_zero, List.set_cons_succ]
          refine takeD (i := 3) (v := .func (.func 55) #[] #[]) rfl rfl (by kernel_rfl) (by kernel_rfl) (by kernel_rfl) (fun _ _ _ h => h) (by rfl) ?_ hHeld ?_
          · intro W hSw
            have t := steps_at0 W
            go_simp
          simp only [Act.put, List.setIfInBounds_toArray, List.set_cons_zero, List.set_cons_succ]
          refine wpAnyH_all (rs := [5]) (by kernel_rfl) (by simp) ?_
          intro j hj
          simp only [List.mem_cons, List.not_mem_nil, or_false] at hj
          subst hj
          refine opCalledR (R := fun w' => ∃ m', StG w w' b c1 gx i k ⟨ki, fr, to_, 1, ep, v, false, false⟩ m' v ∧ m'.map (·.s) = l ∧ m'.length = m.length) (v := .tuple #[]) (f := 55) (args := #[.agg #[.pointer (some ⟨w.heap.size, 0, none⟩), .pointer (some ⟨b, i * 8, none⟩), .pointer (some ⟨b, k * 8, none⟩), .int .i64 v]]) rfl rfl (by rfl) ?_ (Calls.mono (HMV.out _ HG5.st.mv) ?_) ?_
          · go_simp
          · rintro en w' ⟨m', ⟨rfl, hv, hh⟩, hm, hl⟩; exact ⟨rfl, m', HG5.moved hv hh hl, hm, hl⟩
          rintro w' ⟨m', hg, hm, hl⟩
          refine ⟨hg.kx, wpAnyH_done (by kernel_rfl) (NoPanic.normal ?_) _⟩
          simp only [Act.put, List.setIfInBounds_toArray, List.set_cons_zero, List.set_cons_succ]
          have HML2 := Keep.mk (HML.out.trans hl.symm)
          have HM2 := Keep.mk hm
          have hS := hg.st
          clear hg hm hl hHeld HG5 HG0
          go_wp2_with fail
          generalize w' = W9 at hS ⊢
          have HS9 := Keep.mk hS
          clear p0 p1 p2 p3 p4 p5 p6 p7 p8
          obtain ⟨⟨p0, p1, p2, p3, p4, p5, p6, p7⟩, p8⟩ := HS9.out.mv.kp.c8
          obtain ⟨⟨q0, q1, q2, q3, q4, q5, q6, q7⟩, q8⟩ := HS9.out.kq.c8
          have m0 := HS9.out.cm HML2.out
          have m8 : ∀ j, W9.frozen? ⟨w.heap.size + 1 + 1, j, none⟩ = false := HS9.out.km.frozen
          have e0 : W9.cell? ⟨w.heap.size + 1 + 1 + 1, 0, none⟩ = some (.int .i64 0) := HS9.out.ke.cell 0 _ rfl
          have e8 : ∀ j, W9.frozen? ⟨w.heap.size + 1 + 1 + 1, j, none⟩ = false := HS9.out.ke.frozen
          clear hS
          go_region
          go_wp2_with fail
          have hE := step_end HS9.out HML2.out
          exact step_door_ok w _ _ rfl rfl rfl ⟨ki, fr, to_, 1, ep, v, false, false⟩ _ _ _ _ HM2.out 0 hE.1 hE.2.1 hE.2.2.1 hE.2.2.2
        · refine opRan (v := .int .i64 0) (w' := wc.drew) rfl rfl (by rfl) ?_ HG0.kx ?_
          · have t9 := HG0.st.mv.kp.cell 3 _ rfl
            (try simp only at t9)
            go_simp
          have hHeld := HG0.kx
          simp only [Act.put, List.setIfInBounds_toArray, List.set_cons_zero, List.set_cons_succ]
          refine wpAnyH_all (rs := [0]) (by kernel_rfl) (by simp) ?_
          intro j hj
          simp only [List.mem_cons, List.not_mem_nil, or_false] at hj
          subst hj
          refine opCalledR (R := fun w' => Below (wc.drew).heap.size (wc.drew) w') (v := stepsV) (f := 41) (args := #[]) rfl rfl (by rfl) ?_ (sw_steps _) ?_
          · go_simp
          intro w5 hB
          have HG5 := HG0.step hB
          refine ⟨HG5.kx, ?_⟩
          have hHeld := HG5.kx
          clear hB
          simp only [Act.put, List.setIfInBounds_toArray, List.set_cons_zero, List.set_cons_succ]
          refine takeD (i := 3) (v := .func (.func 55) #[] #[]) rfl rfl (by kernel_rfl) (by kernel_rfl) (by kernel_rfl) (fun _ _ _ h => h) (by rfl) ?_ hHeld ?_
          · intro W hSw
            have t := steps_at0 W
            go_simp
          simp only [Act.put, List.setIfInBounds_toArray, List.set_cons_zero, List.set_cons_succ]
          refine wpAnyH_all (rs := [5]) (by kernel_rfl) (by simp) ?_
          intro j hj
          simp only [List.mem_cons, List.not_mem_nil, or_false] at hj
          subst hj
          refine opCalledR (R := fun w' => ∃ m', StG w w' b c1 gx i k ⟨ki, fr, to_, 1, ep, v, false, false⟩ m' v ∧ m'.map (·.s) = l ∧ m'.length = m.length) (v := .tuple #[]) (f := 55) (args := #[.agg #[.pointer (some ⟨w.heap.size, 0, none⟩), .pointer (some ⟨b, i * 8, none⟩), .pointer (some ⟨b, k * 8, none⟩), .int .i64 v]]) rfl rfl (by rfl) ?_ (Calls.mono (HMV.out _ HG5.st.mv) ?_) ?_
          · go_simp
          · rintro en w' ⟨m', ⟨rfl, hv, hh⟩, hm, hl⟩; exact ⟨rfl, m', HG5.moved hv hh hl, hm, hl⟩
          rintro w' ⟨m', hg, hm, hl⟩
          refine ⟨hg.kx, wpAnyH_done (by kernel_rfl) (NoPanic.normal ?_) _⟩
          simp only [Act.put, List.setIfInBounds_toArray, List.set_cons_zero, List.set_cons_succ]
          have HML2 := Keep.mk (HML.out.trans hl.symm)
          have HM2 := Keep.mk hm
          have hS := hg.st
          clear hg hm hl hHeld HG5 HG0
          go_wp2_with fail
          generalize w' = W9 at hS ⊢
          have HS9 := Keep.mk hS
          clear p0 p1 p2 p3 p4 p5 p6 p7 p8
          obtain ⟨⟨p0, p1, p2, p3, p4, p5, p6, p7⟩, p8⟩ := HS9.out.mv.kp.c8
          obtain ⟨⟨q0, q1, q2, q3, q4, q5, q6, q7⟩, q8⟩ := HS9.out.kq.c8
          have m0 := HS9.out.cm HML2.out
          have m8 : ∀ j, W9.frozen? ⟨w.heap.size + 1 + 1, j, none⟩ = false := HS9.out.km.frozen
          have e0 : W9.cell? ⟨w.heap.size + 1 + 1 + 1, 0, none⟩ = some (.int .i64 0) := HS9.out.ke.cell 0 _ rfl
          have e8 : ∀ j, W9.frozen? ⟨w.heap.size + 1 + 1 + 1, j, none⟩ = false := HS9.out.ke.frozen
          clear hS
          go_region
          go_wp2_with fail
          have hE := step_end HS9.out HML2.out
          exact step_door_ok w _ _ rfl rfl rfl ⟨ki, fr, to_, 1, ep, v, false, false⟩ _ _ _ _ HM2.out 0 hE.1 hE.2.1 hE.2.2.1 hE.2.2.2
      · have hr : r = (zP, [], quE sa v) := HT.out.trans (by simp [sucE, he])
        subst hr
        have hmv : ∀ W, Mv (e0 w) W w.heap.size b c1 ⟨ki, fr, to_, 0, ep, cy, false, false⟩ m → Calls Try.prog 55 #[.agg #[.pointer (some ⟨w.heap.size, 0, none⟩), .pointer (some ⟨b, i * 8, none⟩), .pointer (some ⟨b, k * 8, none⟩), .int .i64 v]] W (fun en W' => en = .panicked [{ v := .iface 92 (.int .i64 (quE sa v)), recovered := false }] ∧ Below W.heap.size W W') := fun W H =>
          (mv_quiesce (e0 w) W w.heap.size b c1 i k ⟨ki, fr, to_, 0, ep, cy, false, false⟩ m v sa sb H HLT.out.1 HLT.out.2 HAB.out.1 HAB.out.2).mono (by rintro en W' (⟨h0, h⟩ | ⟨h0, h⟩); exact h; exact absurd h0 he)
        have HMV := Keep.mk hmv
        clear hmv he h5
        go_wp2_with (first | (go_at_call 34; (with_reducible refine (sw_demand_ok _ _).mono ?_); rintro e w' ⟨rfl, hw⟩; subst w') | (go_at_call 34; (with_reducible refine (sw_demand_no _ _).mono ?_); rintro e w' ⟨rfl, hw⟩; subst w'))
        refine wp_region_pan (fun W => StG w W b c1 gx i k ⟨ki, fr, to_, 0, ep, cy, false, false⟩ m v) (Inv3 [{ target := Target.fn (Fn.func 39) #[.pointer (some ⟨w.heap.size + 1, 0, none⟩), .pointer (some ⟨w.heap.size + 1 + 1, 0, none⟩), .pointer (some ⟨w.heap.size + 1 + 1 + 1, 0, none⟩)], args := #[] }] 8 9 10 (.pointer (some ⟨w.heap.size + 1, 0, none⟩)) (.pointer (some ⟨w.heap.size + 1 + 1, 0, none⟩)) (.pointer (some ⟨w.heap.size + 1 + 1 + 1, 0, none⟩))) [{ v := .iface 92 (.int .i64 (quE sa v)), recovered := false }] (by kernel_rfl) ?_ HG.out.drew (fun hHeld => ?_)
        · rintro ⟨tmps, ds⟩ W ⟨h1, h8, h9, h10⟩ hS
          simp only at h1 h8 h9 h10
          subst h1
          exact step_door w W tmps h8 h9 h10 hS.st.kq hS.st.km hS.st.ke _
        refine takeD (i := 1) (v := .pointer (some ⟨w.heap.size, 3, none⟩)) rfl rfl (by kernel_rfl) (by kernel_rfl) (by kernel_rfl) (fun c a w h => ⟨inv3_put (by decide) (by decide) (by decide) h.1, h.2⟩) (by rfl) ?_ hHeld ?_
        · intro W hSw
          go_simp
        simp only [Act.put, List.setIfInBounds_toArray, List.set_cons_zero, List.set_cons_succ]
        refine takeD (i := 2) (v := .int .i64 0) rfl rfl (by kernel_rfl) (by kernel_rfl) (by kernel_rfl) (fun c a w h => ⟨inv3_put (by decide) (by decide) (by decide) h.1, h.2⟩) (by rfl) ?_ hHeld ?_
        · intro W hSw
          have t9 := hSw.st.mv.kp.cell 3 _ rfl
          (try simp only at t9)
          go_simp
        simp only [Act.put, List.setIfInBounds_toArray, List.set_cons_zero, List.set_cons_succ]
        refine takeD (i := 4) (v := .agg #[.pointer (some ⟨w.heap.size, 0, none⟩), .pointer (some ⟨b, i * 8, none⟩), .pointer (some ⟨b, k * 8, none⟩), .int .i64 v]) rfl rfl (by kernel_rfl) (by kernel_rfl) (by kernel_rfl) (fun c a w h => ⟨inv3_put (by decide) (by decide) (by decide) h.1, h.2⟩) (by rfl) ?_ hHeld ?_
        · intro W hSw
          have t0 := hSw.kx.cell 0 _ rfl
          have t1 := hSw.kx.cell 1 _ rfl
          have t2 := hSw.kx.cell 2 _ rfl
          have t3 := hSw.kx.cell 3 _ rfl
          go_simp
        simp only [Act.put, List.setIfInBounds_toArray, List.set_cons_zero, List.set_cons_succ]
        refine wpAnyH_all (rs := [0]) (by kernel_rfl) (by simp) ?_
        intro j hj
        simp only [List.mem_cons, List.not_mem_nil, or_false] at hj
        subst hj
        refine opCalledR (R := fun w' => Below (wc.drew).heap.size (wc.drew) w') (v := stepsV) (f := 41) (args := #[]) rfl rfl (by rfl) ?_ (sw_steps _) ?_
        · go_simp
        intro w5 hB
        have hHeld := hHeld.step hB
        refine ⟨hHeld, ?_⟩
        clear hB
        simp only [Act.put, List.setIfInBounds_toArray, List.set_cons_zero, List.set_cons_succ]
        refine takeD (i := 3) (v := .func (.func 55) #[] #[]) rfl rfl (by kernel_rfl) (by kernel_rfl) (by kernel_rfl) (fun c a w h => ⟨inv3_put (by decide) (by decide) (by decide) h.1, h.2⟩) (by rfl) ?_ hHeld ?_
        · intro W hSw
          have t := steps_at0 W
          go_simp
        simp only [Act.put, List.setIfInBounds_toArray, List.set_cons_zero, List.set_cons_succ]
        refine wpAnyH_all (rs := [5]) (by kernel_rfl) (by simp) ?_
        intro j hj
        simp only [List.mem_cons, List.not_mem_nil, or_false] at hj
        subst hj
        refine opDied (c := [{ v := .iface 92 (.int .i64 (quE sa v)), recovered := false }]) (f := 55) (args := #[.agg #[.pointer (some ⟨w.heap.size, 0, none⟩), .pointer (some ⟨b, i * 8, none⟩), .pointer (some ⟨b, k * 8, none⟩), .int .i64 v]]) rfl (by rfl) ?_ (Calls.mono (HMV.out _ hHeld.st.mv) ?_) ?_
        · go_simp
        · rintro en w' ⟨rfl, hB⟩; exact ⟨rfl, hHeld.step hB⟩
        · intro w' hS; exact ⟨⟨rfl, rfl, rfl, rfl⟩, rfl, hS⟩
    · subst hs
      obtain ⟨⟨y1, y2, y3, y4, y5, y6, y7, y8⟩, hq⟩ : ∃ q : Proc, (if decide (v < cy) = true then (⟨ki, fr, to_, 1, ep, cy, false, false⟩ : Proc) else ⟨ki, fr, to_, 2, ep, cy, false, false⟩) = q := ⟨_, rfl⟩
      have hsp : sucP ⟨ki, fr, to_, 1, ep, cy, false, false⟩ v = ⟨y1, y2, y3, y4, y5, y6, y7, y8⟩ := by rw [← hq]; simp [sucP]
      by_cases he : drE ⟨ki, fr, to_, 1, ep, cy, false, false⟩ sa sb v = 0
      · have hr : r = (⟨y1, y2, y3, y4, y5, y6, y7, y8⟩, l, 0) := HT.out.trans (by simp [sucE, sucL, he, hsp])
        subst hr
        have hmv : ∀ W, Mv (e0 w) W w.heap.size b c1 ⟨ki, fr, to_, 1, ep, cy, false, false⟩ m → Calls Try.prog 56 #[.agg #[.pointer (some ⟨w.heap.size, 0, none⟩), .pointer (some ⟨b, i * 8, none⟩), .pointer (some ⟨b, k * 8, none⟩), .int .i64 v]] W (fun en W' => ∃ m', MvOk (e0 w) W w.heap.size b c1 ⟨y1, y2, y3, y4, y5, y6, y7, y8⟩ m' en W' ∧ m'.map (·.s) = l ∧ m'.length = m.length) := fun W H =>
          (mv_drain (e0 w) W w.heap.size b c1 i k ⟨ki, fr, to_, 1, ep, cy, false, false⟩ m v sa sb H HLT.out.1 HLT.out.2 HAB.out.1 HAB.out.2).mono (by rintro en W' (⟨h0, -⟩ | ⟨-, h⟩); exact absurd he h0; exact ⟨m, by rw [← hq]; exact h, HM.out, rfl⟩)
        have HMV := Keep.mk hmv
        clear hmv he h5 hq hsp
        go_wp2_with (first | (go_at_call 34; (with_reducible refine (sw_demand_ok _ _).mono ?_); rintro e w' ⟨rfl, hw⟩; subst w') | (go_at_call 34; (with_reducible refine (sw_demand_no _ _).mono ?_); rintro e w' ⟨rfl, hw⟩; subst w'))
        have HG0 := HG.out.drew
        refine wp_region_noPanic (wp_region_held_drew (S := (fun W => Held w gx [.pointer (some ⟨w.heap.size, 0, none⟩), .pointer (some ⟨b, i * 8, none⟩), .pointer (some ⟨b, k * 8, none⟩), .int .i64 v] 79 W)) (by kernel_rfl) HG0.kx (fun hHeld => ?_))
        refine takeD (i := 1) (v := .pointer (some ⟨w.heap.size, 3, none⟩)) rfl rfl (by kernel_rfl) (by kernel_rfl) (by kernel_rfl) (fun _ _ _ h => h) (by rfl) ?_ hHeld ?_
        · intro W hSw
          go_simp
        simp only [Act.put, List.setIfInBounds_toArray, List.set_cons_zero, List.set_cons_succ]
        refine takeD (i := 4) (v := .agg #[.pointer (some ⟨w.heap.size, 0, none⟩), .pointer (some ⟨b, i * 8, none⟩), .pointer (some ⟨b, k * 8, none⟩), .int .i64 v]) rfl rfl (by kernel_rfl) (by kernel_rfl) (by kernel_rfl) (fun _ _ _ h => h) (by rfl) ?_ hHeld ?_
        · intro W hSw
          have t0 := hSw.cell 0 _ rfl
          have t1 := hSw.cell 1 _ rfl
          have t2 := hSw.cell 2 _ rfl
          have t3 := hSw.cell 3 _ rfl
          go_simp
        simp only [Act.put, List.setIfInBounds_toArray, List.set_cons_zero, List.set_cons_succ]
        refine wpAnyH_all (rs := [0, 2]) (by kernel_rfl) (by simp) ?_
        intro j hj
        simp only [List.mem_cons, List.not_mem_nil, or_false] at hj
        rcases hj with rfl | rfl
        · refine opCalledR (R := fun w' => Below (wc.drew).heap.size (wc.drew) w') (v := stepsV) (f := 41) (args := #[]) rfl rfl (by rfl) ?_ (sw_steps _) ?_
          · go_simp
          intro w5 hB
          have HG5 := HG0.step hB
          refine ⟨HG5.kx, ?_⟩
          have hHeld := HG5.kx
          clear hB
          simp only [Act.put, List.setIfInBounds_toArray, List.set_cons_zero, List.set_cons_succ]
          refine wpAnyH_all (rs := [2]) (by kernel_rfl) (by simp) ?_
          intro j hj
          simp only [List.mem_cons, List.not_mem_nil, or_false] at hj
          subst hj
          refine opRan (v := .int .i64 1) (w' := w5) rfl rfl (by rfl) ?_ HG5.kx ?_
          · have t9 := HG5.st.mv.kp.cell 3 _ rfl
            (try simp only at t9)
            go_simp
          have hHeld := HG5.kx
          simp only [Act.put, List.setIfInBounds_toArray, List.set_cons_zero, List.set_cons_succ]
          refine takeD (i := 3) (v := .func (.func 56) #[] #[]) rfl rfl (by kernel_rfl) (by kernel_rfl) (by kernel_rfl) (fun _ _ _ h => h) (by rfl) ?_ hHeld ?_
          · intro W hSw
            have t := steps_at1 W
            go_simp
          simp only [Act.put, List.setIfInBounds_toArray, List.set_cons_zero, List.set_cons_succ]
          refine wpAnyH_all (rs := [5]) (by kernel_rfl) (by simp) ?_
          intro j hj
          simp only [List.mem_cons, List.not_mem_nil, or_false] at hj
          subst hj
          refine opCalledR (R := fun w' => ∃ m', StG w w' b c1 gx i k ⟨y1, y2, y3, y4, y5, y6, y7, y8⟩ m' v ∧ m'.map (·.s) = l ∧ m'.length = m.length) (v := .tuple #[]) (f := 56) (args := #[.agg #[.pointer (some ⟨w.heap.size, 0, none⟩), .pointer (some ⟨b, i * 8, none⟩), .pointer (some ⟨b, k * 8, none⟩), .int .i64 v]]) rfl rfl (by rfl) ?_ (Calls.mono (HMV.out _ HG5.st.mv) ?_) ?_
          · go_simp
          · rintro en w' ⟨m', ⟨rfl, hv, hh⟩, hm, hl⟩; exact ⟨rfl, m', HG5.moved hv hh hl, hm, hl⟩
          rintro w' ⟨m', hg, hm, hl⟩
          refine ⟨hg.kx, wpAnyH_done (by kernel_rfl) (NoPanic.normal ?_) _⟩
          simp only [Act.put, List.setIfInBounds_toArray, List.set_cons_zero, List.set_cons_succ]
          have HML2 := Keep.mk (HML.out.trans hl.symm)
          have HM2 := Keep.mk hm
          have hS := hg.st
          clear hg hm hl hHeld HG5 HG0
          go_wp2_with fail
          generalize w' = W9 at hS ⊢
          have HS9 := Keep.mk hS
          clear p0 p1 p2 p3 p4 p5 p6 p7 p8
          obtain ⟨⟨p0, p1, p2, p3, p4, p5, p6, p7⟩, p8⟩ := HS9.out.mv.kp.c8
          obtain ⟨⟨q0, q1, q2, q3, q4, q5, q6, q7⟩, q8⟩ := HS9.out.kq.c8
          have m0 := HS9.out.cm HML2.out
          have m8 : ∀ j, W9.frozen? ⟨w.heap.size + 1 + 1, j, none⟩ = false := HS9.out.km.frozen
          have e0 : W9.cell? ⟨w.heap.size + 1 + 1 + 1, 0, none⟩ = some (.int .i64 0) := HS9.out.ke.cell 0 _ rfl
          have e8 : ∀ j, W9.frozen? ⟨w.heap.size + 1 + 1 + 1, j, none⟩ = false := HS9.out.ke.frozen
          clear hS
          go_region
          go_wp2_with fail
          have hE := step_end HS9.out HML2.out
          exact step_door_ok w _ _ rfl rfl rfl ⟨y1, y2, y3, y4, y5, y6, y7, y8⟩ _ _ _ _ HM2.out 0 hE.1 hE.2.1 hE.2.2.1 hE.2.2.2
        · refine opRan (v := .int .i64 1) (w' := wc.drew) rfl rfl (by rfl) ?_ HG0.kx ?_
          · have t9 := HG0.st.mv.kp.cell 3 _ rfl
            (try simp only at t9)
            go_simp
          have hHeld := HG0.kx
          simp only [Act.put, List.setIfInBounds_toArray, List.set_cons_zero, List.set_cons_succ]
          refine wpAnyH_all (rs := [0]) (by kernel_rfl) (by simp) ?_
          intro j hj
          simp only [List.mem_cons, List.not_mem_nil, or_false] at hj
          subst hj
          refine opCalledR (R := fun w' => Below (wc.drew).heap.size (wc.drew) w') (v := stepsV) (f := 41) (args := #[]) rfl rfl (by rfl) ?_ (sw_steps _) ?_
          · go_simp
          intro w5 hB
          have HG5 := HG0.step hB
          refine ⟨HG5.kx, ?_⟩
          have hHeld := HG5.kx
          clear hB
          simp only [Act.put, List.setIfInBounds_toArray, List.set_cons_zero, List.set_cons_succ]
          refine takeD (i := 3) (v := .func (.func 56) #[] #[]) rfl rfl (by kernel_rfl) (by kernel_rfl) (by kernel_rfl) (fun _ _ _ h => h) (by rfl) ?_ hHeld ?_
          · intro W hSw
            have t := steps_at1 W
            go_simp
          simp only [Act.put, List.setIfInBounds_toArray, List.set_cons_zero, List.set_cons_succ]
          refine wpAnyH_all (rs := [5]) (by kernel_rfl) (by simp) ?_
          intro j hj
          simp only [List.mem_cons, List.not_mem_nil, or_false] at hj
          subst hj
          refine opCalledR (R := fun w' => ∃ m', StG w w' b c1 gx i k ⟨y1, y2, y3, y4, y5, y6, y7, y8⟩ m' v ∧ m'.map (·.s) = l ∧ m'.length = m.length) (v := .tuple #[]) (f := 56) (args := #[.agg #[.pointer (some ⟨w.heap.size, 0, none⟩), .pointer (some ⟨b, i * 8, none⟩), .pointer (some ⟨b, k * 8, none⟩), .int .i64 v]]) rfl rfl (by rfl) ?_ (Calls.mono (HMV.out _ HG5.st.mv) ?_) ?_
          · go_simp
          · rintro en w' ⟨m', ⟨rfl, hv, hh⟩, hm, hl⟩; exact ⟨rfl, m', HG5.moved hv hh hl, hm, hl⟩
          rintro w' ⟨m', hg, hm, hl⟩
          refine ⟨hg.kx, wpAnyH_done (by kernel_rfl) (NoPanic.normal ?_) _⟩
          simp only [Act.put, List.setIfInBounds_toArray, List.set_cons_zero, List.set_cons_succ]
          have HML2 := Keep.mk (HML.out.trans hl.symm)
          have HM2 := Keep.mk hm
          have hS := hg.st
          clear hg hm hl hHeld HG5 HG0
          go_wp2_with fail
          generalize w' = W9 at hS ⊢
          have HS9 := Keep.mk hS
          clear p0 p1 p2 p3 p4 p5 p6 p7 p8
          obtain ⟨⟨p0, p1, p2, p3, p4, p5, p6, p7⟩, p8⟩ := HS9.out.mv.kp.c8
          obtain ⟨⟨q0, q1, q2, q3, q4, q5, q6, q7⟩, q8⟩ := HS9.out.kq.c8
          have m0 := HS9.out.cm HML2.out
          have m8 : ∀ j, W9.frozen? ⟨w.heap.size + 1 + 1, j, none⟩ = false := HS9.out.km.frozen
          have e0 : W9.cell? ⟨w.heap.size + 1 + 1 + 1, 0, none⟩ = some (.int .i64 0) := HS9.out.ke.cell 0 _ rfl
          have e8 : ∀ j, W9.frozen? ⟨w.heap.size + 1 + 1 + 1, j, none⟩ = false := HS9.out.ke.frozen
          clear hS
          go_region
          go_wp2_with fail
          have hE := step_end HS9.out HML2.out
          exact step_door_ok w _ _ rfl rfl rfl ⟨y1, y2, y3, y4, y5, y6, y7, y8⟩ _ _ _ _ HM2.out 0 hE.1 hE.2.1 hE.2.2.1 hE.2.2.2
      · have hr : r = (zP, [], drE ⟨ki, fr, to_, 1, ep, cy, false, false⟩ sa sb v) := HT.out.trans (by simp [sucE, he])
        subst hr
        have hmv : ∀ W, Mv (e0 w) W w.heap.size b c1 ⟨ki, fr, to_, 1, ep, cy, false, false⟩ m → Calls Try.prog 56 #[.agg #[.pointer (some ⟨w.heap.size, 0, none⟩), .pointer (some ⟨b, i * 8, none⟩), .pointer (some ⟨b, k * 8, none⟩), .int .i64 v]] W (fun en W' => en = .panicked [{ v := .iface 92 (.int .i64 (drE ⟨ki, fr, to_, 1, ep, cy, false, false⟩ sa sb v)), recovered := false }] ∧ Below W.heap.size W W') := fun W H =>
          (mv_drain (e0 w) W w.heap.size b c1 i k ⟨ki, fr, to_, 1, ep, cy, false, false⟩ m v sa sb H HLT.out.1 HLT.out.2 HAB.out.1 HAB.out.2).mono (by rintro en W' (⟨h0, h⟩ | ⟨h0, h⟩); exact h; exact absurd h0 he)
        have HMV := Keep.mk hmv
        clear hmv he h5 hq hsp
        go_wp2_with (first | (go_at_call 34; (with_reducible refine (sw_demand_ok _ _).mono ?_); rintro e w' ⟨rfl, hw⟩; subst w') | (go_at_call 34; (with_reducible refine (sw_demand_no _ _).mono ?_); rintro e w' ⟨rfl, hw⟩; subst w'))
        refine wp_region_pan (fun W => StG w W b c1 gx i k ⟨ki, fr, to_, 1, ep, cy, false, false⟩ m v) (Inv3 [{ target := Target.fn (Fn.func 39) #[.pointer (some ⟨w.heap.size + 1, 0, none⟩), .pointer (some ⟨w.heap.size + 1 + 1, 0, none⟩), .pointer (some ⟨w.heap.size + 1 + 1 + 1, 0, none⟩)], args := #[] }] 8 9 10 (.pointer (some ⟨w.heap.size + 1, 0, none⟩)) (.pointer (some ⟨w.heap.size + 1 + 1, 0, none⟩)) (.pointer (some ⟨w.heap.size + 1 + 1 + 1, 0, none⟩))) [{ v := .iface 92 (.int .i64 (drE ⟨ki, fr, to_, 1, ep, cy, false, false⟩ sa sb v)), recovered := false }] (by kernel_rfl) ?_ HG.out.drew (fun hHeld => ?_)
        · rintro ⟨tmps, ds⟩ W ⟨h1, h8, h9, h10⟩ hS
          simp only at h1 h8 h9 h10
          subst h1
          exact step_door w W tmps h8 h9 h10 hS.st.kq hS.st.km hS.st.ke _
        refine takeD (i := 1) (v := .pointer (some ⟨w.heap.size, 3, none⟩)) rfl rfl (by kernel_rfl) (by kernel_rfl) (by kernel_rfl) (fun c a w h => ⟨inv3_put (by decide) (by decide) (by decide) h.1, h.2⟩) (by rfl) ?_ hHeld ?_
        · intro W hSw
          go_simp
        simp only [Act.put, List.setIfInBounds_toArray, List.set_cons_zero, List.set_cons_succ]
        refine takeD (i := 2) (v := .int .i64 1) rfl rfl (by kernel_rfl) (by kernel_rfl) (by kernel_rfl) (fun c a w h => ⟨inv3_put (by decide) (by decide) (by decide) h.1, h.2⟩) (by rfl) ?_ hHeld ?_
        · intro W hSw
          have t9 := hSw.st.mv.kp.cell 3 _ rfl
          (try simp only at t9)
          go_simp
        simp only [Act.put, List.setIfInBounds_toArray, List.set_cons_zero, List.set_cons_succ]
        refine takeD (i := 4) (v := .agg #[.pointer (some ⟨w.heap.size, 0, none⟩), .pointer (some ⟨b, i * 8, none⟩), .pointer (some ⟨b, k * 8, none⟩), .int .i64 v]) rfl rfl (by kernel_rfl) (by kernel_rfl) (by kernel_rfl) (fun c a w h => ⟨inv3_put (by decide) (by decide) (by decide) h.1, h.2⟩) (by rfl) ?_ hHeld ?_
        · intro W hSw
          have t0 := hSw.kx.cell 0 _ rfl
          have t1 := hSw.kx.cell 1 _ rfl
          have t2 := hSw.kx.cell 2 _ rfl
          have t3 := hSw.kx.cell 3 _ rfl
          go_simp
        simp only [Act.put, List.setIfInBounds_toArray, List.set_cons_zero, List.set_cons_succ]
        refine wpAnyH_all (rs := [0]) (by kernel_rfl) (by simp) ?_
        intro j hj
        simp only [List.mem_cons, List.not_mem_nil, or_false] at hj
        subst hj
        refine opCalledR (R := fun w' => Below (wc.drew).heap.size (wc.drew) w') (v := stepsV) (f := 41) (args := #[]) rfl rfl (by rfl) ?_ (sw_steps _) ?_
        · go_simp
        intro w5 hB
        have hHeld := hHeld.step hB
        refine ⟨hHeld, ?_⟩
        clear hB
        simp only [Act.put, List.setIfInBounds_toArray, List.set_cons_zero, List.set_cons_succ]
        refine takeD (i := 3) (v := .func (.func 56) #[] #[]) rfl rfl (by kernel_rfl) (by kernel_rfl) (by kernel_rfl) (fun c a w h => ⟨inv3_put (by decide) (by decide) (by decide) h.1, h.2⟩) (by rfl) ?_ hHeld ?_
        · intro W hSw
          have t := steps_at1 W
          go_simp
        simp only [Act.put, List.setIfInBounds_toArray, List.set_cons_zero, List.set_cons_succ]
        refine wpAnyH_all (rs := [5]) (by kernel_rfl) (by simp) ?_
        intro j hj
        simp only [List.mem_cons, List.not_mem_nil, or_false] at hj
        subst hj
        refine opDied (c := [{ v := .iface 92 (.int .i64 (drE ⟨ki, fr, to_, 1, ep, cy, false, false⟩ sa sb v)), recovered := false }]) (f := 56) (args := #[.agg #[.pointer (some ⟨w.heap.size, 0, none⟩), .pointer (some ⟨b, i * 8, none⟩), .pointer (some ⟨b, k * 8, none⟩), .int .i64 v]]) rfl (by rfl) ?_ (Calls.mono (HMV.out _ hHeld.st.mv) ?_) ?_
        · go_simp
        · rintro en w' ⟨rfl, hB⟩; exact ⟨rfl, hHeld.step hB⟩
        · intro w' hS; exact ⟨⟨rfl, rfl, rfl, rfl⟩, rfl, hS⟩
    · subst hs
      by_cases he : grE sa sb v = 0
      · have hr : r = (⟨ki, fr, to_, 3, v, cy, false, false⟩, l, 0) := HT.out.trans (by simp [sucE, sucP, sucL, he])
        subst hr
        have hmv : ∀ W, Mv (e0 w) W w.heap.size b c1 ⟨ki, fr, to_, 2, ep, cy, false, false⟩ m → Calls Try.prog 57 #[.agg #[.pointer (some ⟨w.heap.size, 0, none⟩), .pointer (some ⟨b, i * 8, none⟩), .pointer (some ⟨b, k * 8, none⟩), .int .i64 v]] W (fun en W' => ∃ m', MvOk (e0 w) W w.heap.size b c1 ⟨ki, fr, to_, 3, v, cy, false, false⟩ m' en W' ∧ m'.map (·.s) = l ∧ m'.length = m.length) := fun W H =>
          (mv_grant (e0 w) W w.heap.size b c1 i k ⟨ki, fr, to_, 2, ep, cy, false, false⟩ m v sa sb H HLT.out.1 HLT.out.2 HAB.out.1 HAB.out.2).mono (by rintro en W' (⟨h0, -⟩ | ⟨-, h⟩); exact absurd he h0; exact ⟨m, h, HM.out, rfl⟩)
        have HMV := Keep.mk hmv
        clear hmv he h5
        go_wp2_with (first | (go_at_call 34; (with_reducible refine (sw_demand_ok _ _).mono ?_); rintro e w' ⟨rfl, hw⟩; subst w') | (go_at_call 34; (with_reducible refine (sw_demand_no _ _).mono ?_); rintro e w' ⟨rfl, hw⟩; subst w'))
        have HG0 := HG.out.drew
        refine wp_region_noPanic (wp_region_held_drew (S := (fun W => Held w gx [.pointer (some ⟨w.heap.size, 0, none⟩), .pointer (some ⟨b, i * 8, none⟩), .pointer (some ⟨b, k * 8, none⟩), .int .i64 v] 79 W)) (by kernel_rfl) HG0.kx (fun hHeld => ?_))
        refine takeD (i := 1) (v := .pointer (some ⟨w.heap.size, 3, none⟩)) rfl rfl (by kernel_rfl) (by kernel_rfl) (by kernel_rfl) (fun _ _ _ h => h) (by rfl) ?_ hHeld ?_
        · intro W hSw
          go_simp
        simp only [Act.put, List.setIfInBounds_toArray, List.set_cons_zero, List.set_cons_succ]
        refine takeD (i := 4) (v := .agg #[.pointer (some ⟨w.heap.size, 0, none⟩), .pointer (some ⟨b, i * 8, none⟩), .pointer (some ⟨b, k * 8, none⟩), .int .i64 v]) rfl rfl (by kernel_rfl) (by kernel_rfl) (by kernel_rfl) (fun _ _ _ h => h) (by rfl) ?_ hHeld ?_
        · intro W hSw
          have t0 := hSw.cell 0 _ rfl
          have t1 := hSw.cell 1 _ rfl
          have t2 := hSw.cell 2 _ rfl
          have t3 := hSw.cell 3 _ rfl
          go_simp
        simp only [Act.put, List.setIfInBounds_toArray, List.set_cons_zero, List.set_cons_succ]
        refine wpAnyH_all (rs := [0, 2]) (by kernel_rfl) (by simp) ?_
        intro j hj
        simp only [List.mem_cons, List.not_mem_nil, or_false] at hj
        rcases hj with rfl | rfl
        · refine opCalledR (R := fun w' => Below (wc.drew).heap.size (wc.drew) w') (v := stepsV) (f := 41) (args := #[]) rfl rfl (by rfl) ?_ (sw_steps _) ?_
          · go_simp
          intro w5 hB
          have HG5 := HG0.step hB
          refine ⟨HG5.kx, ?_⟩
          have hHeld := HG5.kx
          clear hB
          simp only [Act.put, List.setIfInBounds_toArray, List.set_cons_zero, List.set_cons_succ]
          refine wpAnyH_all (rs := [2]) (by kernel_rfl) (by simp) ?_
          intro j hj
          simp only [List.mem_cons, List.not_mem_nil, or_false] at hj
          subst hj
          refine opRan (v := .int .i64 2) (w' := w5) rfl rfl (by rfl) ?_ HG5.kx ?_
          · have t9 := HG5.st.mv.kp.cell 3 _ rfl
            (try simp only at t9)
            go_simp
          have hHeld := HG5.kx
          simp only [Act.put, List.setIfInBounds_toArray, List.set_cons_zero, List.set_cons_succ]
          refine takeD (i := 3) (v := .func (.func 57) #[] #[]) rfl rfl (by kernel_rfl) (by kernel_rfl) (by kernel_rfl) (fun _ _ _ h => h) (by rfl) ?_ hHeld ?_
          · intro W hSw
            have t := steps_at2 W
            go_simp
          simp only [Act.put, List.setIfInBounds_toArray, List.set_cons_zero, List.set_cons_succ]
          refine wpAnyH_all (rs := [5]) (by kernel_rfl) (by simp) ?_
          intro j hj
          simp only [List.mem_cons, List.not_mem_nil, or_false] at hj
          subst hj
          refine opCalledR (R := fun w' => ∃ m', StG w w' b c1 gx i k ⟨ki, fr, to_, 3, v, cy, false, false⟩ m' v ∧ m'.map (·.s) = l ∧ m'.length = m.length) (v := .tuple #[]) (f := 57) (args := #[.agg #[.pointer (some ⟨w.heap.size, 0, none⟩), .pointer (some ⟨b, i * 8, none⟩), .pointer (some ⟨b, k * 8, none⟩), .int .i64 v]]) rfl rfl (by rfl) ?_ (Calls.mono (HMV.out _ HG5.st.mv) ?_) ?_
          · go_simp
          · rintro en w' ⟨m', ⟨rfl, hv, hh⟩, hm, hl⟩; exact ⟨rfl, m', HG5.moved hv hh hl, hm, hl⟩
          rintro w' ⟨m', hg, hm, hl⟩
          refine ⟨hg.kx, wpAnyH_done (by kernel_rfl) (NoPanic.normal ?_) _⟩
          simp only [Act.put, List.setIfInBounds_toArray, List.set_cons_zero, List.set_cons_succ]
          have HML2 := Keep.mk (HML.out.trans hl.symm)
          have HM2 := Keep.mk hm
          have hS := hg.st
          clear hg hm hl hHeld HG5 HG0
          go_wp2_with fail
          generalize w' = W9 at hS ⊢
          have HS9 := Keep.mk hS
          clear p0 p1 p2 p3 p4 p5 p6 p7 p8
          obtain ⟨⟨p0, p1, p2, p3, p4, p5, p6, p7⟩, p8⟩ := HS9.out.mv.kp.c8
          obtain ⟨⟨q0, q1, q2, q3, q4, q5, q6, q7⟩, q8⟩ := HS9.out.kq.c8
          have m0 := HS9.out.cm HML2.out
          have m8 : ∀ j, W9.frozen? ⟨w.heap.size + 1 + 1, j, none⟩ = false := HS9.out.km.frozen
          have e0 : W9.cell? ⟨w.heap.size + 1 + 1 + 1, 0, none⟩ = some (.int .i64 0) := HS9.out.ke.cell 0 _ rfl
          have e8 : ∀ j, W9.frozen? ⟨w.heap.size + 1 + 1 + 1, j, none⟩ = false := HS9.out.ke.frozen
          clear hS
          go_region
          go_wp2_with fail
          have hE := step_end HS9.out HML2.out
          exact step_door_ok w _ _ rfl rfl rfl ⟨ki, fr, to_, 3, v, cy, false, false⟩ _ _ _ _ HM2.out 0 hE.1 hE.2.1 hE.2.2.1 hE.2.2.2
        · refine opRan (v := .int .i64 2) (w' := wc.drew) rfl rfl (by rfl) ?_ HG0.kx ?_
          · have t9 := HG0.st.mv.kp.cell 3 _ rfl
            (try simp only at t9)
            go_simp
          have hHeld := HG0.kx
          simp only [Act.put, List.setIfInBounds_toArray, List.set_cons_zero, List.set_cons_succ]
          refine wpAnyH_all (rs := [0]) (by kernel_rfl) (by simp) ?_
          intro j hj
          simp only [List.mem_cons, List.not_mem_nil, or_false] at hj
          subst hj
          refine opCalledR (R := fun w' => Below (wc.drew).heap.size (wc.drew) w') (v := stepsV) (f := 41) (args := #[]) rfl rfl (by rfl) ?_ (sw_steps _) ?_
          · go_simp
          intro w5 hB
          have HG5 := HG0.step hB
          refine ⟨HG5.kx, ?_⟩
          have hHeld := HG5.kx
          clear hB
          simp only [Act.put, List.setIfInBounds_toArray, List.set_cons_zero, List.set_cons_succ]
          refine takeD (i := 3) (v := .func (.func 57) #[] #[]) rfl rfl (by kernel_rfl) (by kernel_rfl) (by kernel_rfl) (fun _ _ _ h => h) (by rfl) ?_ hHeld ?_
          · intro W hSw
            have t := steps_at2 W
            go_simp
          simp only [Act.put, List.setIfInBounds_toArray, List.set_cons_zero, List.set_cons_succ]
          refine wpAnyH_all (rs := [5]) (by kernel_rfl) (by simp) ?_
          intro j hj
          simp only [List.mem_cons, List.not_mem_nil, or_false] at hj
          subst hj
          refine opCalledR (R := fun w' => ∃ m', StG w w' b c1 gx i k ⟨ki, fr, to_, 3, v, cy, false, false⟩ m' v ∧ m'.map (·.s) = l ∧ m'.length = m.length) (v := .tuple #[]) (f := 57) (args := #[.agg #[.pointer (some ⟨w.heap.size, 0, none⟩), .pointer (some ⟨b, i * 8, none⟩), .pointer (some ⟨b, k * 8, none⟩), .int .i64 v]]) rfl rfl (by rfl) ?_ (Calls.mono (HMV.out _ HG5.st.mv) ?_) ?_
          · go_simp
          · rintro en w' ⟨m', ⟨rfl, hv, hh⟩, hm, hl⟩; exact ⟨rfl, m', HG5.moved hv hh hl, hm, hl⟩
          rintro w' ⟨m', hg, hm, hl⟩
          refine ⟨hg.kx, wpAnyH_done (by kernel_rfl) (NoPanic.normal ?_) _⟩
          simp only [Act.put, List.setIfInBounds_toArray, List.set_cons_zero, List.set_cons_succ]
          have HML2 := Keep.mk (HML.out.trans hl.symm)
          have HM2 := Keep.mk hm
          have hS := hg.st
          clear hg hm hl hHeld HG5 HG0
          go_wp2_with fail
          generalize w' = W9 at hS ⊢
          have HS9 := Keep.mk hS
          clear p0 p1 p2 p3 p4 p5 p6 p7 p8
          obtain ⟨⟨p0, p1, p2, p3, p4, p5, p6, p7⟩, p8⟩ := HS9.out.mv.kp.c8
          obtain ⟨⟨q0, q1, q2, q3, q4, q5, q6, q7⟩, q8⟩ := HS9.out.kq.c8
          have m0 := HS9.out.cm HML2.out
          have m8 : ∀ j, W9.frozen? ⟨w.heap.size + 1 + 1, j, none⟩ = false := HS9.out.km.frozen
          have e0 : W9.cell? ⟨w.heap.size + 1 + 1 + 1, 0, none⟩ = some (.int .i64 0) := HS9.out.ke.cell 0 _ rfl
          have e8 : ∀ j, W9.frozen? ⟨w.heap.size + 1 + 1 + 1, j, none⟩ = false := HS9.out.ke.frozen
          clear hS
          go_region
          go_wp2_with fail
          have hE := step_end HS9.out HML2.out
          exact step_door_ok w _ _ rfl rfl rfl ⟨ki, fr, to_, 3, v, cy, false, false⟩ _ _ _ _ HM2.out 0 hE.1 hE.2.1 hE.2.2.1 hE.2.2.2
      · have hr : r = (zP, [], grE sa sb v) := HT.out.trans (by simp [sucE, he])
        subst hr
        have hmv : ∀ W, Mv (e0 w) W w.heap.size b c1 ⟨ki, fr, to_, 2, ep, cy, false, false⟩ m → Calls Try.prog 57 #[.agg #[.pointer (some ⟨w.heap.size, 0, none⟩), .pointer (some ⟨b, i * 8, none⟩), .pointer (some ⟨b, k * 8, none⟩), .int .i64 v]] W (fun en W' => en = .panicked [{ v := .iface 92 (.int .i64 (grE sa sb v)), recovered := false }] ∧ Below W.heap.size W W') := fun W H =>
          (mv_grant (e0 w) W w.heap.size b c1 i k ⟨ki, fr, to_, 2, ep, cy, false, false⟩ m v sa sb H HLT.out.1 HLT.out.2 HAB.out.1 HAB.out.2).mono (by rintro en W' (⟨h0, h⟩ | ⟨h0, h⟩); exact h; exact absurd h0 he)
        have HMV := Keep.mk hmv
        clear hmv he h5
        go_wp2_with (first | (go_at_call 34; (with_reducible refine (sw_demand_ok _ _).mono ?_); rintro e w' ⟨rfl, hw⟩; subst w') | (go_at_call 34; (with_reducible refine (sw_demand_no _ _).mono ?_); rintro e w' ⟨rfl, hw⟩; subst w'))
        refine wp_region_pan (fun W => StG w W b c1 gx i k ⟨ki, fr, to_, 2, ep, cy, false, false⟩ m v) (Inv3 [{ target := Target.fn (Fn.func 39) #[.pointer (some ⟨w.heap.size + 1, 0, none⟩), .pointer (some ⟨w.heap.size + 1 + 1, 0, none⟩), .pointer (some ⟨w.heap.size + 1 + 1 + 1, 0, none⟩)], args := #[] }] 8 9 10 (.pointer (some ⟨w.heap.size + 1, 0, none⟩)) (.pointer (some ⟨w.heap.size + 1 + 1, 0, none⟩)) (.pointer (some ⟨w.heap.size + 1 + 1 + 1, 0, none⟩))) [{ v := .iface 92 (.int .i64 (grE sa sb v)), recovered := false }] (by kernel_rfl) ?_ HG.out.drew (fun hHeld => ?_)
        · rintro ⟨tmps, ds⟩ W ⟨h1, h8, h9, h10⟩ hS
          simp only at h1 h8 h9 h10
          subst h1
          exact step_door w W tmps h8 h9 h10 hS.st.kq hS.st.km hS.st.ke _
        refine takeD (i := 1) (v := .pointer (some ⟨w.heap.size, 3, none⟩)) rfl rfl (by kernel_rfl) (by kernel_rfl) (by kernel_rfl) (fun c a w h => ⟨inv3_put (by decide) (by decide) (by decide) h.1, h.2⟩) (by rfl) ?_ hHeld ?_
        · intro W hSw
          go_simp
        simp only [Act.put, List.setIfInBounds_toArray, List.set_cons_zero, List.set_cons_succ]
        refine takeD (i := 2) (v := .int .i64 2) rfl rfl (by kernel_rfl) (by kernel_rfl) (by kernel_rfl) (fun c a w h => ⟨inv3_put (by decide) (by decide) (by decide) h.1, h.2⟩) (by rfl) ?_ hHeld ?_
        · intro W hSw
          have t9 := hSw.st.mv.kp.cell 3 _ rfl
          (try simp only at t9)
          go_simp
        simp only [Act.put, List.setIfInBounds_toArray, List.set_cons_zero, List.set_cons_succ]
        refine takeD (i := 4) (v := .agg #[.pointer (some ⟨w.heap.size, 0, none⟩), .pointer (some ⟨b, i * 8, none⟩), .pointer (some ⟨b, k * 8, none⟩), .int .i64 v]) rfl rfl (by kernel_rfl) (by kernel_rfl) (by kernel_rfl) (fun c a w h => ⟨inv3_put (by decide) (by decide) (by decide) h.1, h.2⟩) (by rfl) ?_ hHeld ?_
        · intro W hSw
          have t0 := hSw.kx.cell 0 _ rfl
          have t1 := hSw.kx.cell 1 _ rfl
          have t2 := hSw.kx.cell 2 _ rfl
          have t3 := hSw.kx.cell 3 _ rfl
          go_simp
        simp only [Act.put, List.setIfInBounds_toArray, List.set_cons_zero, List.set_cons_succ]
        refine wpAnyH_all (rs := [0]) (by kernel_rfl) (by simp) ?_
        intro j hj
        simp only [List.mem_cons, List.not_mem_nil, or_false] at hj
        subst hj
        refine opCalledR (R := fun w' => Below (wc.drew).heap.size (wc.drew) w') (v := stepsV) (f := 41) (args := #[]) rfl rfl (by rfl) ?_ (sw_steps _) ?_
        · go_simp
        intro w5 hB
        have hHeld := hHeld.step hB
        refine ⟨hHeld, ?_⟩
        clear hB
        simp only [Act.put, List.setIfInBounds_toArray, List.set_cons_zero, List.set_cons_succ]
        refine takeD (i := 3) (v := .func (.func 57) #[] #[]) rfl rfl (by kernel_rfl) (by kernel_rfl) (by kernel_rfl) (fun c a w h => ⟨inv3_put (by decide) (by decide) (by decide) h.1, h.2⟩) (by rfl) ?_ hHeld ?_
        · intro W hSw
          have t := steps_at2 W
          go_simp
        simp only [Act.put, List.setIfInBounds_toArray, List.set_cons_zero, List.set_cons_succ]
        refine wpAnyH_all (rs := [5]) (by kernel_rfl) (by simp) ?_
        intro j hj
        simp only [List.mem_cons, List.not_mem_nil, or_false] at hj
        subst hj
        refine opDied (c := [{ v := .iface 92 (.int .i64 (grE sa sb v)), recovered := false }]) (f := 57) (args := #[.agg #[.pointer (some ⟨w.heap.size, 0, none⟩), .pointer (some ⟨b, i * 8, none⟩), .pointer (some ⟨b, k * 8, none⟩), .int .i64 v]]) rfl (by rfl) ?_ (Calls.mono (HMV.out _ hHeld.st.mv) ?_) ?_
        · go_simp
        · rintro en w' ⟨rfl, hB⟩; exact ⟨rfl, hHeld.step hB⟩
        · intro w' hS; exact ⟨⟨rfl, rfl, rfl, rfl⟩, rfl, hS⟩
    · subst hs
      have hsl : sucL ⟨ki, fr, to_, 3, ep, cy, false, false⟩ l i k = l.set i (demoteS sa ep to_).1 := by simp only [sucL, HSS.out.1, HSS.out.2]; rfl
      by_cases he : deE ⟨ki, fr, to_, 3, ep, cy, false, false⟩ sa sb = 0
      · have hr : r = (⟨ki, fr, to_, 4, ep, cy, false, false⟩, (l.set i (demoteS sa ep to_).1), 0) := HT.out.trans (by simp [sucE, sucP, hsl, he])
        subst hr
        have hmv : ∀ W, Mv (e0 w) W w.heap.size b c1 ⟨ki, fr, to_, 3, ep, cy, false, false⟩ m → Calls Try.prog 58 #[.agg #[.pointer (some ⟨w.heap.size, 0, none⟩), .pointer (some ⟨b, i * 8, none⟩), .pointer (some ⟨b, k * 8, none⟩), .int .i64 v]] W (fun en W' => ∃ m', MvOk (e0 w) W w.heap.size b c1 ⟨ki, fr, to_, 4, ep, cy, false, false⟩ m' en W' ∧ m'.map (·.s) = (l.set i (demoteS sa ep to_).1) ∧ m'.length = m.length) := fun W H =>
          (mv_demote (e0 w) W w.heap.size b c1 i k ⟨ki, fr, to_, 3, ep, cy, false, false⟩ m v sa sb H HLT.out.1 HLT.out.2 HAB.out.1 HAB.out.2).mono (by rintro en W' ⟨A', c', (⟨h0, -⟩ | ⟨-, h⟩)⟩; exact absurd he h0; exact ⟨_, h, by rw [List.map_set, HM.out], by rw [List.length_set]⟩)
        have HMV := Keep.mk hmv
        clear hmv he h5 hsl
        go_wp2_with (first | (go_at_call 34; (with_reducible refine (sw_demand_ok _ _).mono ?_); rintro e w' ⟨rfl, hw⟩; subst w') | (go_at_call 34; (with_reducible refine (sw_demand_no _ _).mono ?_); rintro e w' ⟨rfl, hw⟩; subst w'))
        have HG0 := HG.out.drew
        refine wp_region_noPanic (wp_region_held_drew (S := (fun W => Held w gx [.pointer (some ⟨w.heap.size, 0, none⟩), .pointer (some ⟨b, i * 8, none⟩), .pointer (some ⟨b, k * 8, none⟩), .int .i64 v] 79 W)) (by kernel_rfl) HG0.kx (fun hHeld => ?_))
        refine takeD (i := 1) (v := .pointer (some ⟨w.heap.size, 3, none⟩)) rfl rfl (by kernel_rfl) (by kernel_rfl) (by kernel_rfl) (fun _ _ _ h => h) (by rfl) ?_ hHeld ?_
        · intro W hSw
          go_simp
        simp only [Act.put, List.setIfInBounds_toArray, List.set_cons_zero, List.set_cons_succ]
        refine takeD (i := 4) (v := .agg #[.pointer (some ⟨w.heap.size, 0, none⟩), .pointer (some ⟨b, i * 8, none⟩), .pointer (some ⟨b, k * 8, none⟩), .int .i64 v]) rfl rfl (by kernel_rfl) (by kernel_rfl) (by kernel_rfl) (fun _ _ _ h => h) (by rfl) ?_ hHeld ?_
        · intro W hSw
          have t0 := hSw.cell 0 _ rfl
          have t1 := hSw.cell 1 _ rfl
          have t2 := hSw.cell 2 _ rfl
          have t3 := hSw.cell 3 _ rfl
          go_simp
        simp only [Act.put, List.setIfInBounds_toArray, List.set_cons_zero, List.set_cons_succ]
        refine wpAnyH_all (rs := [0, 2]) (by kernel_rfl) (by simp) ?_
        intro j hj
        simp only [List.mem_cons, List.not_mem_nil, or_false] at hj
        rcases hj with rfl | rfl
        · refine opCalledR (R := fun w' => Below (wc.drew).heap.size (wc.drew) w') (v := stepsV) (f := 41) (args := #[]) rfl rfl (by rfl) ?_ (sw_steps _) ?_
          · go_simp
          intro w5 hB
          have HG5 := HG0.step hB
          refine ⟨HG5.kx, ?_⟩
          have hHeld := HG5.kx
          clear hB
          simp only [Act.put, List.setIfInBounds_toArray, List.set_cons_zero, List.set_cons_succ]
          refine wpAnyH_all (rs := [2]) (by kernel_rfl) (by simp) ?_
          intro j hj
          simp only [List.mem_cons, List.not_mem_nil, or_false] at hj
          subst hj
          refine opRan (v := .int .i64 3) (w' := w5) rfl rfl (by rfl) ?_ HG5.kx ?_
          · have t9 := HG5.st.mv.kp.cell 3 _ rfl
            (try simp only at t9)
            go_simp
          have hHeld := HG5.kx
          simp only [Act.put, List.setIfInBounds_toArray, List.set_cons_zero, List.set_cons_succ]
          refine takeD (i := 3) (v := .func (.func 58) #[] #[]) rfl rfl (by kernel_rfl) (by kernel_rfl) (by kernel_rfl) (fun _ _ _ h => h) (by rfl) ?_ hHeld ?_
          · intro W hSw
            have t := steps_at3 W
            go_simp
          simp only [Act.put, List.setIfInBounds_toArray, List.set_cons_zero, List.set_cons_succ]
          refine wpAnyH_all (rs := [5]) (by kernel_rfl) (by simp) ?_
          intro j hj
          simp only [List.mem_cons, List.not_mem_nil, or_false] at hj
          subst hj
          refine opCalledR (R := fun w' => ∃ m', StG w w' b c1 gx i k ⟨ki, fr, to_, 4, ep, cy, false, false⟩ m' v ∧ m'.map (·.s) = (l.set i (demoteS sa ep to_).1) ∧ m'.length = m.length) (v := .tuple #[]) (f := 58) (args := #[.agg #[.pointer (some ⟨w.heap.size, 0, none⟩), .pointer (some ⟨b, i * 8, none⟩), .pointer (some ⟨b, k * 8, none⟩), .int .i64 v]]) rfl rfl (by rfl) ?_ (Calls.mono (HMV.out _ HG5.st.mv) ?_) ?_
          · go_simp
          · rintro en w' ⟨m', ⟨rfl, hv, hh⟩, hm, hl⟩; exact ⟨rfl, m', HG5.moved hv hh hl, hm, hl⟩
          rintro w' ⟨m', hg, hm, hl⟩
          refine ⟨hg.kx, wpAnyH_done (by kernel_rfl) (NoPanic.normal ?_) _⟩
          simp only [Act.put, List.setIfInBounds_toArray, List.set_cons_zero, List.set_cons_succ]
          have HML2 := Keep.mk (HML.out.trans hl.symm)
          have HM2 := Keep.mk hm
          have hS := hg.st
          clear hg hm hl hHeld HG5 HG0
          go_wp2_with fail
          generalize w' = W9 at hS ⊢
          have HS9 := Keep.mk hS
          clear p0 p1 p2 p3 p4 p5 p6 p7 p8
          obtain ⟨⟨p0, p1, p2, p3, p4, p5, p6, p7⟩, p8⟩ := HS9.out.mv.kp.c8
          obtain ⟨⟨q0, q1, q2, q3, q4, q5, q6, q7⟩, q8⟩ := HS9.out.kq.c8
          have m0 := HS9.out.cm HML2.out
          have m8 : ∀ j, W9.frozen? ⟨w.heap.size + 1 + 1, j, none⟩ = false := HS9.out.km.frozen
          have e0 : W9.cell? ⟨w.heap.size + 1 + 1 + 1, 0, none⟩ = some (.int .i64 0) := HS9.out.ke.cell 0 _ rfl
          have e8 : ∀ j, W9.frozen? ⟨w.heap.size + 1 + 1 + 1, j, none⟩ = false := HS9.out.ke.frozen
          clear hS
          go_region
          go_wp2_with fail
          have hE := step_end HS9.out HML2.out
          exact step_door_ok w _ _ rfl rfl rfl ⟨ki, fr, to_, 4, ep, cy, false, false⟩ _ _ _ _ HM2.out 0 hE.1 hE.2.1 hE.2.2.1 hE.2.2.2
        · refine opRan (v := .int .i64 3) (w' := wc.drew) rfl rfl (by rfl) ?_ HG0.kx ?_
          · have t9 := HG0.st.mv.kp.cell 3 _ rfl
            (try simp only at t9)
            go_simp
          have hHeld := HG0.kx
          simp only [Act.put, List.setIfInBounds_toArray, List.set_cons_zero, List.set_cons_succ]
          refine wpAnyH_all (rs := [0]) (by kernel_rfl) (by simp) ?_
          intro j hj
          simp only [List.mem_cons, List.not_mem_nil, or_false] at hj
          subst hj
          refine opCalledR (R := fun w' => Below (wc.drew).heap.size (wc.drew) w') (v := stepsV) (f := 41) (args := #[]) rfl rfl (by rfl) ?_ (sw_steps _) ?_
          · go_simp
          intro w5 hB
          have HG5 := HG0.step hB
          refine ⟨HG5.kx, ?_⟩
          have hHeld := HG5.kx
          clear hB
          simp only [Act.put, List.setIfInBounds_toArray, List.set_cons_zero, List.set_cons_succ]
          refine takeD (i := 3) (v := .func (.func 58) #[] #[]) rfl rfl (by kernel_rfl) (by kernel_rfl) (by kernel_rfl) (fun _ _ _ h => h) (by rfl) ?_ hHeld ?_
          · intro W hSw
            have t := steps_at3 W
            go_simp
          simp only [Act.put, List.setIfInBounds_toArray, List.set_cons_zero, List.set_cons_succ]
          refine wpAnyH_all (rs := [5]) (by kernel_rfl) (by simp) ?_
          intro j hj
          simp only [List.mem_cons, List.not_mem_nil, or_false] at hj
          subst hj
          refine opCalledR (R := fun w' => ∃ m', StG w w' b c1 gx i k ⟨ki, fr, to_, 4, ep, cy, false, false⟩ m' v ∧ m'.map (·.s) = (l.set i (demoteS sa ep to_).1) ∧ m'.length = m.length) (v := .tuple #[]) (f := 58) (args := #[.agg #[.pointer (some ⟨w.heap.size, 0, none⟩), .pointer (some ⟨b, i * 8, none⟩), .pointer (some ⟨b, k * 8, none⟩), .int .i64 v]]) rfl rfl (by rfl) ?_ (Calls.mono (HMV.out _ HG5.st.mv) ?_) ?_
          · go_simp
          · rintro en w' ⟨m', ⟨rfl, hv, hh⟩, hm, hl⟩; exact ⟨rfl, m', HG5.moved hv hh hl, hm, hl⟩
          rintro w' ⟨m', hg, hm, hl⟩
          refine ⟨hg.kx, wpAnyH_done (by kernel_rfl) (NoPanic.normal ?_) _⟩
          simp only [Act.put, List.setIfInBounds_toArray, List.set_cons_zero, List.set_cons_succ]
          have HML2 := Keep.mk (HML.out.trans hl.symm)
          have HM2 := Keep.mk hm
          have hS := hg.st
          clear hg hm hl hHeld HG5 HG0
          go_wp2_with fail
          generalize w' = W9 at hS ⊢
          have HS9 := Keep.mk hS
          clear p0 p1 p2 p3 p4 p5 p6 p7 p8
          obtain ⟨⟨p0, p1, p2, p3, p4, p5, p6, p7⟩, p8⟩ := HS9.out.mv.kp.c8
          obtain ⟨⟨q0, q1, q2, q3, q4, q5, q6, q7⟩, q8⟩ := HS9.out.kq.c8
          have m0 := HS9.out.cm HML2.out
          have m8 : ∀ j, W9.frozen? ⟨w.heap.size + 1 + 1, j, none⟩ = false := HS9.out.km.frozen
          have e0 : W9.cell? ⟨w.heap.size + 1 + 1 + 1, 0, none⟩ = some (.int .i64 0) := HS9.out.ke.cell 0 _ rfl
          have e8 : ∀ j, W9.frozen? ⟨w.heap.size + 1 + 1 + 1, j, none⟩ = false := HS9.out.ke.frozen
          clear hS
          go_region
          go_wp2_with fail
          have hE := step_end HS9.out HML2.out
          exact step_door_ok w _ _ rfl rfl rfl ⟨ki, fr, to_, 4, ep, cy, false, false⟩ _ _ _ _ HM2.out 0 hE.1 hE.2.1 hE.2.2.1 hE.2.2.2
      · have hr : r = (zP, [], deE ⟨ki, fr, to_, 3, ep, cy, false, false⟩ sa sb) := HT.out.trans (by simp [sucE, he])
        subst hr
        have hmv : ∀ W, Mv (e0 w) W w.heap.size b c1 ⟨ki, fr, to_, 3, ep, cy, false, false⟩ m → Calls Try.prog 58 #[.agg #[.pointer (some ⟨w.heap.size, 0, none⟩), .pointer (some ⟨b, i * 8, none⟩), .pointer (some ⟨b, k * 8, none⟩), .int .i64 v]] W (fun en W' => en = .panicked [{ v := .iface 92 (.int .i64 (deE ⟨ki, fr, to_, 3, ep, cy, false, false⟩ sa sb)), recovered := false }] ∧ Below W.heap.size W W') := fun W H =>
          (mv_demote (e0 w) W w.heap.size b c1 i k ⟨ki, fr, to_, 3, ep, cy, false, false⟩ m v sa sb H HLT.out.1 HLT.out.2 HAB.out.1 HAB.out.2).mono (by rintro en W' ⟨A', c', (⟨h0, h⟩ | ⟨h0, h⟩)⟩; exact h; exact absurd h0 he)
        have HMV := Keep.mk hmv
        clear hmv he h5 hsl
        go_wp2_with (first | (go_at_call 34; (with_reducible refine (sw_demand_ok _ _).mono ?_); rintro e w' ⟨rfl, hw⟩; subst w') | (go_at_call 34; (with_reducible refine (sw_demand_no _ _).mono ?_); rintro e w' ⟨rfl, hw⟩; subst w'))
        refine wp_region_pan (fun W => StG w W b c1 gx i k ⟨ki, fr, to_, 3, ep, cy, false, false⟩ m v) (Inv3 [{ target := Target.fn (Fn.func 39) #[.pointer (some ⟨w.heap.size + 1, 0, none⟩), .pointer (some ⟨w.heap.size + 1 + 1, 0, none⟩), .pointer (some ⟨w.heap.size + 1 + 1 + 1, 0, none⟩)], args := #[] }] 8 9 10 (.pointer (some ⟨w.heap.size + 1, 0, none⟩)) (.pointer (some ⟨w.heap.size + 1 + 1, 0, none⟩)) (.pointer (some ⟨w.heap.size + 1 + 1 + 1, 0, none⟩))) [{ v := .iface 92 (.int .i64 (deE ⟨ki, fr, to_, 3, ep, cy, false, false⟩ sa sb)), recovered := false }] (by kernel_rfl) ?_ HG.out.drew (fun hHeld => ?_)
        · rintro ⟨tmps, ds⟩ W ⟨h1, h8, h9, h10⟩ hS
          simp only at h1 h8 h9 h10
          subst h1
          exact step_door w W tmps h8 h9 h10 hS.st.kq hS.st.km hS.st.ke _
        refine takeD (i := 1) (v := .pointer (some ⟨w.heap.size, 3, none⟩)) rfl rfl (by kernel_rfl) (by kernel_rfl) (by kernel_rfl) (fun c a w h => ⟨inv3_put (by decide) (by decide) (by decide) h.1, h.2⟩) (by rfl) ?_ hHeld ?_
        · intro W hSw
          go_simp
        simp only [Act.put, List.setIfInBounds_toArray, List.set_cons_zero, List.set_cons_succ]
        refine takeD (i := 2) (v := .int .i64 3) rfl rfl (by kernel_rfl) (by kernel_rfl) (by kernel_rfl) (fun c a w h => ⟨inv3_put (by decide) (by decide) (by decide) h.1, h.2⟩) (by rfl) ?_ hHeld ?_
        · intro W hSw
          have t9 := hSw.st.mv.kp.cell 3 _ rfl
          (try simp only at t9)
          go_simp
        simp only [Act.put, List.setIfInBounds_toArray, List.set_cons_zero, List.set_cons_succ]
        refine takeD (i := 4) (v := .agg #[.pointer (some ⟨w.heap.size, 0, none⟩), .pointer (some ⟨b, i * 8, none⟩), .pointer (some ⟨b, k * 8, none⟩), .int .i64 v]) rfl rfl (by kernel_rfl) (by kernel_rfl) (by kernel_rfl) (fun c a w h => ⟨inv3_put (by decide) (by decide) (by decide) h.1, h.2⟩) (by rfl) ?_ hHeld ?_
        · intro W hSw
          have t0 := hSw.kx.cell 0 _ rfl
          have t1 := hSw.kx.cell 1 _ rfl
          have t2 := hSw.kx.cell 2 _ rfl
          have t3 := hSw.kx.cell 3 _ rfl
          go_simp
        simp only [Act.put, List.setIfInBounds_toArray, List.set_cons_zero, List.set_cons_succ]
        refine wpAnyH_all (rs := [0]) (by kernel_rfl) (by simp) ?_
        intro j hj
        simp only [List.mem_cons, List.not_mem_nil, or_false] at hj
        subst hj
        refine opCalledR (R := fun w' => Below (wc.drew).heap.size (wc.drew) w') (v := stepsV) (f := 41) (args := #[]) rfl rfl (by rfl) ?_ (sw_steps _) ?_
        · go_simp
        intro w5 hB
        have hHeld := hHeld.step hB
        refine ⟨hHeld, ?_⟩
        clear hB
        simp only [Act.put, List.setIfInBounds_toArray, List.set_cons_zero, List.set_cons_succ]
        refine takeD (i := 3) (v := .func (.func 58) #[] #[]) rfl rfl (by kernel_rfl) (by kernel_rfl) (by kernel_rfl) (fun c a w h => ⟨inv3_put (by decide) (by decide) (by decide) h.1, h.2⟩) (by rfl) ?_ hHeld ?_
        · intro W hSw
          have t := steps_at3 W
          go_simp
        simp only [Act.put, List.setIfInBounds_toArray, List.set_cons_zero, List.set_cons_succ]
        refine wpAnyH_all (rs := [5]) (by kernel_rfl) (by simp) ?_
        intro j hj
        simp only [List.mem_cons, List.not_mem_nil, or_false] at hj
        subst hj
        refine opDied (c := [{ v := .iface 92 (.int .i64 (deE ⟨ki, fr, to_, 3, ep, cy, false, false⟩ sa sb)), recovered := false }]) (f := 58) (args := #[.agg #[.pointer (some ⟨w.heap.size, 0, none⟩), .pointer (some ⟨b, i * 8, none⟩), .pointer (some ⟨b, k * 8, none⟩), .int .i64 v]]) rfl (by rfl) ?_ (Calls.mono (HMV.out _ hHeld.st.mv) ?_) ?_
        · go_simp
        · rintro en w' ⟨rfl, hB⟩; exact ⟨rfl, hHeld.step hB⟩
        · intro w' hS; exact ⟨⟨rfl, rfl, rfl, rfl⟩, rfl, hS⟩
    · subst hs
      have hsl : sucL ⟨ki, fr, to_, 4, ep, cy, false, false⟩ l i k = l.set k (promoteS sb ep).1 := by simp only [sucL, HSS.out.1, HSS.out.2]; rfl
      by_cases he : prE ⟨ki, fr, to_, 4, ep, cy, false, false⟩ sb = 0
      · have hr : r = (⟨ki, fr, to_, 5, ep, cy, true, false⟩, (l.set k (promoteS sb ep).1), 0) := HT.out.trans (by simp [sucE, sucP, hsl, he])
        subst hr
        have hmv : ∀ W, Mv (e0 w) W w.heap.size b c1 ⟨ki, fr, to_, 4, ep, cy, false, false⟩ m → Calls Try.prog 59 #[.agg #[.pointer (some ⟨w.heap.size, 0, none⟩), .pointer (some ⟨b, i * 8, none⟩), .pointer (some ⟨b, k * 8, none⟩), .int .i64 v]] W (fun en W' => ∃ m', MvOk (e0 w) W w.heap.size b c1 ⟨ki, fr, to_, 5, ep, cy, true, false⟩ m' en W' ∧ m'.map (·.s) = (l.set k (promoteS sb ep).1) ∧ m'.length = m.length) := fun W H =>
          (mv_promote (e0 w) W w.heap.size b c1 i k ⟨ki, fr, to_, 4, ep, cy, false, false⟩ m v sa sb H HLT.out.1 HLT.out.2 HAB.out.1 HAB.out.2).mono (by rintro en W' ⟨A', c', (⟨h0, -⟩ | ⟨-, h⟩)⟩; exact absurd he h0; exact ⟨_, h, by rw [List.map_set, HM.out], by rw [List.length_set]⟩)
        have HMV := Keep.mk hmv
        clear hmv he h5 hsl
        go_wp2_with (first | (go_at_call 34; (with_reducible refine (sw_demand_ok _ _).mono ?_); rintro e w' ⟨rfl, hw⟩; subst w') | (go_at_call 34; (with_reducible refine (sw_demand_no _ _).mono ?_); rintro e w' ⟨rfl, hw⟩; subst w'))
        have HG0 := HG.out.drew
        refine wp_region_noPanic (wp_region_held_drew (S := (fun W => Held w gx [.pointer (some ⟨w.heap.size, 0, none⟩), .pointer (some ⟨b, i * 8, none⟩), .pointer (some ⟨b, k * 8, none⟩), .int .i64 v] 79 W)) (by kernel_rfl) HG0.kx (fun hHeld => ?_))
        refine takeD (i := 1) (v := .pointer (some ⟨w.heap.size, 3, none⟩)) rfl rfl (by kernel_rfl) (by kernel_rfl) (by kernel_rfl) (fun _ _ _ h => h) (by rfl) ?_ hHeld ?_
        · intro W hSw
          go_simp
        simp only [Act.put, List.setIfInBounds_toArray, List.set_cons_zero, List.set_cons_succ]
        refine takeD (i := 4) (v := .agg #[.pointer (some ⟨w.heap.size, 0, none⟩), .pointer (some ⟨b, i * 8, none⟩), .pointer (some ⟨b, k * 8, none⟩), .int .i64 v]) rfl rfl (by kernel_rfl) (by kernel_rfl) (by kernel_rfl) (fun _ _ _ h => h) (by rfl) ?_ hHeld ?_
        · intro W hSw
          have t0 := hSw.cell 0 _ rfl
          have t1 := hSw.cell 1 _ rfl
          have t2 := hSw.cell 2 _ rfl
          have t3 := hSw.cell 3 _ rfl
          go_simp
        simp only [Act.put, List.setIfInBounds_toArray, List.set_cons_zero, List.set_cons_succ]
        refine wpAnyH_all (rs := [0, 2]) (by kernel_rfl) (by simp) ?_
        intro j hj
        simp only [List.mem_cons, List.not_mem_nil, or_false] at hj
        rcases hj with rfl | rfl
        · refine opCalledR (R := fun w' => Below (wc.drew).heap.size (wc.drew) w') (v := stepsV) (f := 41) (args := #[]) rfl rfl (by rfl) ?_ (sw_steps _) ?_
          · go_simp
          intro w5 hB
          have HG5 := HG0.step hB
          refine ⟨HG5.kx, ?_⟩
          have hHeld := HG5.kx
          clear hB
          simp only [Act.put, List.setIfInBounds_toArray, List.set_cons_zero, List.set_cons_succ]
          refine wpAnyH_all (rs := [2]) (by kernel_rfl) (by simp) ?_
          intro j hj
          simp only [List.mem_cons, List.not_mem_nil, or_false] at hj
          subst hj
          refine opRan (v := .int .i64 4) (w' := w5) rfl rfl (by rfl) ?_ HG5.kx ?_
          · have t9 := HG5.st.mv.kp.cell 3 _ rfl
            (try simp only at t9)
            go_simp
          have hHeld := HG5.kx
          simp only [Act.put, List.setIfInBounds_toArray, List.set_cons_zero, List.set_cons_succ]
          refine takeD (i := 3) (v := .func (.func 59) #[] #[]) rfl rfl (by kernel_rfl) (by kernel_rfl) (by kernel_rfl) (fun _ _ _ h => h) (by rfl) ?_ hHeld ?_
          · intro W hSw
            have t := steps_at4 W
            go_simp
          simp only [Act.put, List.setIfInBounds_toArray, List.set_cons_zero, List.set_cons_succ]
          refine wpAnyH_all (rs := [5]) (by kernel_rfl) (by simp) ?_
          intro j hj
          simp only [List.mem_cons, List.not_mem_nil, or_false] at hj
          subst hj
          refine opCalledR (R := fun w' => ∃ m', StG w w' b c1 gx i k ⟨ki, fr, to_, 5, ep, cy, true, false⟩ m' v ∧ m'.map (·.s) = (l.set k (promoteS sb ep).1) ∧ m'.length = m.length) (v := .tuple #[]) (f := 59) (args := #[.agg #[.pointer (some ⟨w.heap.size, 0, none⟩), .pointer (some ⟨b, i * 8, none⟩), .pointer (some ⟨b, k * 8, none⟩), .int .i64 v]]) rfl rfl (by rfl) ?_ (Calls.mono (HMV.out _ HG5.st.mv) ?_) ?_
          · go_simp
          · rintro en w' ⟨m', ⟨rfl, hv, hh⟩, hm, hl⟩; exact ⟨rfl, m', HG5.moved hv hh hl, hm, hl⟩
          rintro w' ⟨m', hg, hm, hl⟩
          refine ⟨hg.kx, wpAnyH_done (by kernel_rfl) (NoPanic.normal ?_) _⟩
          simp only [Act.put, List.setIfInBounds_toArray, List.set_cons_zero, List.set_cons_succ]
          have HML2 := Keep.mk (HML.out.trans hl.symm)
          have HM2 := Keep.mk hm
          have hS := hg.st
          clear hg hm hl hHeld HG5 HG0
          go_wp2_with fail
          generalize w' = W9 at hS ⊢
          have HS9 := Keep.mk hS
          clear p0 p1 p2 p3 p4 p5 p6 p7 p8
          obtain ⟨⟨p0, p1, p2, p3, p4, p5, p6, p7⟩, p8⟩ := HS9.out.mv.kp.c8
          obtain ⟨⟨q0, q1, q2, q3, q4, q5, q6, q7⟩, q8⟩ := HS9.out.kq.c8
          have m0 := HS9.out.cm HML2.out
          have m8 : ∀ j, W9.frozen? ⟨w.heap.size + 1 + 1, j, none⟩ = false := HS9.out.km.frozen
          have e0 : W9.cell? ⟨w.heap.size + 1 + 1 + 1, 0, none⟩ = some (.int .i64 0) := HS9.out.ke.cell 0 _ rfl
          have e8 : ∀ j, W9.frozen? ⟨w.heap.size + 1 + 1 + 1, j, none⟩ = false := HS9.out.ke.frozen
          clear hS
          go_region
          go_wp2_with fail
          have hE := step_end HS9.out HML2.out
          exact step_door_ok w _ _ rfl rfl rfl ⟨ki, fr, to_, 5, ep, cy, true, false⟩ _ _ _ _ HM2.out 0 hE.1 hE.2.1 hE.2.2.1 hE.2.2.2
        · refine opRan (v := .int .i64 4) (w' := wc.drew) rfl rfl (by rfl) ?_ HG0.kx ?_
          · have t9 := HG0.st.mv.kp.cell 3 _ rfl
            (try simp only at t9)
            go_simp
          have hHeld := HG0.kx
          simp only [Act.put, List.setIfInBounds_toArray, List.set_cons_zero, List.set_cons_succ]
          refine wpAnyH_all (rs := [0]) (by kernel_rfl) (by simp) ?_
          intro j hj
          simp only [List.mem_cons, List.not_mem_nil, or_false] at hj
          subst hj
          refine opCalledR (R := fun w' => Below (wc.drew).heap.size (wc.drew) w') (v := stepsV) (f := 41) (args := #[]) rfl rfl (by rfl) ?_ (sw_steps _) ?_
          · go_simp
          intro w5 hB
          have HG5 := HG0.step hB
          refine ⟨HG5.kx, ?_⟩
          have hHeld := HG5.kx
          clear hB
          simp only [Act.put, List.setIfInBounds_toArray, List.set_cons_zero, List.set_cons_succ]
          refine takeD (i := 3) (v := .func (.func 59) #[] #[]) rfl rfl (by kernel_rfl) (by kernel_rfl) (by kernel_rfl) (fun _ _ _ h => h) (by rfl) ?_ hHeld ?_
          · intro W hSw
            have t := steps_at4 W
            go_simp
          simp only [Act.put, List.setIfInBounds_toArray, List.set_cons_zero, List.set_cons_succ]
          refine wpAnyH_all (rs := [5]) (by kernel_rfl) (by simp) ?_
          intro j hj
          simp only [List.mem_cons, List.not_mem_nil, or_false] at hj
          subst hj
          refine opCalledR (R := fun w' => ∃ m', StG w w' b c1 gx i k ⟨ki, fr, to_, 5, ep, cy, true, false⟩ m' v ∧ m'.map (·.s) = (l.set k (promoteS sb ep).1) ∧ m'.length = m.length) (v := .tuple #[]) (f := 59) (args := #[.agg #[.pointer (some ⟨w.heap.size, 0, none⟩), .pointer (some ⟨b, i * 8, none⟩), .pointer (some ⟨b, k * 8, none⟩), .int .i64 v]]) rfl rfl (by rfl) ?_ (Calls.mono (HMV.out _ HG5.st.mv) ?_) ?_
          · go_simp
          · rintro en w' ⟨m', ⟨rfl, hv, hh⟩, hm, hl⟩; exact ⟨rfl, m', HG5.moved hv hh hl, hm, hl⟩
          rintro w' ⟨m', hg, hm, hl⟩
          refine ⟨hg.kx, wpAnyH_done (by kernel_rfl) (NoPanic.normal ?_) _⟩
          simp only [Act.put, List.setIfInBounds_toArray, List.set_cons_zero, List.set_cons_succ]
          have HML2 := Keep.mk (HML.out.trans hl.symm)
          have HM2 := Keep.mk hm
          have hS := hg.st
          clear hg hm hl hHeld HG5 HG0
          go_wp2_with fail
          generalize w' = W9 at hS ⊢
          have HS9 := Keep.mk hS
          clear p0 p1 p2 p3 p4 p5 p6 p7 p8
          obtain ⟨⟨p0, p1, p2, p3, p4, p5, p6, p7⟩, p8⟩ := HS9.out.mv.kp.c8
          obtain ⟨⟨q0, q1, q2, q3, q4, q5, q6, q7⟩, q8⟩ := HS9.out.kq.c8
          have m0 := HS9.out.cm HML2.out
          have m8 : ∀ j, W9.frozen? ⟨w.heap.size + 1 + 1, j, none⟩ = false := HS9.out.km.frozen
          have e0 : W9.cell? ⟨w.heap.size + 1 + 1 + 1, 0, none⟩ = some (.int .i64 0) := HS9.out.ke.cell 0 _ rfl
          have e8 : ∀ j, W9.frozen? ⟨w.heap.size + 1 + 1 + 1, j, none⟩ = false := HS9.out.ke.frozen
          clear hS
          go_region
          go_wp2_with fail
          have hE := step_end HS9.out HML2.out
          exact step_door_ok w _ _ rfl rfl rfl ⟨ki, fr, to_, 5, ep, cy, true, false⟩ _ _ _ _ HM2.out 0 hE.1 hE.2.1 hE.2.2.1 hE.2.2.2
      · have hr : r = (zP, [], prE ⟨ki, fr, to_, 4, ep, cy, false, false⟩ sb) := HT.out.trans (by simp [sucE, he])
        subst hr
        have hmv : ∀ W, Mv (e0 w) W w.heap.size b c1 ⟨ki, fr, to_, 4, ep, cy, false, false⟩ m → Calls Try.prog 59 #[.agg #[.pointer (some ⟨w.heap.size, 0, none⟩), .pointer (some ⟨b, i * 8, none⟩), .pointer (some ⟨b, k * 8, none⟩), .int .i64 v]] W (fun en W' => en = .panicked [{ v := .iface 92 (.int .i64 (prE ⟨ki, fr, to_, 4, ep, cy, false, false⟩ sb)), recovered := false }] ∧ Below W.heap.size W W') := fun W H =>
          (mv_promote (e0 w) W w.heap.size b c1 i k ⟨ki, fr, to_, 4, ep, cy, false, false⟩ m v sa sb H HLT.out.1 HLT.out.2 HAB.out.1 HAB.out.2).mono (by rintro en W' ⟨A', c', (⟨h0, h⟩ | ⟨h0, h⟩)⟩; exact h; exact absurd h0 he)
        have HMV := Keep.mk hmv
        clear hmv he h5 hsl
        go_wp2_with (first | (go_at_call 34; (with_reducible refine (sw_demand_ok _ _).mono ?_); rintro e w' ⟨rfl, hw⟩; subst w') | (go_at_call 34; (with_reducible refine (sw_demand_no _ _).mono ?_); rintro e w' ⟨rfl, hw⟩; subst w'))
        refine wp_region_pan (fun W => StG w W b c1 gx i k ⟨ki, fr, to_, 4, ep, cy, false, false⟩ m v) (Inv3 [{ target := Target.fn (Fn.func 39) #[.pointer (some ⟨w.heap.size + 1, 0, none⟩), .pointer (some ⟨w.heap.size + 1 + 1, 0, none⟩), .pointer (some ⟨w.heap.size + 1 + 1 + 1, 0, none⟩)], args := #[] }] 8 9 10 (.pointer (some ⟨w.heap.size + 1, 0, none⟩)) (.pointer (some ⟨w.heap.size + 1 + 1, 0, none⟩)) (.pointer (some ⟨w.heap.size + 1 + 1 + 1, 0, none⟩))) [{ v := .iface 92 (.int .i64 (prE ⟨ki, fr, to_, 4, ep, cy, false, false⟩ sb)), recovered := false }] (by kernel_rfl) ?_ HG.out.drew (fun hHeld => ?_)
        · rintro ⟨tmps, ds⟩ W ⟨h1, h8, h9, h10⟩ hS
          simp only at h1 h8 h9 h10
          subst h1
          exact step_door w W tmps h8 h9 h10 hS.st.kq hS.st.km hS.st.ke _
        refine takeD (i := 1) (v := .pointer (some ⟨w.heap.size, 3, none⟩)) rfl rfl (by kernel_rfl) (by kernel_rfl) (by kernel_rfl) (fun c a w h => ⟨inv3_put (by decide) (by decide) (by decide) h.1, h.2⟩) (by rfl) ?_ hHeld ?_
        · intro W hSw
          go_simp
        simp only [Act.put, List.setIfInBounds_toArray, List.set_cons_zero, List.set_cons_succ]
        refine takeD (i := 2) (v := .int .i64 4) rfl rfl (by kernel_rfl) (by kernel_rfl) (by kernel_rfl) (fun c a w h => ⟨inv3_put (by decide) (by decide) (by decide) h.1, h.2⟩) (by rfl) ?_ hHeld ?_
        · intro W hSw
          have t9 := hSw.st.mv.kp.cell 3 _ rfl
          (try simp only at t9)
          go_simp
        simp only [Act.put, List.setIfInBounds_toArray, List.set_cons_zero, List.set_cons_succ]
        refine takeD (i := 4) (v := .agg #[.pointer (some ⟨w.heap.size, 0, none⟩), .pointer (some ⟨b, i * 8, none⟩), .pointer (some ⟨b, k * 8, none⟩), .int .i64 v]) rfl rfl (by kernel_rfl) (by kernel_rfl) (by kernel_rfl) (fun c a w h => ⟨inv3_put (by decide) (by decide) (by decide) h.1, h.2⟩) (by rfl) ?_ hHeld ?_
        · intro W hSw
          have t0 := hSw.kx.cell 0 _ rfl
          have t1 := hSw.kx.cell 1 _ rfl
          have t2 := hSw.kx.cell 2 _ rfl
          have t3 := hSw.kx.cell 3 _ rfl
          go_simp
        simp only [Act.put, List.setIfInBounds_toArray, List.set_cons_zero, List.set_cons_succ]
        refine wpAnyH_all (rs := [0]) (by kernel_rfl) (by simp) ?_
        intro j hj
        simp only [List.mem_cons, List.not_mem_nil, or_false] at hj
        subst hj
        refine opCalledR (R := fun w' => Below (wc.drew).heap.size (wc.drew) w') (v := stepsV) (f := 41) (args := #[]) rfl rfl (by rfl) ?_ (sw_steps _) ?_
        · go_simp
        intro w5 hB
        have hHeld := hHeld.step hB
        refine ⟨hHeld, ?_⟩
        clear hB
        simp only [Act.put, List.setIfInBounds_toArray, List.set_cons_zero, List.set_cons_succ]
        refine takeD (i := 3) (v := .func (.func 59) #[] #[]) rfl rfl (by kernel_rfl) (by kernel_rfl) (by kernel_rfl) (fun c a w h => ⟨inv3_put (by decide) (by decide) (by decide) h.1, h.2⟩) (by rfl) ?_ hHeld ?_
        · intro W hSw
          have t := steps_at4 W
          go_simp
        simp only [Act.put, List.setIfInBounds_toArray, List.set_cons_zero, List.set_cons_succ]
        refine wpAnyH_all (rs := [5]) (by kernel_rfl) (by simp) ?_
        intro j hj
        simp only [List.mem_cons, List.not_mem_nil, or_false] at hj
        subst hj
        refine opDied (c := [{ v := .iface 92 (.int .i64 (prE ⟨ki, fr, to_, 4, ep, cy, false, false⟩ sb)), recovered := false }]) (f := 59) (args := #[.agg #[.pointer (some ⟨w.heap.size, 0, none⟩), .pointer (some ⟨b, i * 8, none⟩), .pointer (some ⟨b, k * 8, none⟩), .int .i64 v]]) rfl (by rfl) ?_ (Calls.mono (HMV.out _ hHeld.st.mv) ?_) ?_
        · go_simp
        · rintro en w' ⟨rfl, hB⟩; exact ⟨rfl, hHeld.step hB⟩
        · intro w' hS; exact ⟨⟨rfl, rfl, rfl, rfl⟩, rfl, hS⟩
    · exact absurd hs h5
end Go.Proofs.Ytijhkgabonkmfaa
