/- Contract: standbylaw52.awake. -/
import Derived.Test.YtijhkgabonkmfaaLwA
namespace Go.Proofs.Ytijhkgabonkmfaa
open Go.RowKit
set_option linter.unusedSimpArgs false
set_option linter.unusedVariables false
set_option maxRecDepth 100000
theorem aw0 : beginS (pairS 4 3) 0 1 = (⟨1, 0, 1, 0, 0, 4, false, false⟩, 0) := by kernel_rfl
theorem aw1 : stepS ⟨1, 0, 1, 0, 0, 4, false, false⟩ (pairS 4 3) true 4 = (⟨1, 0, 1, 1, 0, 4, false, false⟩, pairS 4 3, 0) := by kernel_rfl
theorem aw2 : stepS ⟨1, 0, 1, 1, 0, 4, false, false⟩ (pairS 4 3) true 3 = (⟨1, 0, 1, 1, 0, 4, false, false⟩, pairS 4 3, 0) := by kernel_rfl
theorem aw3 : stepS ⟨1, 0, 1, 1, 0, 4, false, false⟩ (pairS 4 3) false 0 = (⟨1, 0, 1, 1, 0, 4, false, true⟩, pairS 4 3, 0) := by kernel_rfl
theorem aw4 : stepS ⟨1, 0, 1, 1, 0, 4, false, false⟩ (pairS 4 4) true 4 = (⟨1, 0, 1, 2, 0, 4, false, false⟩, pairS 4 4, 0) := by kernel_rfl
theorem aw5 : stepS ⟨1, 0, 1, 2, 0, 4, false, false⟩ (pairS 4 4) true 1 = (zP, [], 13) := by kernel_rfl
def awK : Nat → Proc × List Site
  | 0 => (⟨1, 0, 1, 2, 0, 4, false, false⟩, pairS 4 4)
  | k + 1 => ((stepS (awK k).1 (awK k).2 true 2).1, (stepS (awK k).1 (awK k).2 true 2).2.1)
theorem aw6 (k : Nat) (h : k < 3) : stepS (awK k).1 (awK k).2 true 2 = ((awK (k + 1)).1, (awK (k + 1)).2, 0) ∧ (awK k).2.length = 2 ∧ (awK (k + 1)).2.length = 2 := by
  have : k = 0 ∨ k = 1 ∨ k = 2 := by omega
  rcases this with rfl | rfl | rfl <;> exact ⟨by kernel_rfl, by kernel_rfl, by kernel_rfl⟩
theorem aw7 : (awK 3).1 = ⟨1, 0, 1, 5, 2, 4, true, false⟩ ∧ (awK 3).2.length = 2 ∧ ((awK 3).2.getD 0 zS).ro = 2 ∧ ((awK 3).2.getD 0 zS).so = 1 ∧ ((awK 3).2.getD 1 zS).ro = 1 ∧ ((awK 3).2.getD 1 zS).ep = 2 := ⟨by kernel_rfl, by kernel_rfl, by kernel_rfl, by kernel_rfl, by kernel_rfl, by kernel_rfl⟩
theorem aw8 : needP ⟨1, 0, 1, 5, 2, 4, true, false⟩ = (⟨#[100, 111, 110, 101]⟩, -1) := by kernel_rfl
theorem len43 : (pairS 4 3).length = 2 := rfl
theorem len44 : (pairS 4 4).length = 2 := rfl
theorem aw_begin (w : World) (A : Option Addr) (c : Nat) (h : TSites w A c (pairS 4 3)) : Calls Try.prog 13 #[.slice A 2 c, .int .i64 0, .int .i64 1] w fun en w' => en = .returned (.tuple #[.agg #[.int .i64 1, .int .i64 0, .int .i64 1, .int .i64 0, .int .i64 0, .int .i64 4, .bool false, .bool false], .int .i64 0]) ∧ Below w.heap.size w w' :=
  (sw_Begin w A c _ _ 0 1 h.few (h.reads _)).mono (by rintro en w' h; unfold BegRes at h; rw [aw0] at h; exact h)
theorem aw_step {p q : Proc} {l l' : List Site} {ok : Bool} {v e : Int} {n n' : Nat} (hs : stepS p l ok v = (q, l', e)) (hn : l.length = n) (hn' : l'.length = n') (w : World) (A : Option Addr) (c : Nat) (h : TSites w A c l) :
    Calls Try.prog 19 #[.agg #[.int .i64 p.ki, .int .i64 p.fr, .int .i64 p.to_, .int .i64 p.st, .int .i64 p.ep, .int .i64 p.cy, .bool p.dn, .bool p.fa], .slice A n c, .bool ok, .int .i64 v] w fun en w' => ∃ A' c', en = .returned (.tuple #[.agg #[.int .i64 q.ki, .int .i64 q.fr, .int .i64 q.to_, .int .i64 q.st, .int .i64 q.ep, .int .i64 q.cy, .bool q.dn, .bool q.fa], .slice A' n' c', .int .i64 e]) ∧ TSites w' A' c' l' ∧ Below w.heap.size w w' := by
  subst hn hn'
  refine (sw_Step w p A c _ l ok v h.few (h.reads _)).mono ?_
  rintro en w' ⟨A', c', m, rfl, hm, hO, hB⟩
  rw [hs] at hm ⊢
  simp only at hm ⊢
  exact ⟨A', c', by rw [← hm, List.length_map], hO.typed hm, hB⟩
theorem aw_need (w : World) : Calls Try.prog 15 #[.agg #[.int .i64 1, .int .i64 0, .int .i64 1, .int .i64 5, .int .i64 2, .int .i64 4, .bool true, .bool false]] w fun en w' => en = .returned (.tuple #[.string ⟨#[100, 111, 110, 101]⟩, .int .i64 (-1)]) ∧ Below w.heap.size w w' :=
  (sw_Need w ⟨1, 0, 1, 5, 2, 4, true, false⟩).mono (by rintro en w' h; rw [aw8] at h; exact h)
theorem aw_same (w : World) (A A2 : Option Addr) (c c2 : Nat) (h : TSites w A c (pairS 4 3)) (h2 : TSites w A2 c2 (pairS 4 3)) : Calls Try.prog 21 #[.slice A 2 c, .slice A2 2 c2] w fun e w' => e = .returned (.bool true) ∧ Below w.heap.size w w' :=
  ref_SameAll w A A2 c c2 (pairS 4 3) h.few (h.reads _) (h2.reads _)
section
variable {P : Program} {ops : Array Oper} {Q : Exit → Act → World → Prop} {md : Region.Mode} {S : World → Prop} {i fuel : Nat} {o : Oper} {listed : Array Bool} {a : Act} {w : World} {d : Tmp} {f : FuncId} {args : Array Value}
theorem opCalledX {R : Value → World → Prop} (ho : ops[i]? = some o) (hd : o.dst = some d) (hw : Region.wanted o (yielded ops a.tmps) = true) (he : (execOp a.eval o).run P w = .ok (.enter f args) w) (hc : Calls P f args w fun e w' => ∃ v, e = .returned v ∧ R v w') (h : ∀ v w', R v w' → S w' ∧ wpAnyH P md ops Q S fuel (listed.setIfInBounds i true) (a.put (some d) v) w') :
    wpOp P ops Q i (fun a' w' => S w' ∧ wpAnyH P md ops Q S fuel (listed.setIfInBounds i true) a' w') a w := by
  unfold wpOp
  simp only [ho, hw, if_true]
  refine .inl ?_
  unfold Oper.wp
  rw [he, Oper.upon_enter, hd]
  exact hc.mono (by rintro e w' ⟨v, rfl, hS⟩; exact h v w' hS)
end
theorem grownv8 (W : World) (g : Nat) (v0 v1 v2 v3 v4 v5 v6 v7 : Value) : W.grownBy ((((((((W.setCell ⟨g, 0, none⟩ v0).setCell ⟨g, 1, none⟩ v1).setCell ⟨g, 2, none⟩ v2).setCell ⟨g, 3, none⟩ v3).setCell ⟨g, 4, none⟩ v4).setCell ⟨g, 5, none⟩ v5).setCell ⟨g, 6, none⟩ v6).setCell ⟨g, 7, none⟩ v7) (some g) :=
  grown_tr (grown_tr (grown_tr (grown_tr (grown_tr (grown_tr (grown_tr (grown_set _ g 0 _) (grown_set _ g 1 _)) (grown_set _ g 2 _)) (grown_set _ g 3 _)) (grown_set _ g 4 _)) (grown_set _ g 5 _)) (grown_set _ g 6 _)) (grown_set _ g 7 _)
set_option maxHeartbeats 4000000 in
theorem law_awake (w : World) : Calls Try.prog 12 #[] w fun e w' => e = .returned (.bool true) ∧ Below w.heap.size w w' := by
  go_enter Try.func12, Try.ntmps12
  go_upto_region 2 with (first
    | (go_at_call 28; (with_reducible refine (law_pair _ 4 3).mono ?_); rintro en w1 ⟨A1, c1, rfl, hT, hB⟩; have HT1 := Keep.mk hT; have HB1 := Keep.mk hB; clear hT hB)
    | (go_at_call 13; (with_reducible refine (aw_begin _ A1 c1 HT1.out).mono ?_); rintro en w2 ⟨rfl, hB⟩; have HB2 := Keep.mk (below_then HB1.out hB); clear hB))
  have KP := Keep.mk (Held.new HB2.out [.int .i64 1, .int .i64 0, .int .i64 1, .int .i64 0, .int .i64 0, .int .i64 4, .bool false, .bool false] 26)
  generalize w2.alloc (.cells #[.int .i64 1, .int .i64 0, .int .i64 1, .int .i64 0, .int .i64 0, .int .i64 4, .bool false, .bool false] 26) = W2 at KP ⊢
  generalize w2.heap.size = gp at KP ⊢
  clear HT1 HB1 HB2
  obtain ⟨⟨p0, p1, p2, p3, p4, p5, p6, p7⟩, p8⟩ := KP.out.c8
  go_cut [3, 4] (fun s3 s4 wx => ∃ A c, s3 = .slice A 2 c ∧ s4 = .int .i64 0 ∧ Keep (Held w gp [.int .i64 1, .int .i64 0, .int .i64 1, .int .i64 1, .int .i64 0, .int .i64 4, .bool false, .bool false] 26 wx) ∧ Keep (TSites wx A c (pairS 4 3)))
  case first =>
    refine wp_region_held_drew (S := fun _ => True) (by kernel_rfl) trivial (fun hHeld => ?_)
    refine wpAnyH_all (rs := [0, 1]) (by kernel_rfl) (by simp) ?_
    intro j hj
    simp only [List.mem_cons, List.not_mem_nil, or_false] at hj
    rcases hj with rfl | rfl
    · refine opRan (v := .agg #[.int .i64 1, .int .i64 0, .int .i64 1, .int .i64 0, .int .i64 0, .int .i64 4, .bool false, .bool false]) (w' := W2.drew) rfl rfl (by rfl) ?_ trivial ?_
      · go_simp
      simp only [Act.put, List.setIfInBounds_toArray, List.set_cons_zero, List.set_cons_succ]
      refine wpAnyH_all (rs := [1]) (by kernel_rfl) (by simp) ?_
      intro j hj
      simp only [List.mem_cons, List.not_mem_nil, or_false] at hj
      subst hj
      refine opCalledX (R := fun v w' => ∃ A c, v = .slice A 2 c ∧ TSites w' A c (pairS 4 3) ∧ Below (W2.drew).heap.size (W2.drew) w') (f := 28) (args := #[.int .i64 4, .int .i64 3]) rfl rfl (by rfl) ?_ ((law_pair _ 4 3).mono ?_) ?_
      · go_simp
      · rintro en w' ⟨A, c, rfl, hT, hB⟩; exact ⟨_, rfl, A, c, rfl, hT, hB⟩
      rintro vv w6 ⟨A, c, rfl, hT, hB⟩
      refine ⟨trivial, ?_⟩
      simp only [Act.put, List.setIfInBounds_toArray, List.set_cons_zero, List.set_cons_succ]
      refine wpAnyH_all (rs := [2]) (by kernel_rfl) (by simp) ?_
      intro j hj
      simp only [List.mem_cons, List.not_mem_nil, or_false] at hj
      subst hj
      refine opCalledX (R := fun v w' => ∃ A c, v = .tuple #[.agg #[.int .i64 1, .int .i64 0, .int .i64 1, .int .i64 1, .int .i64 0, .int .i64 4, .bool false, .bool false], .slice A 2 c, .int .i64 0] ∧ TSites w' A c (pairS 4 3) ∧ Below w6.heap.size w6 w') (f := 19) (args := #[.agg #[.int .i64 1, .int .i64 0, .int .i64 1, .int .i64 0, .int .i64 0, .int .i64 4, .bool false, .bool false], .slice A 2 c, .bool true, .int .i64 4]) rfl rfl (by rfl) ?_ ((aw_step aw1 rfl rfl _ A c hT).mono ?_) ?_
      · go_simp
      · rintro en w' ⟨A', c', rfl, hT', hB'⟩; exact ⟨_, rfl, A', c', rfl, hT', hB'⟩
      clear hT
      rintro vv w7 ⟨A, c, rfl, hT, hB'⟩
      have hB := below_then hB hB'
      clear hB'
      refine ⟨trivial, ?_⟩
      simp only [Act.put, List.setIfInBounds_toArray, List.set_cons_zero, List.set_cons_succ]
      refine takeD (i := 3) (v := .tuple #[.agg #[.int .i64 1, .int .i64 0, .int .i64 1, .int .i64 1, .int .i64 0, .int .i64 4, .bool false, .bool false], .slice A 2 c, .int .i64 0]) rfl rfl (by kernel_rfl) (by kernel_rfl) (by kernel_rfl) (fun _ _ _ h => h) (by rfl) ?_ hHeld ?_
      · intro W hSw
        go_simp
      simp only [Act.put, List.setIfInBounds_toArray, List.set_cons_zero, List.set_cons_succ]
      refine takeD (i := 4) (v := .agg #[.int .i64 1, .int .i64 0, .int .i64 1, .int .i64 1, .int .i64 0, .int .i64 4, .bool false, .bool false]) rfl rfl (by kernel_rfl) (by kernel_rfl) (by kernel_rfl) (fun _ _ _ h => h) (by rfl) ?_ hHeld ?_
      · intro W hSw
        go_simp
      simp only [Act.put, List.setIfInBounds_toArray, List.set_cons_zero, List.set_cons_succ]
      refine takeD (i := 5) (v := .slice A 2 c) rfl rfl (by kernel_rfl) (by kernel_rfl) (by kernel_rfl) (fun _ _ _ h => h) (by rfl) ?_ hHeld ?_
      · intro W hSw
        go_simp
      simp only [Act.put, List.setIfInBounds_toArray, List.set_cons_zero, List.set_cons_succ]
      refine takeD (i := 6) (v := .int .i64 0) rfl rfl (by kernel_rfl) (by kernel_rfl) (by kernel_rfl) (fun _ _ _ h => h) (by rfl) ?_ hHeld ?_
      · intro W hSw
        go_simp
      simp only [Act.put, List.setIfInBounds_toArray, List.set_cons_zero, List.set_cons_succ]
      refine wpAnyH_all (rs := [7]) (by kernel_rfl) (by simp) ?_
      intro j hj
      simp only [List.mem_cons, List.not_mem_nil, or_false] at hj
      subst hj
      have KQ := KP.out.drew.step hB
      obtain ⟨⟨p0, p1, p2, p3, p4, p5, p6, p7⟩, p8⟩ := KQ.c8
      refine opStored (w' := ((((((((w7.setCell ⟨gp, 0, none⟩ (.int .i64 1)).setCell ⟨gp, 1, none⟩ (.int .i64 0)).setCell ⟨gp, 2, none⟩ (.int .i64 1)).setCell ⟨gp, 3, none⟩ (.int .i64 1)).setCell ⟨gp, 4, none⟩ (.int .i64 0)).setCell ⟨gp, 5, none⟩ (.int .i64 4)).setCell ⟨gp, 6, none⟩ (.bool false)).setCell ⟨gp, 7, none⟩ (.bool false))) rfl rfl (by rfl) ?_ trivial ?_
      · go_simp
      have KZ : Held w gp [.int .i64 1, .int .i64 0, .int .i64 1, .int .i64 1, .int .i64 0, .int .i64 4, .bool false, .bool false] 26 ((((((((w7.setCell ⟨gp, 0, none⟩ (.int .i64 1)).setCell ⟨gp, 1, none⟩ (.int .i64 0)).setCell ⟨gp, 2, none⟩ (.int .i64 1)).setCell ⟨gp, 3, none⟩ (.int .i64 1)).setCell ⟨gp, 4, none⟩ (.int .i64 0)).setCell ⟨gp, 5, none⟩ (.int .i64 4)).setCell ⟨gp, 6, none⟩ (.bool false)).setCell ⟨gp, 7, none⟩ (.bool false)) := (((((((KQ.set 0 _).set 1 _).set 2 _).set 3 _).set 4 _).set 5 _).set 6 _).set 7 _
      have hT2 : TSites ((((((((w7.setCell ⟨gp, 0, none⟩ (.int .i64 1)).setCell ⟨gp, 1, none⟩ (.int .i64 0)).setCell ⟨gp, 2, none⟩ (.int .i64 1)).setCell ⟨gp, 3, none⟩ (.int .i64 1)).setCell ⟨gp, 4, none⟩ (.int .i64 0)).setCell ⟨gp, 5, none⟩ (.int .i64 4)).setCell ⟨gp, 6, none⟩ (.bool false)).setCell ⟨gp, 7, none⟩ (.bool false)) A c (pairS 4 3) := hT.other KQ (by decide) (grownv8 w7 gp _ _ _ _ _ _ _ _)
      refine takeD (i := 8) (v := .slice A 2 c) rfl rfl (by kernel_rfl) (by kernel_rfl) (by kernel_rfl) (fun _ _ _ h => h) (by rfl) ?_ hHeld ?_
      · intro W hSw
        go_simp
      simp only [Act.put, List.setIfInBounds_toArray, List.set_cons_zero, List.set_cons_succ]
      refine takeD (i := 9) (v := .int .i64 0) rfl rfl (by kernel_rfl) (by kernel_rfl) (by kernel_rfl) (fun _ _ _ h => h) (by rfl) ?_ hHeld ?_
      · intro W hSw
        go_simp
      simp only [Act.put, List.setIfInBounds_toArray, List.set_cons_zero, List.set_cons_succ]
      refine wpAnyH_done (by kernel_rfl) ?_ _
      clear hT hB KQ p0 p1 p2 p3 p4 p5 p6 p7 p8 KP
      generalize ((((((((w7.setCell ⟨gp, 0, none⟩ (.int .i64 1)).setCell ⟨gp, 1, none⟩ (.int .i64 0)).setCell ⟨gp, 2, none⟩ (.int .i64 1)).setCell ⟨gp, 3, none⟩ (.int .i64 1)).setCell ⟨gp, 4, none⟩ (.int .i64 0)).setCell ⟨gp, 5, none⟩ (.int .i64 4)).setCell ⟨gp, 6, none⟩ (.bool false)).setCell ⟨gp, 7, none⟩ (.bool false)) = W3 at KZ hT2 ⊢
      go_wp2_with fail
      go_meet
      exact ⟨_, _, rfl, rfl, ⟨KZ⟩, ⟨hT2⟩⟩
    · refine opCalledX (R := fun v w' => ∃ A c, v = .slice A 2 c ∧ TSites w' A c (pairS 4 3) ∧ Below (W2.drew).heap.size (W2.drew) w') (f := 28) (args := #[.int .i64 4, .int .i64 3]) rfl rfl (by rfl) ?_ ((law_pair _ 4 3).mono ?_) ?_
      · go_simp
      · rintro en w' ⟨A, c, rfl, hT, hB⟩; exact ⟨_, rfl, A, c, rfl, hT, hB⟩
      rintro vv w6 ⟨A, c, rfl, hT, hB⟩
      refine ⟨trivial, ?_⟩
      simp only [Act.put, List.setIfInBounds_toArray, List.set_cons_zero, List.set_cons_succ]
      have KQ6 := KP.out.drew.step hB
      obtain ⟨⟨p0, p1, p2, p3, p4, p5, p6, p7⟩, p8⟩ := KQ6.c8
      refine wpAnyH_all (rs := [0]) (by kernel_rfl) (by simp) ?_
      intro j hj
      simp only [List.mem_cons, List.not_mem_nil, or_false] at hj
      subst hj
      refine opRan (v := .agg #[.int .i64 1, .int .i64 0, .int .i64 1, .int .i64 0, .int .i64 0, .int .i64 4, .bool false, .bool false]) (w' := w6) rfl rfl (by rfl) ?_ trivial ?_
      · go_simp
      simp only [Act.put, List.setIfInBounds_toArray, List.set_cons_zero, List.set_cons_succ]
      clear p0 p1 p2 p3 p4 p5 p6 p7 p8 KQ6
      refine wpAnyH_all (rs := [2]) (by kernel_rfl) (by simp) ?_
      intro j hj
      simp only [List.mem_cons, List.not_mem_nil, or_false] at hj
      subst hj
      refine opCalledX (R := fun v w' => ∃ A c, v = .tuple #[.agg #[.int .i64 1, .int .i64 0, .int .i64 1, .int .i64 1, .int .i64 0, .int .i64 4, .bool false, .bool false], .slice A 2 c, .int .i64 0] ∧ TSites w' A c (pairS 4 3) ∧ Below w6.heap.size w6 w') (f := 19) (args := #[.agg #[.int .i64 1, .int .i64 0, .int .i64 1, .int .i64 0, .int .i64 0, .int .i64 4, .bool false, .bool false], .slice A 2 c, .bool true, .int .i64 4]) rfl rfl (by rfl) ?_ ((aw_step aw1 rfl rfl _ A c hT).mono ?_) ?_
      · go_simp
      · rintro en w' ⟨A', c', rfl, hT', hB'⟩; exact ⟨_, rfl, A', c', rfl, hT', hB'⟩
      clear hT
      rintro vv w7 ⟨A, c, rfl, hT, hB'⟩
      have hB := below_then hB hB'
      clear hB'
      refine ⟨trivial, ?_⟩
      simp only [Act.put, List.setIfInBounds_toArray, List.set_cons_zero, List.set_cons_succ]
      refine takeD (i := 3) (v := .tuple #[.agg #[.int .i64 1, .int .i64 0, .int .i64 1, .int .i64 1, .int .i64 0, .int .i64 4, .bool false, .bool false], .slice A 2 c, .int .i64 0]) rfl rfl (by kernel_rfl) (by kernel_rfl) (by kernel_rfl) (fun _ _ _ h => h) (by rfl) ?_ hHeld ?_
      · intro W hSw
        go_simp
      simp only [Act.put, List.setIfInBounds_toArray, List.set_cons_zero, List.set_cons_succ]
      refine takeD (i := 4) (v := .agg #[.int .i64 1, .int .i64 0, .int .i64 1, .int .i64 1, .int .i64 0, .int .i64 4, .bool false, .bool false]) rfl rfl (by kernel_rfl) (by kernel_rfl) (by kernel_rfl) (fun _ _ _ h => h) (by rfl) ?_ hHeld ?_
      · intro W hSw
        go_simp
      simp only [Act.put, List.setIfInBounds_toArray, List.set_cons_zero, List.set_cons_succ]
      refine takeD (i := 5) (v := .slice A 2 c) rfl rfl (by kernel_rfl) (by kernel_rfl) (by kernel_rfl) (fun _ _ _ h => h) (by rfl) ?_ hHeld ?_
      · intro W hSw
        go_simp
      simp only [Act.put, List.setIfInBounds_toArray, List.set_cons_zero, List.set_cons_succ]
      refine takeD (i := 6) (v := .int .i64 0) rfl rfl (by kernel_rfl) (by kernel_rfl) (by kernel_rfl) (fun _ _ _ h => h) (by rfl) ?_ hHeld ?_
      · intro W hSw
        go_simp
      simp only [Act.put, List.setIfInBounds_toArray, List.set_cons_zero, List.set_cons_succ]
      refine wpAnyH_all (rs := [7]) (by kernel_rfl) (by simp) ?_
      intro j hj
      simp only [List.mem_cons, List.not_mem_nil, or_false] at hj
      subst hj
      have KQ := KP.out.drew.step hB
      obtain ⟨⟨p0, p1, p2, p3, p4, p5, p6, p7⟩, p8⟩ := KQ.c8
      refine opStored (w' := ((((((((w7.setCell ⟨gp, 0, none⟩ (.int .i64 1)).setCell ⟨gp, 1, none⟩ (.int .i64 0)).setCell ⟨gp, 2, none⟩ (.int .i64 1)).setCell ⟨gp, 3, none⟩ (.int .i64 1)).setCell ⟨gp, 4, none⟩ (.int .i64 0)).setCell ⟨gp, 5, none⟩ (.int .i64 4)).setCell ⟨gp, 6, none⟩ (.bool false)).setCell ⟨gp, 7, none⟩ (.bool false))) rfl rfl (by rfl) ?_ trivial ?_
      · go_simp
      have KZ : Held w gp [.int .i64 1, .int .i64 0, .int .i64 1, .int .i64 1, .int .i64 0, .int .i64 4, .bool false, .bool false] 26 ((((((((w7.setCell ⟨gp, 0, none⟩ (.int .i64 1)).setCell ⟨gp, 1, none⟩ (.int .i64 0)).setCell ⟨gp, 2, none⟩ (.int .i64 1)).setCell ⟨gp, 3, none⟩ (.int .i64 1)).setCell ⟨gp, 4, none⟩ (.int .i64 0)).setCell ⟨gp, 5, none⟩ (.int .i64 4)).setCell ⟨gp, 6, none⟩ (.bool false)).setCell ⟨gp, 7, none⟩ (.bool false)) := (((((((KQ.set 0 _).set 1 _).set 2 _).set 3 _).set 4 _).set 5 _).set 6 _).set 7 _
      have hT2 : TSites ((((((((w7.setCell ⟨gp, 0, none⟩ (.int .i64 1)).setCell ⟨gp, 1, none⟩ (.int .i64 0)).setCell ⟨gp, 2, none⟩ (.int .i64 1)).setCell ⟨gp, 3, none⟩ (.int .i64 1)).setCell ⟨gp, 4, none⟩ (.int .i64 0)).setCell ⟨gp, 5, none⟩ (.int .i64 4)).setCell ⟨gp, 6, none⟩ (.bool false)).setCell ⟨gp, 7, none⟩ (.bool false)) A c (pairS 4 3) := hT.other KQ (by decide) (grownv8 w7 gp _ _ _ _ _ _ _ _)
      refine takeD (i := 8) (v := .slice A 2 c) rfl rfl (by kernel_rfl) (by kernel_rfl) (by kernel_rfl) (fun _ _ _ h => h) (by rfl) ?_ hHeld ?_
      · intro W hSw
        go_simp
      simp only [Act.put, List.setIfInBounds_toArray, List.set_cons_zero, List.set_cons_succ]
      refine takeD (i := 9) (v := .int .i64 0) rfl rfl (by kernel_rfl) (by kernel_rfl) (by kernel_rfl) (fun _ _ _ h => h) (by rfl) ?_ hHeld ?_
      · intro W hSw
        go_simp
      simp only [Act.put, List.setIfInBounds_toArray, List.set_cons_zero, List.set_cons_succ]
      refine wpAnyH_done (by kernel_rfl) ?_ _
      clear hT hB KQ p0 p1 p2 p3 p4 p5 p6 p7 p8 KP
      generalize ((((((((w7.setCell ⟨gp, 0, none⟩ (.int .i64 1)).setCell ⟨gp, 1, none⟩ (.int .i64 0)).setCell ⟨gp, 2, none⟩ (.int .i64 1)).setCell ⟨gp, 3, none⟩ (.int .i64 1)).setCell ⟨gp, 4, none⟩ (.int .i64 0)).setCell ⟨gp, 5, none⟩ (.int .i64 4)).setCell ⟨gp, 6, none⟩ (.bool false)).setCell ⟨gp, 7, none⟩ (.bool false)) = W3 at KZ hT2 ⊢
      go_wp2_with fail
      go_meet
      exact ⟨_, _, rfl, rfl, ⟨KZ⟩, ⟨hT2⟩⟩
  case rest =>
    obtain ⟨A3, c3, rfl, rfl, KP, HT3⟩ := hcut
    clear p0 p1 p2 p3 p4 p5 p6 p7 p8
    obtain ⟨⟨p0, p1, p2, p3, p4, p5, p6, p7⟩, p8⟩ := KP.out.c8
    go_upto_region 5 with (first
      | (go_at_call 19; (with_reducible refine (aw_step (q := ⟨1, 0, 1, 1, 0, 4, false, false⟩) aw2 len43 len43 _ A3 c3 HT3.out).mono ?_); rintro en w4 ⟨A5, c5, rfl, hT, hB⟩; have KP4 := Keep.mk (KP.out.step hB); have HT4 := Keep.mk (HT3.out.step hB); clear hT hB p0 p1 p2 p3 p4 p5 p6 p7 p8)
      | ((with_reducible refine wpList_store_proc ?_ (.tmp 1) (.tmp 36) ?_ w gp KP4.out ?_ ⟨1, 0, 1, 1, 0, 4, false, false⟩ ?_ ?_); rfl; rfl; rfl; rfl; intro w5 K5 hg; have HT5 := Keep.mk (HT4.out.other KP4.out (by decide) hg); have KP5 := Keep.mk K5; obtain ⟨⟨p0, p1, p2, p3, p4, p5, p6, p7⟩, p8⟩ := KP5.out.c8; clear hg K5)
      | (go_at_call 19; (with_reducible refine (aw_step (q := ⟨1, 0, 1, 1, 0, 4, false, true⟩) aw3 len43 len43 _ A3 c3 HT5.out).mono ?_); rintro en w6 ⟨A8, c8, rfl, hT, hB⟩; have KP6 := Keep.mk (KP5.out.step hB); have HT6 := Keep.mk (HT5.out.step hB); have HS6 := Keep.mk hT; clear hT hB p0 p1 p2 p3 p4 p5 p6 p7 p8))
    clear KP KP4 KP5 HT3 HT4 HT5
    have KP := Keep.mk (KP6.out.alloc (.cells #[.int .i64 1, .int .i64 0, .int .i64 1, .int .i64 1, .int .i64 0, .int .i64 4, .bool false, .bool true] 26))
    have KF := Keep.mk (Held.new KP6.out.bel [.int .i64 1, .int .i64 0, .int .i64 1, .int .i64 1, .int .i64 0, .int .i64 4, .bool false, .bool true] 26)
    have HTS := Keep.mk (HS6.out.step (below_new (Below.refl _ _) (.cells #[.int .i64 1, .int .i64 0, .int .i64 1, .int .i64 1, .int .i64 0, .int .i64 4, .bool false, .bool true] 26)))
    have hgf : w6.heap.size ≠ gp := Nat.ne_of_gt KP6.out.lt
    generalize w6.alloc (.cells #[.int .i64 1, .int .i64 0, .int .i64 1, .int .i64 1, .int .i64 0, .int .i64 4, .bool false, .bool true] 26) = W2 at KP KF HTS ⊢
    generalize w6.heap.size = gf at KF hgf ⊢
    clear KP6 HT6 HS6
    obtain ⟨⟨p0, p1, p2, p3, p4, p5, p6, p7⟩, p8⟩ := KP.out.c8
    go_cut [3, 10] (fun s3 s10 wx => ∃ A c, s3 = .slice A 2 c ∧ s10 = .int .i64 0 ∧ Keep (Held w gp [.int .i64 1, .int .i64 0, .int .i64 1, .int .i64 2, .int .i64 0, .int .i64 4, .bool false, .bool false] 26 wx) ∧ Keep (TSites wx A c (pairS 4 4)) ∧ Keep (Held w gf [.int .i64 1, .int .i64 0, .int .i64 1, .int .i64 1, .int .i64 0, .int .i64 4, .bool false, .bool true] 26 wx) ∧ Keep (TSites wx A8 c8 (pairS 4 3)))
    case first =>
      refine wp_region_held_drew (S := fun _ => True) (by kernel_rfl) trivial (fun hHeld => ?_)
      refine wpAnyH_all (rs := [0, 1]) (by kernel_rfl) (by simp) ?_
      intro j hj
      simp only [List.mem_cons, List.not_mem_nil, or_false] at hj
      rcases hj with rfl | rfl
      · refine opRan (v := .agg #[.int .i64 1, .int .i64 0, .int .i64 1, .int .i64 1, .int .i64 0, .int .i64 4, .bool false, .bool false]) (w' := W2.drew) rfl rfl (by rfl) ?_ trivial ?_
        · go_simp
        simp only [Act.put, List.setIfInBounds_toArray, List.set_cons_zero, List.set_cons_succ]
        refine wpAnyH_all (rs := [1]) (by kernel_rfl) (by simp) ?_
        intro j hj
        simp only [List.mem_cons, List.not_mem_nil, or_false] at hj
        subst hj
        refine opCalledX (R := fun v w' => ∃ A c, v = .slice A 2 c ∧ TSites w' A c (pairS 4 4) ∧ Below (W2.drew).heap.size (W2.drew) w') (f := 28) (args := #[.int .i64 4, .int .i64 4]) rfl rfl (by rfl) ?_ ((law_pair _ 4 4).mono ?_) ?_
        · go_simp
        · rintro en w' ⟨A, c, rfl, hT, hB⟩; exact ⟨_, rfl, A, c, rfl, hT, hB⟩
        rintro vv w6 ⟨A, c, rfl, hT, hB⟩
        refine ⟨trivial, ?_⟩
        simp only [Act.put, List.setIfInBounds_toArray, List.set_cons_zero, List.set_cons_succ]
        refine wpAnyH_all (rs := [2]) (by kernel_rfl) (by simp) ?_
        intro j hj
        simp only [List.mem_cons, List.not_mem_nil, or_false] at hj
        subst hj
        refine opCalledX (R := fun v w' => ∃ A c, v = .tuple #[.agg #[.int .i64 1, .int .i64 0, .int .i64 1, .int .i64 2, .int .i64 0, .int .i64 4, .bool false, .bool false], .slice A 2 c, .int .i64 0] ∧ TSites w' A c (pairS 4 4) ∧ Below w6.heap.size w6 w') (f := 19) (args := #[.agg #[.int .i64 1, .int .i64 0, .int .i64 1, .int .i64 1, .int .i64 0, .int .i64 4, .bool false, .bool false], .slice A 2 c, .bool true, .int .i64 4]) rfl rfl (by rfl) ?_ ((aw_step aw4 rfl rfl _ A c hT).mono ?_) ?_
        · go_simp
        · rintro en w' ⟨A', c', rfl, hT', hB'⟩; exact ⟨_, rfl, A', c', rfl, hT', hB'⟩
        clear hT
        rintro vv w7 ⟨A, c, rfl, hT, hB'⟩
        have hB := below_then hB hB'
        clear hB'
        refine ⟨trivial, ?_⟩
        simp only [Act.put, List.setIfInBounds_toArray, List.set_cons_zero, List.set_cons_succ]
        refine takeD (i := 3) (v := .tuple #[.agg #[.int .i64 1, .int .i64 0, .int .i64 1, .int .i64 2, .int .i64 0, .int .i64 4, .bool false, .bool false], .slice A 2 c, .int .i64 0]) rfl rfl (by kernel_rfl) (by kernel_rfl) (by kernel_rfl) (fun _ _ _ h => h) (by rfl) ?_ hHeld ?_
        · intro W hSw
          go_simp
        simp only [Act.put, List.setIfInBounds_toArray, List.set_cons_zero, List.set_cons_succ]
        refine takeD (i := 4) (v := .agg #[.int .i64 1, .int .i64 0, .int .i64 1, .int .i64 2, .int .i64 0, .int .i64 4, .bool false, .bool false]) rfl rfl (by kernel_rfl) (by kernel_rfl) (by kernel_rfl) (fun _ _ _ h => h) (by rfl) ?_ hHeld ?_
        · intro W hSw
          go_simp
        simp only [Act.put, List.setIfInBounds_toArray, List.set_cons_zero, List.set_cons_succ]
        refine takeD (i := 5) (v := .slice A 2 c) rfl rfl (by kernel_rfl) (by kernel_rfl) (by kernel_rfl) (fun _ _ _ h => h) (by rfl) ?_ hHeld ?_
        · intro W hSw
          go_simp
        simp only [Act.put, List.setIfInBounds_toArray, List.set_cons_zero, List.set_cons_succ]
        refine takeD (i := 6) (v := .int .i64 0) rfl rfl (by kernel_rfl) (by kernel_rfl) (by kernel_rfl) (fun _ _ _ h => h) (by rfl) ?_ hHeld ?_
        · intro W hSw
          go_simp
        simp only [Act.put, List.setIfInBounds_toArray, List.set_cons_zero, List.set_cons_succ]
        refine wpAnyH_all (rs := [7]) (by kernel_rfl) (by simp) ?_
        intro j hj
        simp only [List.mem_cons, List.not_mem_nil, or_false] at hj
        subst hj
        have KQ := KP.out.drew.step hB
        have KF5 := KF.out.drew.step hB
        have HTS5 := (HTS.out.step (below_drew (Below.refl _ _))).step hB
        obtain ⟨⟨p0, p1, p2, p3, p4, p5, p6, p7⟩, p8⟩ := KQ.c8
        refine opStored (w' := ((((((((w7.setCell ⟨gp, 0, none⟩ (.int .i64 1)).setCell ⟨gp, 1, none⟩ (.int .i64 0)).setCell ⟨gp, 2, none⟩ (.int .i64 1)).setCell ⟨gp, 3, none⟩ (.int .i64 2)).setCell ⟨gp, 4, none⟩ (.int .i64 0)).setCell ⟨gp, 5, none⟩ (.int .i64 4)).setCell ⟨gp, 6, none⟩ (.bool false)).setCell ⟨gp, 7, none⟩ (.bool false))) rfl rfl (by rfl) ?_ trivial ?_
        · go_simp
        have KZ : Held w gp [.int .i64 1, .int .i64 0, .int .i64 1, .int .i64 2, .int .i64 0, .int .i64 4, .bool false, .bool false] 26 ((((((((w7.setCell ⟨gp, 0, none⟩ (.int .i64 1)).setCell ⟨gp, 1, none⟩ (.int .i64 0)).setCell ⟨gp, 2, none⟩ (.int .i64 1)).setCell ⟨gp, 3, none⟩ (.int .i64 2)).setCell ⟨gp, 4, none⟩ (.int .i64 0)).setCell ⟨gp, 5, none⟩ (.int .i64 4)).setCell ⟨gp, 6, none⟩ (.bool false)).setCell ⟨gp, 7, none⟩ (.bool false)) := (((((((KQ.set 0 _).set 1 _).set 2 _).set 3 _).set 4 _).set 5 _).set 6 _).set 7 _
        have hT2 : TSites ((((((((w7.setCell ⟨gp, 0, none⟩ (.int .i64 1)).setCell ⟨gp, 1, none⟩ (.int .i64 0)).setCell ⟨gp, 2, none⟩ (.int .i64 1)).setCell ⟨gp, 3, none⟩ (.int .i64 2)).setCell ⟨gp, 4, none⟩ (.int .i64 0)).setCell ⟨gp, 5, none⟩ (.int .i64 4)).setCell ⟨gp, 6, none⟩ (.bool false)).setCell ⟨gp, 7, none⟩ (.bool false)) A c (pairS 4 4) := hT.other KQ (by decide) (grownv8 w7 gp _ _ _ _ _ _ _ _)
        have KF6 : Held w gf [.int .i64 1, .int .i64 0, .int .i64 1, .int .i64 1, .int .i64 0, .int .i64 4, .bool false, .bool true] 26 ((((((((w7.setCell ⟨gp, 0, none⟩ (.int .i64 1)).setCell ⟨gp, 1, none⟩ (.int .i64 0)).setCell ⟨gp, 2, none⟩ (.int .i64 1)).setCell ⟨gp, 3, none⟩ (.int .i64 2)).setCell ⟨gp, 4, none⟩ (.int .i64 0)).setCell ⟨gp, 5, none⟩ (.int .i64 4)).setCell ⟨gp, 6, none⟩ (.bool false)).setCell ⟨gp, 7, none⟩ (.bool false)) := KF5.grown hgf KQ.ge (grownv8 w7 gp _ _ _ _ _ _ _ _)
        have HTS6 : TSites ((((((((w7.setCell ⟨gp, 0, none⟩ (.int .i64 1)).setCell ⟨gp, 1, none⟩ (.int .i64 0)).setCell ⟨gp, 2, none⟩ (.int .i64 1)).setCell ⟨gp, 3, none⟩ (.int .i64 2)).setCell ⟨gp, 4, none⟩ (.int .i64 0)).setCell ⟨gp, 5, none⟩ (.int .i64 4)).setCell ⟨gp, 6, none⟩ (.bool false)).setCell ⟨gp, 7, none⟩ (.bool false)) A8 c8 (pairS 4 3) := HTS5.other KQ (by decide) (grownv8 w7 gp _ _ _ _ _ _ _ _)
        refine takeD (i := 8) (v := .slice A 2 c) rfl rfl (by kernel_rfl) (by kernel_rfl) (by kernel_rfl) (fun _ _ _ h => h) (by rfl) ?_ hHeld ?_
        · intro W hSw
          go_simp
        simp only [Act.put, List.setIfInBounds_toArray, List.set_cons_zero, List.set_cons_succ]
        refine takeD (i := 9) (v := .int .i64 0) rfl rfl (by kernel_rfl) (by kernel_rfl) (by kernel_rfl) (fun _ _ _ h => h) (by rfl) ?_ hHeld ?_
        · intro W hSw
          go_simp
        simp only [Act.put, List.setIfInBounds_toArray, List.set_cons_zero, List.set_cons_succ]
        refine wpAnyH_done (by kernel_rfl) ?_ _
        clear hT hB KQ p0 p1 p2 p3 p4 p5 p6 p7 p8 KP KF5 HTS5
        generalize ((((((((w7.setCell ⟨gp, 0, none⟩ (.int .i64 1)).setCell ⟨gp, 1, none⟩ (.int .i64 0)).setCell ⟨gp, 2, none⟩ (.int .i64 1)).setCell ⟨gp, 3, none⟩ (.int .i64 2)).setCell ⟨gp, 4, none⟩ (.int .i64 0)).setCell ⟨gp, 5, none⟩ (.int .i64 4)).setCell ⟨gp, 6, none⟩ (.bool false)).setCell ⟨gp, 7, none⟩ (.bool false)) = W3 at KZ hT2 KF6 HTS6 ⊢
        go_wp2_with fail
        go_meet
        exact ⟨_, _, rfl, rfl, ⟨KZ⟩, ⟨hT2⟩, ⟨KF6⟩, ⟨HTS6⟩⟩
      · refine opCalledX (R := fun v w' => ∃ A c, v = .slice A 2 c ∧ TSites w' A c (pairS 4 4) ∧ Below (W2.drew).heap.size (W2.drew) w') (f := 28) (args := #[.int .i64 4, .int .i64 4]) rfl rfl (by rfl) ?_ ((law_pair _ 4 4).mono ?_) ?_
        · go_simp
        · rintro en w' ⟨A, c, rfl, hT, hB⟩; exact ⟨_, rfl, A, c, rfl, hT, hB⟩
        rintro vv w6 ⟨A, c, rfl, hT, hB⟩
        refine ⟨trivial, ?_⟩
        simp only [Act.put, List.setIfInBounds_toArray, List.set_cons_zero, List.set_cons_succ]
        have KQ6 := KP.out.drew.step hB
        obtain ⟨⟨p0, p1, p2, p3, p4, p5, p6, p7⟩, p8⟩ := KQ6.c8
        refine wpAnyH_all (rs := [0]) (by kernel_rfl) (by simp) ?_
        intro j hj
        simp only [List.mem_cons, List.not_mem_nil, or_false] at hj
        subst hj
        refine opRan (v := .agg #[.int .i64 1, .int .i64 0, .int .i64 1, .int .i64 1, .int .i64 0, .int .i64 4, .bool false, .bool false]) (w' := w6) rfl rfl (by rfl) ?_ trivial ?_
        · go_simp
        simp only [Act.put, List.setIfInBounds_toArray, List.set_cons_zero, List.set_cons_succ]
        clear p0 p1 p2 p3 p4 p5 p6 p7 p8 KQ6
        refine wpAnyH_all (rs := [2]) (by kernel_rfl) (by simp) ?_
        intro j hj
        simp only [List.mem_cons, List.not_mem_nil, or_false] at hj
        subst hj
        refine opCalledX (R := fun v w' => ∃ A c, v = .tuple #[.agg #[.int .i64 1, .int .i64 0, .int .i64 1, .int .i64 2, .int .i64 0, .int .i64 4, .bool false, .bool false], .slice A 2 c, .int .i64 0] ∧ TSites w' A c (pairS 4 4) ∧ Below w6.heap.size w6 w') (f := 19) (args := #[.agg #[.int .i64 1, .int .i64 0, .int .i64 1, .int .i64 1, .int .i64 0, .int .i64 4, .bool false, .bool false], .slice A 2 c, .bool true, .int .i64 4]) rfl rfl (by rfl) ?_ ((aw_step aw4 rfl rfl _ A c hT).mono ?_) ?_
        · go_simp
        · rintro en w' ⟨A', c', rfl, hT', hB'⟩; exact ⟨_, rfl, A', c', rfl, hT', hB'⟩
        clear hT
        rintro vv w7 ⟨A, c, rfl, hT, hB'⟩
        have hB := below_then hB hB'
        clear hB'
        refine ⟨trivial, ?_⟩
        simp only [Act.put, List.setIfInBounds_toArray, List.set_cons_zero, List.set_cons_succ]
        refine takeD (i := 3) (v := .tuple #[.agg #[.int .i64 1, .int .i64 0, .int .i64 1, .int .i64 2, .int .i64 0, .int .i64 4, .bool false, .bool false], .slice A 2 c, .int .i64 0]) rfl rfl (by kernel_rfl) (by kernel_rfl) (by kernel_rfl) (fun _ _ _ h => h) (by rfl) ?_ hHeld ?_
        · intro W hSw
          go_simp
        simp only [Act.put, List.setIfInBounds_toArray, List.set_cons_zero, List.set_cons_succ]
        refine takeD (i := 4) (v := .agg #[.int .i64 1, .int .i64 0, .int .i64 1, .int .i64 2, .int .i64 0, .int .i64 4, .bool false, .bool false]) rfl rfl (by kernel_rfl) (by kernel_rfl) (by kernel_rfl) (fun _ _ _ h => h) (by rfl) ?_ hHeld ?_
        · intro W hSw
          go_simp
        simp only [Act.put, List.setIfInBounds_toArray, List.set_cons_zero, List.set_cons_succ]
        refine takeD (i := 5) (v := .slice A 2 c) rfl rfl (by kernel_rfl) (by kernel_rfl) (by kernel_rfl) (fun _ _ _ h => h) (by rfl) ?_ hHeld ?_
        · intro W hSw
          go_simp
        simp only [Act.put, List.setIfInBounds_toArray, List.set_cons_zero, List.set_cons_succ]
        refine takeD (i := 6) (v := .int .i64 0) rfl rfl (by kernel_rfl) (by kernel_rfl) (by kernel_rfl) (fun _ _ _ h => h) (by rfl) ?_ hHeld ?_
        · intro W hSw
          go_simp
        simp only [Act.put, List.setIfInBounds_toArray, List.set_cons_zero, List.set_cons_succ]
        refine wpAnyH_all (rs := [7]) (by kernel_rfl) (by simp) ?_
        intro j hj
        simp only [List.mem_cons, List.not_mem_nil, or_false] at hj
        subst hj
        have KQ := KP.out.drew.step hB
        have KF5 := KF.out.drew.step hB
        have HTS5 := (HTS.out.step (below_drew (Below.refl _ _))).step hB
        obtain ⟨⟨p0, p1, p2, p3, p4, p5, p6, p7⟩, p8⟩ := KQ.c8
        refine opStored (w' := ((((((((w7.setCell ⟨gp, 0, none⟩ (.int .i64 1)).setCell ⟨gp, 1, none⟩ (.int .i64 0)).setCell ⟨gp, 2, none⟩ (.int .i64 1)).setCell ⟨gp, 3, none⟩ (.int .i64 2)).setCell ⟨gp, 4, none⟩ (.int .i64 0)).setCell ⟨gp, 5, none⟩ (.int .i64 4)).setCell ⟨gp, 6, none⟩ (.bool false)).setCell ⟨gp, 7, none⟩ (.bool false))) rfl rfl (by rfl) ?_ trivial ?_
        · go_simp
        have KZ : Held w gp [.int .i64 1, .int .i64 0, .int .i64 1, .int .i64 2, .int .i64 0, .int .i64 4, .bool false, .bool false] 26 ((((((((w7.setCell ⟨gp, 0, none⟩ (.int .i64 1)).setCell ⟨gp, 1, none⟩ (.int .i64 0)).setCell ⟨gp, 2, none⟩ (.int .i64 1)).setCell ⟨gp, 3, none⟩ (.int .i64 2)).setCell ⟨gp, 4, none⟩ (.int .i64 0)).setCell ⟨gp, 5, none⟩ (.int .i64 4)).setCell ⟨gp, 6, none⟩ (.bool false)).setCell ⟨gp, 7, none⟩ (.bool false)) := (((((((KQ.set 0 _).set 1 _).set 2 _).set 3 _).set 4 _).set 5 _).set 6 _).set 7 _
        have hT2 : TSites ((((((((w7.setCell ⟨gp, 0, none⟩ (.int .i64 1)).setCell ⟨gp, 1, none⟩ (.int .i64 0)).setCell ⟨gp, 2, none⟩ (.int .i64 1)).setCell ⟨gp, 3, none⟩ (.int .i64 2)).setCell ⟨gp, 4, none⟩ (.int .i64 0)).setCell ⟨gp, 5, none⟩ (.int .i64 4)).setCell ⟨gp, 6, none⟩ (.bool false)).setCell ⟨gp, 7, none⟩ (.bool false)) A c (pairS 4 4) := hT.other KQ (by decide) (grownv8 w7 gp _ _ _ _ _ _ _ _)
        have KF6 : Held w gf [.int .i64 1, .int .i64 0, .int .i64 1, .int .i64 1, .int .i64 0, .int .i64 4, .bool false, .bool true] 26 ((((((((w7.setCell ⟨gp, 0, none⟩ (.int .i64 1)).setCell ⟨gp, 1, none⟩ (.int .i64 0)).setCell ⟨gp, 2, none⟩ (.int .i64 1)).setCell ⟨gp, 3, none⟩ (.int .i64 2)).setCell ⟨gp, 4, none⟩ (.int .i64 0)).setCell ⟨gp, 5, none⟩ (.int .i64 4)).setCell ⟨gp, 6, none⟩ (.bool false)).setCell ⟨gp, 7, none⟩ (.bool false)) := KF5.grown hgf KQ.ge (grownv8 w7 gp _ _ _ _ _ _ _ _)
        have HTS6 : TSites ((((((((w7.setCell ⟨gp, 0, none⟩ (.int .i64 1)).setCell ⟨gp, 1, none⟩ (.int .i64 0)).setCell ⟨gp, 2, none⟩ (.int .i64 1)).setCell ⟨gp, 3, none⟩ (.int .i64 2)).setCell ⟨gp, 4, none⟩ (.int .i64 0)).setCell ⟨gp, 5, none⟩ (.int .i64 4)).setCell ⟨gp, 6, none⟩ (.bool false)).setCell ⟨gp, 7, none⟩ (.bool false)) A8 c8 (pairS 4 3) := HTS5.other KQ (by decide) (grownv8 w7 gp _ _ _ _ _ _ _ _)
        refine takeD (i := 8) (v := .slice A 2 c) rfl rfl (by kernel_rfl) (by kernel_rfl) (by kernel_rfl) (fun _ _ _ h => h) (by rfl) ?_ hHeld ?_
        · intro W hSw
          go_simp
        simp only [Act.put, List.setIfInBounds_toArray, List.set_cons_zero, List.set_cons_succ]
        refine takeD (i := 9) (v := .int .i64 0) rfl rfl (by kernel_rfl) (by kernel_rfl) (by kernel_rfl) (fun _ _ _ h => h) (by rfl) ?_ hHeld ?_
        · intro W hSw
          go_simp
        simp only [Act.put, List.setIfInBounds_toArray, List.set_cons_zero, List.set_cons_succ]
        refine wpAnyH_done (by kernel_rfl) ?_ _
        clear hT hB KQ p0 p1 p2 p3 p4 p5 p6 p7 p8 KP KF5 HTS5
        generalize ((((((((w7.setCell ⟨gp, 0, none⟩ (.int .i64 1)).setCell ⟨gp, 1, none⟩ (.int .i64 0)).setCell ⟨gp, 2, none⟩ (.int .i64 1)).setCell ⟨gp, 3, none⟩ (.int .i64 2)).setCell ⟨gp, 4, none⟩ (.int .i64 0)).setCell ⟨gp, 5, none⟩ (.int .i64 4)).setCell ⟨gp, 6, none⟩ (.bool false)).setCell ⟨gp, 7, none⟩ (.bool false)) = W3 at KZ hT2 KF6 HTS6 ⊢
        go_wp2_with fail
        go_meet
        exact ⟨_, _, rfl, rfl, ⟨KZ⟩, ⟨hT2⟩, ⟨KF6⟩, ⟨HTS6⟩⟩
    case rest =>
      obtain ⟨A9, c9, rfl, rfl, KP, HT9, KF, HTS⟩ := hcut
      clear p0 p1 p2 p3 p4 p5 p6 p7 p8
      obtain ⟨⟨p0, p1, p2, p3, p4, p5, p6, p7⟩, p8⟩ := KP.out.c8
      obtain ⟨⟨f0, f1, f2, f3, f4, f5, f6, f7⟩, f8⟩ := KF.out.c8
      go_wp2_with (first
        | (go_at_call 19; (with_reducible refine (aw_step (q := zP) aw5 len44 List.length_nil _ A9 c9 HT9.out).mono ?_); rintro en w10 ⟨A11, c11, rfl, hT, hB⟩; have KPa := Keep.mk (KP.out.step hB); have KFa := KF.out.step hB; have hlf := KFa.lt; have HTa := Keep.mk (HT9.out.step hB); have HSa := Keep.mk (HTS.out.step hB); clear hT hB p0 p1 p2 p3 p4 p5 p6 p7 p8 f0 f1 f2 f3 f4 f5 f6 f7 f8; obtain ⟨⟨f0, f1, f2, f3, f4, f5, f6, f7⟩, f8⟩ := KFa.c8; clear KFa)
        | (go_at_call 28; (with_reducible refine (law_pair _ 4 3).mono ?_); rintro en w11 ⟨A12, c12, rfl, hT, hB⟩; have KPb := Keep.mk ((KPa.out.alloc _).step hB); have HTb := Keep.mk ((HTa.out.step (below_new (Below.refl _ _) _)).step hB); have HSb := Keep.mk ((HSa.out.step (below_new (Below.refl _ _) _)).step hB); have HPb := Keep.mk hT; clear hT hB)
        | (go_at_call 21; (with_reducible refine (aw_same _ A8 A12 c8 c12 HSb.out HPb.out).mono ?_); rintro en w12 ⟨rfl, hB⟩; have KPc := Keep.mk (KPb.out.step hB); have HTc := Keep.mk (HTb.out.step hB); clear hB))
      clear KP KF HTS HT9 KPa HTa HSa KPb HTb HSb HPb f0 f1 f2 f3 f4 f5 f6 f7 f8 hlf
      go_loopg [14, 2, 3] 3 (fun g n e s wr => ∃ (k : Nat) (A : Option Addr) (c : Nat), g = 3 - k ∧ k ≤ 3 ∧ n = .int .i64 k ∧ e = .int .i64 0 ∧ s = .slice A 2 c ∧ Keep (Held w gp [.int .i64 (awK k).1.ki, .int .i64 (awK k).1.fr, .int .i64 (awK k).1.to_, .int .i64 (awK k).1.st, .int .i64 (awK k).1.ep, .int .i64 (awK k).1.cy, .bool (awK k).1.dn, .bool (awK k).1.fa] 26 wr) ∧ Keep (TSites wr A c (awK k).2))
      case atStart => exact ⟨0, A9, c9, rfl, by omega, rfl, rfl, rfl, KPc, HTc⟩
      case round =>
        obtain ⟨k, A, c, rfl, hk, rfl, rfl, rfl, KP, HT⟩ := hrel
        by_cases hk2 : k < 3
        · obtain ⟨h1, h2, h3⟩ := aw6 k hk2
          have HK := Keep.mk (And.intro h1 (And.intro h2 h3))
          clear h1 h2 h3
          have hk3 : (k : Int) < 3 := by omega
          generalize hp : (awK k).1 = p at KP HK
          generalize hq : (awK (k + 1)).1 = q at HK
          generalize hl : (awK k).2 = l at HT HK
          generalize hl' : (awK (k + 1)).2 = l' at HK
          have HE := Keep.mk (And.intro hq hl')
          clear hp hq hl hl'
          obtain ⟨⟨p0, p1, p2, p3, p4, p5, p6, p7⟩, p8⟩ := KP.out.c8
          go_wp2_with (first
            | (go_at_call 19; (with_reducible refine (aw_step HK.out.1 HK.out.2.1 HK.out.2.2 _ A c HT.out).mono ?_); rintro en w20 ⟨A21, c21, rfl, hT, hB⟩; have KP2 := Keep.mk ((KP.out.step hB).alloc (.cells #[.int .i64 q.ki, .int .i64 q.fr, .int .i64 q.to_, .int .i64 q.st, .int .i64 q.ep, .int .i64 q.cy, .bool q.dn, .bool q.fa] 26)); have HT2 := Keep.mk (hT.step (below_new (Below.refl _ _) (.cells #[.int .i64 q.ki, .int .i64 q.fr, .int .i64 q.to_, .int .i64 q.st, .int .i64 q.ep, .int .i64 q.cy, .bool q.dn, .bool q.fa] 26))); have hlp : gp < w20.heap.size := (KP.out.step hB).lt; clear hT hB p0 p1 p2 p3 p4 p5 p6 p7 p8)
            | ((with_reducible refine wpList_store_proc ?_ (.tmp 1) (.tmp 104) ?_ w gp KP2.out ?_ q ?_ ?_); rfl; rfl; rfl; rfl; intro w21 K21 hg; have HT3 := Keep.mk (HT2.out.other KP2.out (by decide) hg); have KP3 := Keep.mk K21; clear hg K21))
          go_roundg (3 - (k + 1))
          case measure => omega
          case rel =>
            refine ⟨k + 1, A21, c21, rfl, by omega, by go_num, rfl, rfl, ⟨?_⟩, ⟨?_⟩⟩
            · rw [HE.out.1]; exact KP3.out
            · rw [HE.out.2]; exact HT3.out
        · have : k = 3 := by omega
          subst this
          obtain ⟨h1, h2, h3, h4, h5, h6⟩ := aw7
          rw [h1] at KP
          generalize (awK 3).2 = l at HT h2 h3 h4 h5 h6
          obtain ⟨b, o, A1, c1, hA, -, l0⟩ := (HT.out.reads 5864062014634).at_ 0 (by omega)
          obtain ⟨b', o', A2, c2, hA', -, l1⟩ := (HT.out.reads 5864062014634).at_ 1 (by omega)
          rw [hA] at hA'
          injection hA' with hA'
          injection hA' with e1 e2
          subst hA e1 e2
          generalize l.getD 0 zS = x at l0 h3 h4
          generalize l.getD 1 zS = y at l1 h5 h6
          have HL := Keep.mk (And.intro l0 l1)
          have HX := Keep.mk (And.intro h3 (And.intro h4 (And.intro h5 h6)))
          have HL2 := Keep.mk h2
          clear l0 l1 h1 h2 h3 h4 h5 h6
          obtain ⟨⟨p0, p1, p2, p3, p4, p5, p6, p7⟩, p8⟩ := KP.out.c8
          go_wp2_with (first
            | (go_at_call 15; (with_reducible refine (aw_need _).mono ?_); rintro en w30 ⟨rfl, hB⟩; have KP5 := Keep.mk (KP.out.step hB); obtain ⟨-, x1, -, -, -, x5, -, -, -⟩ := HL.out.1.below hB; obtain ⟨-, y1, y2, -, -, -, -, -, -⟩ := HL.out.2.below hB; rw [HX.out.1] at x1; rw [HX.out.2.1] at x5; rw [HX.out.2.2.1] at y1; rw [HX.out.2.2.2] at y2; clear hB p0 p1 p2 p3 p4 p5 p6 p7 p8; obtain ⟨⟨p0, p1, p2, p3, p4, p5, p6, p7⟩, p8⟩ := KP5.out.c8))
          go_ret
          exact ⟨rfl, KP5.out.bel⟩
end Go.Proofs.Ytijhkgabonkmfaa
