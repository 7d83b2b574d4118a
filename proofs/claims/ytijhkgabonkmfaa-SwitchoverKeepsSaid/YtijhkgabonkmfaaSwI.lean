/- Contract: grant. -/
import Derived.Test.YtijhkgabonkmfaaSwH
namespace Go.Proofs.Ytijhkgabonkmfaa
open Go.RowKit
set_option linter.unusedSimpArgs false
set_option linter.unusedVariables false
set_option maxRecDepth 100000
attribute [local irreducible] wpStill
set_option maxHeartbeats 1000000 in
theorem mv_grant (w0 W : World) (gp b c i k : Nat) (p : Proc) (m : List Sv) (v : Int) (a b' : Site) (H : Mv w0 W gp b c p m) (hi : i < m.length) (hk : k < m.length) (ha : (m.getD i zSv).s = a) (hb : (m.getD k zSv).s = b') :
    Calls Try.prog 57 #[.agg #[.pointer (some ⟨gp, 0, none⟩), .pointer (some ⟨b, i * 8, none⟩), .pointer (some ⟨b, k * 8, none⟩), .int .i64 v]] W (MvPost w0 W gp b c { p with ep := v, st := 3 } m (grE a b' v)) := by
  unfold grE
  cases g1 : decide (v ≤ 1073741824)
  · simp only [Bool.true_eq_false, Bool.false_eq_true, if_false, if_true]
    go_enter Try.func57, Try.ntmps57
    go_upto_region 1 with (fail)
    have KX := Held.new (Below.refl W.heap.size W) [.pointer (some ⟨gp, 0, none⟩), .pointer (some ⟨b, i * 8, none⟩), .pointer (some ⟨b, k * 8, none⟩), .int .i64 v] 79
    have H1 := Keep.mk (H.step KX.bel)
    generalize hW1 : W.alloc (.cells #[.pointer (some ⟨gp, 0, none⟩), .pointer (some ⟨b, i * 8, none⟩), .pointer (some ⟨b, k * 8, none⟩), .int .i64 v] 79) = W1 at KX H1 ⊢
    clear hW1
    have x0 := KX.cell 0 _ rfl; have x1 := KX.cell 1 _ rfl; have x2 := KX.cell 2 _ rfl; have x3 := KX.cell 3 _ rfl
    have KX := Keep.mk KX
    obtain ⟨⟨p0, p1, p2, p3, p4, p5, p6, p7⟩, p8⟩ := H1.out.kp.c8
    obtain ⟨A1, c1, ⟨a0, a1, a2, a3, a4, a5, a6, a7, -⟩, SA⟩ := H1.out.at_ i hi a ha
    obtain ⟨A2, c2, ⟨b0, b1, b2, b3, b4, b5, b6, b7, -⟩, SB⟩ := H1.out.at_ k hk b' hb
    have SAB := Keep.mk (And.intro SA SB)
    clear SA SB
    go_wp2_with (first | (go_at_call 34; (with_reducible refine (sw_demand_ok _ _).mono ?_); rintro e w' ⟨rfl, hw⟩; subst w') | (go_at_call 34; (with_reducible refine (sw_demand_no _ _).mono ?_); rintro e w' ⟨rfl, hw⟩; subst w'))
    refine ⟨rfl, MvPost.no ?_ (by repeat' (first | exact KX.out.bel | (apply below_new) | (refine below_drewN ?_ _) | (refine below_drew ?_) | (refine below_set ?_ (by first | exact Nat.le_refl _ | omega | (simp; done) | (simp; omega)) _)))⟩; decide
  cases g2 : decide (a.ep < v)
  · simp only [Bool.true_eq_false, Bool.false_eq_true, if_false, if_true]
    go_enter Try.func57, Try.ntmps57
    go_upto_region 1 with (fail)
    have KX := Held.new (Below.refl W.heap.size W) [.pointer (some ⟨gp, 0, none⟩), .pointer (some ⟨b, i * 8, none⟩), .pointer (some ⟨b, k * 8, none⟩), .int .i64 v] 79
    have H1 := Keep.mk (H.step KX.bel)
    generalize hW1 : W.alloc (.cells #[.pointer (some ⟨gp, 0, none⟩), .pointer (some ⟨b, i * 8, none⟩), .pointer (some ⟨b, k * 8, none⟩), .int .i64 v] 79) = W1 at KX H1 ⊢
    clear hW1
    have x0 := KX.cell 0 _ rfl; have x1 := KX.cell 1 _ rfl; have x2 := KX.cell 2 _ rfl; have x3 := KX.cell 3 _ rfl
    have KX := Keep.mk KX
    obtain ⟨⟨p0, p1, p2, p3, p4, p5, p6, p7⟩, p8⟩ := H1.out.kp.c8
    obtain ⟨A1, c1, ⟨a0, a1, a2, a3, a4, a5, a6, a7, -⟩, SA⟩ := H1.out.at_ i hi a ha
    obtain ⟨A2, c2, ⟨b0, b1, b2, b3, b4, b5, b6, b7, -⟩, SB⟩ := H1.out.at_ k hk b' hb
    have SAB := Keep.mk (And.intro SA SB)
    clear SA SB
    go_wp2_with (first | (go_at_call 34; (with_reducible refine (sw_demand_ok _ _).mono ?_); rintro e w' ⟨rfl, hw⟩; subst w') | (go_at_call 34; (with_reducible refine (sw_demand_no _ _).mono ?_); rintro e w' ⟨rfl, hw⟩; subst w'))
    refine wp_region_still_tail 18 (by kernel_rfl) (by kernel_rfl) ?_
    simp only [List.take_succ_cons, List.take_zero, List.drop_succ_cons, List.drop_zero]
    repeat (first | (refine ws_skip (by rfl) ?_; simp only [Act.put, List.setIfInBounds_toArray, List.set_cons_succ, List.set_cons_zero]) | (refine ws_ran (by rfl) ?_; apply Exists.intro; refine ⟨?_, ?_⟩; ((go_simp; rfl)); simp only [Act.put, List.setIfInBounds_toArray, List.set_cons_succ, List.set_cons_zero]))
    refine wpStill_nil ?_
    change wpList _ _ _ _ _ (World.drew _)
    go_wp2_with (first | (go_at_call 34; (with_reducible refine (sw_demand_ok _ _).mono ?_); rintro e w' ⟨rfl, hw⟩; subst w') | (go_at_call 34; (with_reducible refine (sw_demand_no _ _).mono ?_); rintro e w' ⟨rfl, hw⟩; subst w'))
    refine ⟨rfl, MvPost.no ?_ (by repeat' (first | exact KX.out.bel | (apply below_new) | (refine below_drewN ?_ _) | (refine below_drew ?_) | (refine below_set ?_ (by first | exact Nat.le_refl _ | omega | (simp; done) | (simp; omega)) _)))⟩; decide
  cases g3 : decide (b'.ep < v)
  · simp only [Bool.true_eq_false, Bool.false_eq_true, if_false, if_true]
    go_enter Try.func57, Try.ntmps57
    go_upto_region 1 with (fail)
    have KX := Held.new (Below.refl W.heap.size W) [.pointer (some ⟨gp, 0, none⟩), .pointer (some ⟨b, i * 8, none⟩), .pointer (some ⟨b, k * 8, none⟩), .int .i64 v] 79
    have H1 := Keep.mk (H.step KX.bel)
    generalize hW1 : W.alloc (.cells #[.pointer (some ⟨gp, 0, none⟩), .pointer (some ⟨b, i * 8, none⟩), .pointer (some ⟨b, k * 8, none⟩), .int .i64 v] 79) = W1 at KX H1 ⊢
    clear hW1
    have x0 := KX.cell 0 _ rfl; have x1 := KX.cell 1 _ rfl; have x2 := KX.cell 2 _ rfl; have x3 := KX.cell 3 _ rfl
    have KX := Keep.mk KX
    obtain ⟨⟨p0, p1, p2, p3, p4, p5, p6, p7⟩, p8⟩ := H1.out.kp.c8
    obtain ⟨A1, c1, ⟨a0, a1, a2, a3, a4, a5, a6, a7, -⟩, SA⟩ := H1.out.at_ i hi a ha
    obtain ⟨A2, c2, ⟨b0, b1, b2, b3, b4, b5, b6, b7, -⟩, SB⟩ := H1.out.at_ k hk b' hb
    have SAB := Keep.mk (And.intro SA SB)
    clear SA SB
    go_wp2_with (first | (go_at_call 34; (with_reducible refine (sw_demand_ok _ _).mono ?_); rintro e w' ⟨rfl, hw⟩; subst w') | (go_at_call 34; (with_reducible refine (sw_demand_no _ _).mono ?_); rintro e w' ⟨rfl, hw⟩; subst w'))
    refine wp_region_still_tail 18 (by kernel_rfl) (by kernel_rfl) ?_
    simp only [List.take_succ_cons, List.take_zero, List.drop_succ_cons, List.drop_zero]
    repeat (first | (refine ws_skip (by rfl) ?_; simp only [Act.put, List.setIfInBounds_toArray, List.set_cons_succ, List.set_cons_zero]) | (refine ws_ran (by rfl) ?_; apply Exists.intro; refine ⟨?_, ?_⟩; ((go_simp; rfl)); simp only [Act.put, List.setIfInBounds_toArray, List.set_cons_succ, List.set_cons_zero]))
    refine wpStill_nil ?_
    change wpList _ _ _ _ _ (World.drew _)
    go_wp2_with (first | (go_at_call 34; (with_reducible refine (sw_demand_ok _ _).mono ?_); rintro e w' ⟨rfl, hw⟩; subst w') | (go_at_call 34; (with_reducible refine (sw_demand_no _ _).mono ?_); rintro e w' ⟨rfl, hw⟩; subst w'))
    refine ⟨rfl, MvPost.no ?_ (by repeat' (first | exact KX.out.bel | (apply below_new) | (refine below_drewN ?_ _) | (refine below_drew ?_) | (refine below_set ?_ (by first | exact Nat.le_refl _ | omega | (simp; done) | (simp; omega)) _)))⟩; decide
  simp only [Bool.true_eq_false, Bool.false_eq_true, if_false, if_true]
  go_enter Try.func57, Try.ntmps57
  go_upto_region 1 with (fail)
  have KX := Held.new (Below.refl W.heap.size W) [.pointer (some ⟨gp, 0, none⟩), .pointer (some ⟨b, i * 8, none⟩), .pointer (some ⟨b, k * 8, none⟩), .int .i64 v] 79
  have H1 := Keep.mk (H.step KX.bel)
  generalize hW1 : W.alloc (.cells #[.pointer (some ⟨gp, 0, none⟩), .pointer (some ⟨b, i * 8, none⟩), .pointer (some ⟨b, k * 8, none⟩), .int .i64 v] 79) = W1 at KX H1 ⊢
  clear hW1
  have x0 := KX.cell 0 _ rfl; have x1 := KX.cell 1 _ rfl; have x2 := KX.cell 2 _ rfl; have x3 := KX.cell 3 _ rfl
  have KX := Keep.mk KX
  obtain ⟨⟨p0, p1, p2, p3, p4, p5, p6, p7⟩, p8⟩ := H1.out.kp.c8
  obtain ⟨A1, c1, ⟨a0, a1, a2, a3, a4, a5, a6, a7, -⟩, SA⟩ := H1.out.at_ i hi a ha
  obtain ⟨A2, c2, ⟨b0, b1, b2, b3, b4, b5, b6, b7, -⟩, SB⟩ := H1.out.at_ k hk b' hb
  have SAB := Keep.mk (And.intro SA SB)
  clear SA SB
  go_wp2_with (first | (go_at_call 34; (with_reducible refine (sw_demand_ok _ _).mono ?_); rintro e w' ⟨rfl, hw⟩; subst w') | (go_at_call 34; (with_reducible refine (sw_demand_no _ _).mono ?_); rintro e w' ⟨rfl, hw⟩; subst w'))
  refine wp_region_still_tail 18 (by kernel_rfl) (by kernel_rfl) ?_
  simp only [List.take_succ_cons, List.take_zero, List.drop_succ_cons, List.drop_zero]
  repeat (first | (refine ws_skip (by rfl) ?_; simp only [Act.put, List.setIfInBounds_toArray, List.set_cons_succ, List.set_cons_zero]) | (refine ws_ran (by rfl) ?_; apply Exists.intro; refine ⟨?_, ?_⟩; ((go_simp; rfl)); simp only [Act.put, List.setIfInBounds_toArray, List.set_cons_succ, List.set_cons_zero]))
  refine wpStill_nil ?_
  change wpList _ _ _ _ _ (World.drew _)
  go_wp2_with (first | (go_at_call 34; (with_reducible refine (sw_demand_ok _ _).mono ?_); rintro e w' ⟨rfl, hw⟩; subst w') | (go_at_call 34; (with_reducible refine (sw_demand_no _ _).mono ?_); rintro e w' ⟨rfl, hw⟩; subst w'))
  go_region
  go_end0
  exact (MvPost.ok KX.out.bel (((H1.out.setp 4 (.int .i64 v) { p with ep := v } rfl).setp 3 (.int .i64 3) { p with ep := v, st := 3 } rfl).drew.drew) (fun q h1 h2 => (heap_set_other _ gp 3 q _ h1).trans (heap_set_other _ gp 4 q _ h1)))
end Go.Proofs.Ytijhkgabonkmfaa
