/- Contracts: standbyref52.Check, standbyref52.Need. -/
import Derived.Test.YtijhkgabonkmfaaSwD
import Derived.Test.YtijhkgabonkmfaaSwQ
namespace Go.Proofs.Ytijhkgabonkmfaa
open Go.RowKit
set_option linter.unusedSimpArgs false
set_option linter.unusedVariables false
set_option maxHeartbeats 2000000 in
theorem ref52_Check (w : World) (p : Proc) : Calls Try.prog 18 #[.agg #[.int .i64 p.ki, .int .i64 p.fr, .int .i64 p.to_, .int .i64 p.st, .int .i64 p.ep, .int .i64 p.cy, .bool p.dn, .bool p.fa]] w fun e w' => e = .returned (.int .i64 (checkP p)) ∧ Below w.heap.size w w' := by
  obtain ⟨ki, fr, to_, st, ep, cy, dn, fa⟩ := p
  have K0 := Held.new (Below.refl w.heap.size w) [.int .i64 (Proc.mk ki fr to_ st ep cy dn fa).ki, .int .i64 (Proc.mk ki fr to_ st ep cy dn fa).fr, .int .i64 (Proc.mk ki fr to_ st ep cy dn fa).to_, .int .i64 (Proc.mk ki fr to_ st ep cy dn fa).st, .int .i64 (Proc.mk ki fr to_ st ep cy dn fa).ep, .int .i64 (Proc.mk ki fr to_ st ep cy dn fa).cy, .bool (Proc.mk ki fr to_ st ep cy dn fa).dn, .bool (Proc.mk ki fr to_ st ep cy dn fa).fa] 26
  have KB := Keep.mk K0.bel
  have H1 := or8 true false (ki != 1) (decide (fr < 0)) (decide (4 ≤ fr)) (decide (to_ < 0)) (decide (4 ≤ to_)) (fr == to_) (decide (st < 0)) (decide (5 < st))
  rw [ite_tf] at H1
  have E1 := @checkP_or1 ⟨ki, fr, to_, st, ep, cy, dn, fa⟩
  have E2 := @checkP_or2 ⟨ki, fr, to_, st, ep, cy, dn, fa⟩
  have E3 := @checkP_ok ⟨ki, fr, to_, st, ep, cy, dn, fa⟩
  generalize checkP ⟨ki, fr, to_, st, ep, cy, dn, fa⟩ = ck at E1 E2 E3 ⊢
  simp only [orP1, orP2] at K0 KB E1 E2 E3 ⊢
  cases fa
  all_goals
    obtain ⟨⟨p0, p1, p2, p3, p4, p5, p6, p7⟩, p8⟩ := K0.c8
    clear K0
  case false =>
    have H2 := or5 true false (decide (ep < 0)) (decide (1073741824 < ep)) (decide (cy < 0)) (decide (1073741824 < cy)) (dn != (st == 5))
    rw [ite_tf] at H2
    rcases H1 with ⟨g1, hr⟩ | ⟨g1, g2, hr⟩ | ⟨g1, g2, g3, hr⟩ | ⟨g1, g2, g3, g4, hr⟩ | ⟨g1, g2, g3, g4, g5, hr⟩ | ⟨g1, g2, g3, g4, g5, g6, hr⟩ | ⟨g1, g2, g3, g4, g5, g6, g7, hr⟩ | ⟨g1, g2, g3, g4, g5, g6, g7, g8, hr⟩ | ⟨g1, g2, g3, g4, g5, g6, g7, g8, hr⟩
    case inr.inr.inr.inr.inr.inr.inr.inr =>
      replace E3 := E3 hr
      simp only [Bool.false_and, Bool.or_false] at E2 E3
      clear hr E1
      cases dn
      all_goals simp only [Bool.true_bne, Bool.false_bne] at H2 E2 E3
      all_goals rcases H2 with ⟨k1, hr⟩ | ⟨k1, k2, hr⟩ | ⟨k1, k2, k3, hr⟩ | ⟨k1, k2, k3, k4, hr⟩ | ⟨k1, k2, k3, k4, k5, hr⟩ | ⟨k1, k2, k3, k4, k5, hr⟩
      all_goals (try simp only [Bool.not_eq_true', Bool.not_eq_false'] at k5)
      all_goals
        first | (have hE := E2 hr; subst hE) | (have hE := E3 hr; subst hE)
        clear hr E2 E3
        go_enter Try.func18, Try.ntmps18
        go_wp2
        go_ret
        exact ⟨rfl, KB.out⟩
    all_goals
      obtain rfl := E1 hr
      clear hr H2 E2 E3 E1
      go_enter Try.func18, Try.ntmps18
      go_wp2
      go_ret
      exact ⟨rfl, KB.out⟩
  have H2 := or6 true false (decide (ep < 0)) (decide (1073741824 < ep)) (decide (cy < 0)) (decide (1073741824 < cy)) (dn != (st == 5)) (decide (3 < st))
  rw [ite_tf] at H2
  rcases H1 with ⟨g1, hr⟩ | ⟨g1, g2, hr⟩ | ⟨g1, g2, g3, hr⟩ | ⟨g1, g2, g3, g4, hr⟩ | ⟨g1, g2, g3, g4, g5, hr⟩ | ⟨g1, g2, g3, g4, g5, g6, hr⟩ | ⟨g1, g2, g3, g4, g5, g6, g7, hr⟩ | ⟨g1, g2, g3, g4, g5, g6, g7, g8, hr⟩ | ⟨g1, g2, g3, g4, g5, g6, g7, g8, hr⟩
  case inr.inr.inr.inr.inr.inr.inr.inr =>
    replace E3 := E3 hr
    simp only [Bool.true_and] at E2 E3
    clear hr E1
    cases dn
    all_goals simp only [Bool.true_bne, Bool.false_bne] at H2 E2 E3
    all_goals rcases H2 with ⟨k1, hr⟩ | ⟨k1, k2, hr⟩ | ⟨k1, k2, k3, hr⟩ | ⟨k1, k2, k3, k4, hr⟩ | ⟨k1, k2, k3, k4, k5, hr⟩ | ⟨k1, k2, k3, k4, k5, k6, hr⟩ | ⟨k1, k2, k3, k4, k5, k6, hr⟩
    all_goals (try simp only [Bool.not_eq_true', Bool.not_eq_false'] at k5)
    all_goals
      first | (have hE := E2 hr; subst hE) | (have hE := E3 hr; subst hE)
      clear hr E2 E3
      go_enter Try.func18, Try.ntmps18
      go_wp2
      go_ret
      exact ⟨rfl, KB.out⟩
  all_goals
    obtain rfl := E1 hr
    clear hr H2 E2 E3 E1
    go_enter Try.func18, Try.ntmps18
    go_wp2
    go_ret
    exact ⟨rfl, KB.out⟩
set_option maxHeartbeats 2000000 in
theorem ref52_Need (w : World) (p : Proc) : Calls Try.prog 16 #[.agg #[.int .i64 p.ki, .int .i64 p.fr, .int .i64 p.to_, .int .i64 p.st, .int .i64 p.ep, .int .i64 p.cy, .bool p.dn, .bool p.fa]] w fun e w' => e = .returned (.tuple #[.string (needP p).1, .int .i64 (needP p).2]) ∧ Below w.heap.size w w' := by
  obtain ⟨ki, fr, to_, st, ep, cy, dn, fa⟩ := p
  have K0 := Keep.mk (Held.new (Below.refl w.heap.size w) [.int .i64 (Proc.mk ki fr to_ st ep cy dn fa).ki, .int .i64 (Proc.mk ki fr to_ st ep cy dn fa).fr, .int .i64 (Proc.mk ki fr to_ st ep cy dn fa).to_, .int .i64 (Proc.mk ki fr to_ st ep cy dn fa).st, .int .i64 (Proc.mk ki fr to_ st ep cy dn fa).ep, .int .i64 (Proc.mk ki fr to_ st ep cy dn fa).cy, .bool (Proc.mk ki fr to_ st ep cy dn fa).dn, .bool (Proc.mk ki fr to_ st ep cy dn fa).fa] 26)
  have HCK := fun w => ref52_Check w ⟨ki, fr, to_, st, ep, cy, dn, fa⟩
  have HW := need_ways ⟨ki, fr, to_, st, ep, cy, dn, fa⟩
  generalize checkP ⟨ki, fr, to_, st, ep, cy, dn, fa⟩ = ck at HCK HW
  simp only at K0 HCK HW ⊢
  rcases HW with ⟨g1, hr⟩ | ⟨g1, g2, hr⟩ | ⟨g1, g2, g3, hr⟩ | ⟨g1, g2, g3, hr⟩ | ⟨g1, g2, g3, hr⟩ | ⟨g1, g2, g3, hr⟩ | ⟨g1, g2, g3, hr⟩ | ⟨g1, g2, g3, hr⟩
  all_goals
    rw [hr]
    clear hr
    (try subst g2)
    (try subst g3)
    have g1' : (ck != 0) = !(ck == 0) := rfl
    rw [g1] at g1'
    simp only [Bool.not_true, Bool.not_false] at g1'
    obtain ⟨⟨p0, p1, p2, p3, p4, p5, p6, p7⟩, p8⟩ := K0.out.c8
    go_enter Try.func16, Try.ntmps16
    go_wp2_with (go_at_call 18; (with_reducible refine (HCK _).mono ?_); rintro e w1 ⟨rfl, hB⟩; have K1 := K0.out.step hB; have KB := Keep.mk K1.bel; clear p0 p1 p2 p3 p4 p5 p6 p7 p8; obtain ⟨⟨p0, p1, p2, p3, p4, p5, p6, p7⟩, p8⟩ := K1.c8; clear hB K1 K0)
    repeat (go_quiet (fail); try go_wp2)
    go_ret2
    first
      | exact ⟨rfl, KB.out⟩
      | exact ⟨rfl, (by repeat' (first | exact KB.out | (apply below_new) | (refine below_drewN ?_ _) | (refine below_drew ?_) | (refine below_set ?_ (by first | exact Nat.le_refl _ | omega | (simp; done) | (simp; omega)) _)))⟩
end Go.Proofs.Ytijhkgabonkmfaa
