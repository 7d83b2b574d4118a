/- Contracts: switchover.Check, standbyref52.Check. -/
import Derived.Test.YtijhkgabonkmfaaSwD
import Derived.Test.YtijhkgabonkmfaaSwQ
namespace Go.Proofs.Ytijhkgabonkmfaa
open Go.RowKit
set_option linter.unusedSimpArgs false
set_option linter.unusedVariables false
theorem sw_site (n : Int) (w : World) : Calls Try.prog 37 #[.int .i64 n] w fun e w' => e = .returned (.bool (inS n)) ∧ w' = w := by
  by_cases h : 0 ≤ n
  · have hh : inS n = decide (n < 4) := by simp only [inS, inB, h, decide_true, Bool.true_and, decide_eq_decide]; omega
    rw [hh]
    go_enter Try.func37, Try.ntmps37
    go_wp2
    go_ret
    exact ⟨rfl, rfl⟩
  · have hh : inS n = false := by simp [inS, inB, h]
    rw [hh]
    go_enter Try.func37, Try.ntmps37
    go_wp2
    go_ret
    exact ⟨rfl, rfl⟩
theorem sw_time (n : Int) (w : World) : Calls Try.prog 38 #[.int .i64 n] w fun e w' => e = .returned (.bool (inT n)) ∧ w' = w := by
  by_cases h : 0 ≤ n
  · have hh : inT n = decide (n ≤ 1073741824) := by simp only [inT, inB, h, decide_true, Bool.true_and]
    rw [hh]
    go_enter Try.func38, Try.ntmps38
    go_wp2
    go_ret
    exact ⟨rfl, rfl⟩
  · have hh : inT n = false := by simp [inT, inB, h]
    rw [hh]
    go_enter Try.func38, Try.ntmps38
    go_wp2
    go_ret
    exact ⟨rfl, rfl⟩
set_option maxHeartbeats 2000000 in
theorem sw_Check (w : World) (p : Proc) : Calls Try.prog 17 #[.agg #[.int .i64 p.ki, .int .i64 p.fr, .int .i64 p.to_, .int .i64 p.st, .int .i64 p.ep, .int .i64 p.cy, .bool p.dn, .bool p.fa]] w fun e w' => e = .returned (.int .i64 (checkP p)) ∧ Below w.heap.size w w' := by
  obtain ⟨ki, fr, to_, st, ep, cy, dn, fa⟩ := p
  have K0 := Held.new (Below.refl w.heap.size w) [.int .i64 (Proc.mk ki fr to_ st ep cy dn fa).ki, .int .i64 (Proc.mk ki fr to_ st ep cy dn fa).fr, .int .i64 (Proc.mk ki fr to_ st ep cy dn fa).to_, .int .i64 (Proc.mk ki fr to_ st ep cy dn fa).st, .int .i64 (Proc.mk ki fr to_ st ep cy dn fa).ep, .int .i64 (Proc.mk ki fr to_ st ep cy dn fa).cy, .bool (Proc.mk ki fr to_ st ep cy dn fa).dn, .bool (Proc.mk ki fr to_ st ep cy dn fa).fa] 26
  have KB := Keep.mk K0.bel
  unfold checkP
  simp only at K0 KB ⊢
  cases fa
  all_goals
    obtain ⟨⟨p0, p1, p2, p3, p4, p5, p6, p7⟩, p8⟩ := K0.c8
    clear K0
  case false =>
    simp only [Bool.false_and, Bool.not_false, Bool.and_true]
    rcases and9 (0 : Int) 3 (ki == 1) (inS fr) (inS to_) (fr != to_) (decide (0 ≤ st)) (decide (st ≤ 5)) (inT ep) (inT cy) (dn == (st == 5)) with ⟨g1, hr⟩ | ⟨g1, g2, hr⟩ | ⟨g1, g2, g3, hr⟩ | ⟨g1, g2, g3, g4, hr⟩ | ⟨g1, g2, g3, g4, g5, hr⟩ | ⟨g1, g2, g3, g4, g5, g6, hr⟩ | ⟨g1, g2, g3, g4, g5, g6, g7, hr⟩ | ⟨g1, g2, g3, g4, g5, g6, g7, g8, hr⟩ | ⟨g1, g2, g3, g4, g5, g6, g7, g8, g9, hr⟩ | ⟨g1, g2, g3, g4, g5, g6, g7, g8, g9, hr⟩
    all_goals
      rw [hr]
      clear hr
      go_enter Try.func17, Try.ntmps17
      go_wp2_with (first
      | (go_at_call 37; (with_reducible refine (sw_site _ _).mono ?_); rintro e w' ⟨rfl, hw⟩; subst w')
      | (go_at_call 38; (with_reducible refine (sw_time _ _).mono ?_); rintro e w' ⟨rfl, hw⟩; subst w'))
      go_ret
      exact ⟨rfl, KB.out⟩
  simp only [Bool.true_and]
  rcases and10 (0 : Int) 3 (ki == 1) (inS fr) (inS to_) (fr != to_) (decide (0 ≤ st)) (decide (st ≤ 5)) (inT ep) (inT cy) (dn == (st == 5)) (!(decide (3 < st))) with ⟨g1, hr⟩ | ⟨g1, g2, hr⟩ | ⟨g1, g2, g3, hr⟩ | ⟨g1, g2, g3, g4, hr⟩ | ⟨g1, g2, g3, g4, g5, hr⟩ | ⟨g1, g2, g3, g4, g5, g6, hr⟩ | ⟨g1, g2, g3, g4, g5, g6, g7, hr⟩ | ⟨g1, g2, g3, g4, g5, g6, g7, g8, hr⟩ | ⟨g1, g2, g3, g4, g5, g6, g7, g8, g9, hr⟩ | ⟨g1, g2, g3, g4, g5, g6, g7, g8, g9, g10, hr⟩ | ⟨g1, g2, g3, g4, g5, g6, g7, g8, g9, g10, hr⟩
  all_goals
    rw [hr]
    clear hr
    (try simp only [Bool.not_eq_true', Bool.not_eq_false'] at g10)
    go_enter Try.func17, Try.ntmps17
    go_wp2_with (first
      | (go_at_call 37; (with_reducible refine (sw_site _ _).mono ?_); rintro e w' ⟨rfl, hw⟩; subst w')
      | (go_at_call 38; (with_reducible refine (sw_time _ _).mono ?_); rintro e w' ⟨rfl, hw⟩; subst w'))
    go_ret
    exact ⟨rfl, KB.out⟩
end Go.Proofs.Ytijhkgabonkmfaa
