/- Contracts: the reference's small functions: site, time, Receives, Lineage, Head, Check. -/
import Derived.Test.YtijhkgabonkmfaaRoleC
namespace Go.Proofs.Ytijhkgabonkmfaa
open Go.RowKit
set_option linter.unusedSimpArgs false
set_option linter.unusedVariables false
theorem ref_site (n : Int) (w : World) : Calls Try.prog 72 #[.int .i64 n] w fun e w' => e = .returned (.bool (inB n 0 3)) ∧ w' = w := by
  by_cases h : 0 ≤ n
  · have hh : inB n 0 3 = decide (n < 4) := by rw [Bool.eq_iff_iff]; simp only [inB, h, decide_true, Bool.true_and, decide_eq_true_eq]; omega
    rw [hh]
    go_enter Try.func72, Try.ntmps72
    go_wp2
    go_ret
    exact ⟨rfl, rfl⟩
  · have hh : inB n 0 3 = false := by simp [inB, h]
    rw [hh]
    go_enter Try.func72, Try.ntmps72
    go_wp2
    go_ret
    exact ⟨rfl, rfl⟩
theorem ref_time (n : Int) (w : World) : Calls Try.prog 73 #[.int .i64 n] w fun e w' => e = .returned (.bool (inB n 0 1073741824)) ∧ w' = w := by
  by_cases h : 0 ≤ n
  · have hh : inB n 0 1073741824 = decide (n ≤ 1073741824) := by simp [inB, h]
    rw [hh]
    go_enter Try.func73, Try.ntmps73
    go_wp2
    go_ret
    exact ⟨rfl, rfl⟩
  · have hh : inB n 0 1073741824 = false := by simp [inB, h]
    rw [hh]
    go_enter Try.func73, Try.ntmps73
    go_wp2
    go_ret
    exact ⟨rfl, rfl⟩
theorem ref_Receives (r : Int) (w : World) : Calls Try.prog 76 #[.int .i64 r] w fun e w' => e = .returned (.bool (recv r)) ∧ w' = w := by
  by_cases h : r = 2
  · subst h
    go_enter Try.func76, Try.ntmps76
    go_wp2
    go_ret
    exact ⟨rfl, rfl⟩
  · unfold recv
    go_enter Try.func76, Try.ntmps76
    go_wp2
    go_ret
    exact ⟨rfl, rfl⟩
theorem corr_ways (x : Span) (r : List Span) (pe pt : Int) (h0 : 0 ≤ pe) (h1 : pt ≤ 1073741824) :
    ((x.fr != pt + 1) = true ∧ corr (x :: r) pe pt = false) ∨
    ((x.fr != pt + 1) = false ∧ decide (x.to_ < x.fr) = true ∧ corr (x :: r) pe pt = false) ∨
    ((x.fr != pt + 1) = false ∧ decide (x.to_ < x.fr) = false ∧ decide (1073741824 < x.to_) = true ∧ corr (x :: r) pe pt = false) ∨
    ((x.fr != pt + 1) = false ∧ decide (x.to_ < x.fr) = false ∧ decide (1073741824 < x.to_) = false ∧ decide (x.ep < pe + 1) = true ∧ corr (x :: r) pe pt = false) ∨
    ((x.fr != pt + 1) = false ∧ decide (x.to_ < x.fr) = false ∧ decide (1073741824 < x.to_) = false ∧ decide (x.ep < pe + 1) = false ∧ decide (1073741824 < x.ep) = true ∧ corr (x :: r) pe pt = false) ∨
    ((x.fr != pt + 1) = false ∧ decide (x.to_ < x.fr) = false ∧ decide (1073741824 < x.to_) = false ∧ decide (x.ep < pe + 1) = false ∧ decide (1073741824 < x.ep) = false ∧ corr (x :: r) pe pt = corr r x.ep x.to_) := by
  by_cases a1 : x.fr = pt + 1
  · have b1 : (x.fr != pt + 1) = false := by simpa using a1
    by_cases a2 : x.to_ < x.fr
    · right; left; refine ⟨b1, by simpa using a2, ?_⟩
      simp [corr, inB]; omega
    · by_cases a3 : 1073741824 < x.to_
      · right; right; left; refine ⟨b1, by simpa using a2, by simpa using a3, ?_⟩
        simp [corr, inB]; omega
      · by_cases a4 : x.ep < pe + 1
        · right; right; right; left; refine ⟨b1, by simpa using a2, by simpa using a3, by simpa using a4, ?_⟩
          simp [corr, inB]; omega
        · by_cases a5 : 1073741824 < x.ep
          · right; right; right; right; left; refine ⟨b1, by simpa using a2, by simpa using a3, by simpa using a4, by simpa using a5, ?_⟩
            simp [corr, inB]; omega
          · right; right; right; right; right; refine ⟨b1, by simpa using a2, by simpa using a3, by simpa using a4, by simpa using a5, ?_⟩
            have e1 : x.fr ≤ x.to_ := by omega
            have e2 : x.to_ ≤ 1073741824 := by omega
            have e3 : 1 ≤ x.ep := by omega
            have e4 : x.ep ≤ 1073741824 := by omega
            have e5 : pe < x.ep := by omega
            simp only [corr, inB, a1, decide_true, e2, e3, e4, e5, Bool.true_and, Bool.and_true]
            rw [a1] at e1
            simp [e1]
  · left; refine ⟨by simpa using a1, ?_⟩
    simp [corr, a1]
set_option maxHeartbeats 8000000 in
theorem ref_Lineage (w : World) (A : Option Addr) (c : Nat) (l : List Span) (h : SpansAt w A c l) :
    Calls Try.prog 74 #[.slice A l.length c] w fun e w' => e = .returned (.bool (corr l 0 0)) ∧ Below w.heap.size w w' := by
  have hl := h.len
  have HC := Keep.mk h
  clear h
  go_enter Try.func74, Try.ntmps74
  go_wp2_with fail
  go_loopg [3] l.length (fun g i wr => ∃ k : Nat, g = l.length - k ∧ k ≤ l.length ∧ i = .int .i64 k ∧ 0 ≤ (upto l k).to_ ∧ (upto l k).to_ ≤ 1073741824 ∧ 0 ≤ (upto l k).ep ∧ (upto l k).ep ≤ 1073741824 ∧
    Keep (corr l 0 0 = corr (l.drop k) (upto l k).ep (upto l k).to_) ∧ Keep (Below w.heap.size w wr))
  case atStart => exact ⟨0, by omega, by omega, rfl, by simp [upto, Span.z], by simp [upto, Span.z], by simp [upto, Span.z], by simp [upto, Span.z], ⟨rfl⟩, ⟨Below.refl _ _⟩⟩
  case round =>
    obtain ⟨k, rfl, hk, rfl, h1, h2, h3, h4, H3, H8⟩ := hrel
    by_cases hlt : k < l.length
    · have hlt' : (k : Int) < (l.length : Int) := by omega
      obtain ⟨b, o, hA, hb, c0, c1, c2⟩ := HC.out.at_ k hlt
      have hx := Keep.mk (drop_getD hlt rfl)
      have hu := Keep.mk (upto_succ l k)
      by_cases hk0 : k = 0
      · subst hk0
        subst hA
        rw [← H8.out.cell (p := ⟨b, _, none⟩) hb] at c0 c1 c2
        have e1 : (upto l 0).to_ = 0 := by simp [upto, Span.z]
        have e2 : (upto l 0).ep = 0 := by simp [upto, Span.z]
        rw [e1, e2] at H3
        clear h1 h2 h3 h4 e1 e2
        have hlt2 : (0 : Int) < (l.length : Int) := by omega
        clear hlt'
        simp only [Nat.zero_mul, Nat.add_zero] at c0 c1 c2
        generalize l.getD 0 Span.z = x at c0 c1 c2 hu hx
        rcases corr_ways x (l.drop 1) 0 0 (by omega) (by omega) with ⟨p1, p6⟩ | ⟨p1, p2, p6⟩ | ⟨p1, p2, p3, p6⟩ | ⟨p1, p2, p3, p4, p6⟩ | ⟨p1, p2, p3, p4, p5, p6⟩ | ⟨p1, p2, p3, p4, p5, p6⟩
        all_goals
          have P6 := Keep.mk p6
          clear p6
          try simp only [Int.zero_add] at p1
          try simp only [Int.zero_add] at p4
          go_wp2_with fail
          go_quiet (fail)
          try go_wp2
        rotate_right
        · go_roundg (l.length - 1)
          case measure => omega
          case rel =>
            simp only [bne_eq_false_iff_eq, decide_eq_false_iff_not] at p1 p2 p3 p4 p5
            have hu1 : upto l 1 = x := hu.out
            exact ⟨1, rfl, by omega, by go_num, by rw [hu1]; omega, by rw [hu1]; omega, by rw [hu1]; omega, by rw [hu1]; omega, ⟨by rw [hu1]; exact (H3.out.trans (congrArg (fun l => corr l 0 0) hx.out)).trans P6.out⟩, ⟨(by repeat' (first | exact H8.out | (apply below_new) | (refine below_drewN ?_ _) | (refine below_drew ?_) | (refine below_set ?_ (by first | exact Nat.le_refl _ | omega | (simp; done) | (simp; omega)) _)))⟩⟩
        all_goals
          go_ret
          exact ⟨ret_bool (by rw [H3.out, hx.out]; exact P6.out.symm), (by repeat' (first | exact H8.out | (apply below_new) | (refine below_drewN ?_ _) | (refine below_drew ?_) | (refine below_set ?_ (by first | exact Nat.le_refl _ | omega | (simp; done) | (simp; omega)) _)))⟩
      · obtain ⟨b', o', hA', hb', d0, d1, d2⟩ := HC.out.at_ (k - 1) (by omega)
        have hu0 : l.getD (k - 1) .z = upto l k := by simp [upto, hk0]
        rw [hu0] at d0 d1 d2
        clear hu0
        rw [hA] at hA'
        injection hA' with hA'
        injection hA' with q1 q2
        subst q1 q2
        subst hA
        rw [← H8.out.cell (p := ⟨b, _, none⟩) hb] at c0 c1 c2 d0 d1 d2
        generalize l.getD k Span.z = x at c0 c1 c2 hu hx
        generalize upto l k = p at d0 d1 d2 H3 h1 h2 h3 h4
        have i1 : (0 : Int) < (k : Int) := by omega
        have i2 := wrap_pred (n := k) (by omega) (by omega)
        have i3 : ((k - 1 : Nat) : Int) < (l.length : Int) := by omega
        have i4 : IntKind.i64.wrap (p.to_ + 1) = p.to_ + 1 := IntWalk.i64_in _ (by omega)
        have i5 : IntKind.i64.wrap (p.ep + 1) = p.ep + 1 := IntWalk.i64_in _ (by omega)
        rcases corr_ways x (l.drop (k + 1)) p.ep p.to_ (by omega) (by omega) with ⟨p1, p6⟩ | ⟨p1, p2, p6⟩ | ⟨p1, p2, p3, p6⟩ | ⟨p1, p2, p3, p4, p6⟩ | ⟨p1, p2, p3, p4, p5, p6⟩ | ⟨p1, p2, p3, p4, p5, p6⟩
        all_goals
          have P6 := Keep.mk p6
          clear p6
          go_wp2_with fail
          go_quiet (fail)
          go_wp2_with fail
          go_quiet (fail)
          try go_wp2
        rotate_right
        · go_roundg (l.length - (k + 1))
          case measure => omega
          case rel =>
            simp only [bne_eq_false_iff_eq, decide_eq_false_iff_not] at p1 p2 p3 p4 p5
            have hu1 : upto l (k + 1) = x := hu.out
            exact ⟨k + 1, rfl, by omega, by go_num, by rw [hu1]; omega, by rw [hu1]; omega, by rw [hu1]; omega, by rw [hu1]; omega, ⟨by rw [hu1]; exact (H3.out.trans (congrArg (fun l => corr l p.ep p.to_) hx.out)).trans P6.out⟩, ⟨(by repeat' (first | exact H8.out | (apply below_new) | (refine below_drewN ?_ _) | (refine below_drew ?_) | (refine below_set ?_ (by first | exact Nat.le_refl _ | omega | (simp; done) | (simp; omega)) _)))⟩⟩
        all_goals
          go_ret
          exact ⟨ret_bool (by rw [H3.out, hx.out]; exact P6.out.symm), (by repeat' (first | exact H8.out | (apply below_new) | (refine below_drewN ?_ _) | (refine below_drew ?_) | (refine below_set ?_ (by first | exact Nat.le_refl _ | omega | (simp; done) | (simp; omega)) _)))⟩
    · have : k = l.length := by omega
      subst this
      go_wp2
      go_ret
      exact ⟨ret_bool (by rw [H3.out]; simp [corr]), H8.out⟩
end Go.Proofs.Ytijhkgabonkmfaa
