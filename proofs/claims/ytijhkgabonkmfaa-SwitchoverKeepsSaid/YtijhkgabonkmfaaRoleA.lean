/- Contracts: package role's small functions, delta.Ancestor at one lineage, role.Check. -/
import Derived.Test.YtijhkgabonkmfaaKit
namespace Go.Proofs.Ytijhkgabonkmfaa
open Go.RowKit
attribute [local go_sem] max2_int min2_int max_two min_two
theorem role_in (a b c : Int) (w : World) : Calls Try.prog 63 #[.int .i64 a, .int .i64 b, .int .i64 c] w fun e w' => e = .returned (.bool (inB a b c)) ∧ w' = w := by
  by_cases h : b ≤ a
  · have hh : inB a b c = decide (a ≤ c) := by simp [inB, h]
    rw [hh]
    go_enter Try.func63, Try.ntmps63
    go_wp2
    go_ret
    exact ⟨rfl, rfl⟩
  · have hh : inB a b c = false := by simp [inB, h]
    rw [hh]
    go_enter Try.func63, Try.ntmps63
    go_wp2
    go_ret
    exact ⟨rfl, rfl⟩
theorem delta_in (a b : Int) (w : World) : Calls Try.prog 84 #[.int .i64 a, .int .i64 b] w fun e w' => e = .returned (.bool (inB a b 1073741824)) ∧ w' = w := by
  by_cases h : b ≤ a
  · have hh : inB a b 1073741824 = decide (a ≤ 1073741824) := by simp [inB, h]
    rw [hh]
    go_enter Try.func84, Try.ntmps84
    go_wp2
    go_ret
    exact ⟨rfl, rfl⟩
  · have hh : inB a b 1073741824 = false := by simp [inB, h]
    rw [hh]
    go_enter Try.func84, Try.ntmps84
    go_wp2
    go_ret
    exact ⟨rfl, rfl⟩
theorem role_receives (r : Int) (w : World) : Calls Try.prog 66 #[.int .i64 r] w fun e w' => e = .returned (.bool (recv r)) ∧ w' = w := by
  by_cases h : r = 2
  · subst h
    go_enter Try.func66, Try.ntmps66
    go_wp2
    go_ret
    exact ⟨rfl, rfl⟩
  · unfold recv
    go_enter Try.func66, Try.ntmps66
    go_wp2
    go_ret
    exact ⟨rfl, rfl⟩
theorem role_other (s : Site) (A : Option Addr) (c : Nat) (n : Int) (w : World) : Calls Try.prog 67 #[.agg #[.int .i64 s.nu, .int .i64 s.ro, .int .i64 s.ep, .int .i64 s.ap, .slice A s.li.length c, .int .i64 s.so, .bool s.al, .bool s.co], .int .i64 n] w fun e w' => e = .returned (.bool (otherS s n)) ∧ Below w.heap.size w w' := by
  cases h : inB n 0 3
  · have hh : otherS s n = false := by simp [otherS, h]
    rw [hh]
    go_enter Try.func67, Try.ntmps67
    go_wp2_with (go_at_call 63; refine (role_in _ _ _ _).mono ?_; rintro e w' ⟨rfl, rfl⟩)
    go_ret
    exact ⟨rfl, below_new (Below.refl _ _) _⟩
  · have hh : otherS s n = (n != s.nu) := by simp [otherS, h]
    rw [hh]
    go_enter Try.func67, Try.ntmps67
    go_wp2_with (go_at_call 63; refine (role_in _ _ _ _).mono ?_; rintro e w' ⟨rfl, rfl⟩)
    go_ret
    exact ⟨rfl, below_new (Below.refl _ _) _⟩
set_option maxHeartbeats 2000000 in
theorem delta_correct (w : World) (A : Option Addr) (c : Nat) (l : List Span) (h : SpansAt w A c l) :
    Calls Try.prog 83 #[.slice A l.length c] w fun e w' => e = .returned (.bool (corr l 0 0)) ∧ Below w.heap.size w w' := by
  have hl := h.len
  have HC := Keep.mk h
  clear h
  go_enter Try.func83, Try.ntmps83
  go_wp2_with fail
  go_loopg [9] l.length (fun g i wr => ∃ (k : Nat) (pe pf pt : Int), g = l.length - k ∧ k ≤ l.length ∧ i = .int .i64 k ∧ 0 ≤ pt ∧ pt ≤ 1073741824 ∧
    Keep (corr l 0 0 = corr (l.drop k) pe pt) ∧ wr.cell? ⟨w.heap.size, 0, none⟩ = some (.int .i64 pe) ∧ wr.cell? ⟨w.heap.size, 1, none⟩ = some (.int .i64 pf) ∧ wr.cell? ⟨w.heap.size, 2, none⟩ = some (.int .i64 pt) ∧
    (∀ j, wr.frozen? ⟨w.heap.size, j, none⟩ = false) ∧ Keep (Below w.heap.size w wr ∧ w.heap.size < wr.heap.size))
  case atStart => exact ⟨0, 0, 0, 0, by omega, by omega, rfl, by omega, by omega, ⟨rfl⟩, by go_simp, by go_simp, by go_simp, by go_simp, ⟨below_new (Below.refl _ _) _, by simp⟩⟩
  case round =>
    obtain ⟨k, pe, pf, pt, rfl, hk, rfl, h1, h2, H3, h4, h5, h6, h7, H8⟩ := hrel
    by_cases hlt : k < l.length
    · obtain ⟨b, o, rfl, hb, c0, c1, c2⟩ := HC.out.at_ k hlt
      rw [← H8.out.1.cell (p := ⟨b, _, none⟩) hb] at c0 c1 c2
      generalize hx : l.getD k Span.z = x at c0 c1 c2
      have HX := Keep.mk (drop_getD hlt hx)
      clear hx
      have hs := H8.out.2
      obtain ⟨xe, xf, xt⟩ := x
      simp only at c0 c1 c2
      go_wp2_with (go_at_call 84; refine (delta_in _ _ _).mono ?_; rintro e w' ⟨rfl, rfl⟩)
      rotate_left
      · go_roundg (l.length - (k + 1))
        case measure => omega
        case rel => exact ⟨k + 1, xe, xf, xt, rfl, by omega, by go_num, by omega, by omega, ⟨by rw [H3.out, HX.out]; simp [corr, *]⟩, by go_simp, by go_simp, by go_simp, by go_simp, ⟨(by repeat' (first | exact H8.out.1 | (apply below_new) | (refine below_drewN ?_ _) | (refine below_drew ?_) | (refine below_set ?_ (by first | exact Nat.le_refl _ | omega | (simp; done) | (simp; omega)) _))), by simp; omega⟩⟩
      all_goals
        go_ret
        refine ⟨ret_bool (Bool.eq_false_iff.2 fun hh => ?_).symm, ?_⟩
        · rw [H3.out, HX.out] at hh
          simp only [corr, inB, Bool.and_eq_true, decide_eq_true_eq] at *
          omega
        · exact below_new H8.out.1 _
    · have : k = l.length := by omega
      subst this
      go_wp2
      go_ret
      exact ⟨ret_bool (by rw [H3.out]; simp [corr]), H8.out.1⟩
end Go.Proofs.Ytijhkgabonkmfaa
