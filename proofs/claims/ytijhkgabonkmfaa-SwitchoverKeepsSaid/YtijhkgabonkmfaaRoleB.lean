/- Contracts: delta.Ancestor at one lineage, role.correct, role.head. -/
import Derived.Test.YtijhkgabonkmfaaRoleA
namespace Go.Proofs.Ytijhkgabonkmfaa
open Go.RowKit
attribute [local go_sem] max2_int min2_int max_two min_two
theorem span_field (a b c : Int) : (∀ W : World, (Instr.field 88 (.agg #[.int .i64 a, .int .i64 b, .int .i64 c]) 0).run Try.prog W = .ok (.int .i64 a) W) ∧ (∀ W : World, (Instr.field 88 (.agg #[.int .i64 a, .int .i64 b, .int .i64 c]) 2).run Try.prog W = .ok (.int .i64 c) W) :=
  ⟨fun _ => by kernel_rfl, fun _ => by kernel_rfl⟩
theorem wrap_pred {n : Nat} (h : 0 < n) (hn : n ≤ 9223372036854775807) : IntKind.i64.wrap ((n : Int) - 1) = ((n - 1 : Nat) : Int) := by
  rw [IntWalk.i64_in _ (by omega)]; omega
theorem getD_last {l : List Span} {k : Nat} (hk : k + 1 = l.length) : l.getD k .z = lastS l := by
  unfold lastS; rw [← hk]; rfl
def upto (l : List Span) (k : Nat) : Span := if k = 0 then .z else l.getD (k - 1) .z
theorem upto_last (l : List Span) : upto l l.length = lastS l := by
  unfold upto lastS
  split
  · rename_i h; rw [h]; simp [List.eq_nil_of_length_eq_zero h, Span.z]
  · rfl
theorem upto_succ (l : List Span) (k : Nat) : upto l (k + 1) = l.getD k .z := by simp [upto]
set_option maxHeartbeats 2000000 in
theorem delta_anc (w : World) (A : Option Addr) (c : Nat) (l : List Span) (h : SpansAt w A c l) :
    Calls Try.prog 81 #[.slice A l.length c, .slice A l.length c] w fun e w' =>
      e = .returned (.tuple #[.int .i64 (if corr l 0 0 = true then (lastS l).to_ else 0), .int .i64 (if corr l 0 0 = true then (lastS l).ep else 0)]) ∧ Below w.heap.size w w' := by
  have hl := h.len
  have HC := Keep.mk h
  clear h
  cases hc : corr l 0 0
  · go_enter Try.func81, Try.ntmps81
    go_wp2_with (go_at_call 83; refine (delta_correct _ _ _ _ HC.out).mono ?_; rintro e w1 ⟨rfl, hB⟩)
    go_ret2
    exact ⟨rfl, hB⟩
  · go_enter Try.func81, Try.ntmps81
    go_wp2_with fail
    refine (delta_correct _ _ _ _ HC.out).mono ?_
    rintro e w1 ⟨rfl, hB1⟩
    have HB1 := Keep.mk hB1
    clear hB1
    go_wp2_with fail
    refine (delta_correct _ _ _ _ (HC.out.below HB1.out)).mono ?_
    rintro e w2 ⟨rfl, hB2⟩
    have HB2 := Keep.mk (below_then HB1.out hB2)
    clear hB2 HB1
    go_wp2_with fail
    go_loopg [6, 7, 8] l.length (fun g x y i wr => ∃ k : Nat, g = l.length - k ∧ k ≤ l.length ∧ i = .int .i64 k ∧ x = .int .i64 (upto l k).to_ ∧ y = .int .i64 (upto l k).ep ∧ Keep (Below w.heap.size w wr))
    case atStart => exact ⟨0, by omega, by omega, rfl, rfl, rfl, HB2⟩
    case round =>
      obtain ⟨k, rfl, hk, rfl, rfl, rfl, H8⟩ := hrel
      by_cases hlt : k < l.length
      · have hlt' : (k : Int) < (l.length : Int) := by omega
        obtain ⟨b, o, rfl, hb, c0, c1, c2⟩ := HC.out.at_ k hlt
        rw [← H8.out.cell (p := ⟨b, _, none⟩) hb] at c0 c1 c2
        have hu := Keep.mk (upto_succ l k)
        generalize l.getD k Span.z = x at c0 c1 c2 hu
        go_wp2_with fail
        repeat (go_quiet (fail); try go_wp2)
        go_roundg (l.length - (k + 1))
        case measure => omega
        case rel => exact ⟨k + 1, rfl, by omega, by go_num, by rw [hu.out], by rw [hu.out], ⟨(by repeat' (first | exact H8.out | (apply below_new) | (refine below_drewN ?_ _) | (refine below_drew ?_) | (refine below_set ?_ (by first | exact Nat.le_refl _ | omega | (simp; done) | (simp; omega)) _)))⟩⟩
      · have : k = l.length := by omega
        subst this
        go_wp2_with fail
        repeat (go_quiet (fail); try go_wp2)
        go_ret2
        exact ⟨by simp [upto_last], (by repeat' (first | exact H8.out | (apply below_new) | (refine below_drewN ?_ _) | (refine below_drew ?_) | (refine below_set ?_ (by first | exact Nat.le_refl _ | omega | (simp; done) | (simp; omega)) _)))⟩
theorem role_head (w : World) (A : Option Addr) (c : Nat) (l : List Span) (h : SpansAt w A c l) :
    Calls Try.prog 65 #[.slice A l.length c] w fun e w' => e = .returned (.agg #[.int .i64 (lastS l).ep, .int .i64 (lastS l).fr, .int .i64 (lastS l).to_]) ∧ Below w.heap.size w w' := by
  have hl := h.len
  by_cases h0 : l.length = 0
  · have : lastS l = .z := by simp [lastS, List.eq_nil_of_length_eq_zero h0, Span.z]
    rw [this]
    go_enter Try.func65, Try.ntmps65
    go_wp2
    exact bodyPost_ret (v := .agg #[.int .i64 Span.z.ep, .int .i64 Span.z.fr, .int .i64 Span.z.to_]) (by simp [results, Try.results65, go_sem, Span.z]) rfl ⟨rfl, (by repeat' (first | exact Below.refl _ _ | (apply below_new) | (refine below_drewN ?_ _) | (refine below_drew ?_) | (refine below_set ?_ (by first | exact Nat.le_refl _ | omega | (simp; done) | (simp; omega)) _)))⟩
  · obtain ⟨b, o, rfl, hb, c0, c1, c2⟩ := h.at_ (l.length - 1) (by omega)
    have h1 : ((l.length : Int) == 0) = false := by rw [beq_eq_false_iff_ne]; omega
    have hi := wrap_pred (n := l.length) (by omega) (by omega)
    rw [show l.getD (l.length - 1) .z = lastS l from rfl] at c0 c1 c2
    go_enter Try.func65, Try.ntmps65
    go_wp2
    exact bodyPost_ret (v := .agg #[.int .i64 (lastS l).ep, .int .i64 (lastS l).fr, .int .i64 (lastS l).to_]) (by simp [results, Try.results65, go_sem]) rfl ⟨rfl, (by repeat' (first | exact Below.refl _ _ | (apply below_new) | (refine below_drewN ?_ _) | (refine below_drew ?_) | (refine below_set ?_ (by first | exact Nat.le_refl _ | omega | (simp; done) | (simp; omega)) _)))⟩
end Go.Proofs.Ytijhkgabonkmfaa
