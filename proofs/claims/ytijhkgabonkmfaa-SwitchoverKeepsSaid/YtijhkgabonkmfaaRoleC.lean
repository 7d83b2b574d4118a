/- Contracts: role.correct, role.Check. -/
import Derived.Test.YtijhkgabonkmfaaRoleB
namespace Go.Proofs.Ytijhkgabonkmfaa
open Go.RowKit
set_option linter.unusedSimpArgs false
set_option linter.unusedVariables false
theorem corr_pos : ∀ (l : List Span) (pe pt : Int), 0 ≤ pt → corr l pe pt = true → 0 < l.length → 0 < (lastS l).to_ ∧ (lastS l).to_ ≤ 1073741824 ∧ 0 < (lastS l).ep ∧ (lastS l).ep ≤ 1073741824 := by
  intro l
  induction l with
  | nil => intro _ _ _ _ h; simp at h
  | cons x r ih =>
    intro pe pt hp hc _
    simp only [corr, inB, Bool.and_eq_true, decide_eq_true_eq] at hc
    rcases r with _ | ⟨y, r⟩
    · simp [lastS]; omega
    · have := ih x.ep x.to_ (by omega) hc.2 (by simp)
      have e : lastS (x :: y :: r) = lastS (y :: r) := by simp [lastS]
      rw [e]; exact this
theorem role_correct (w : World) (A : Option Addr) (c : Nat) (l : List Span) (h : SpansAt w A c l) :
    Calls Try.prog 64 #[.slice A l.length c] w fun e w' => e = .returned (.bool (corr l 0 0)) ∧ Below w.heap.size w w' := by
  have hl := h.len
  by_cases h0 : l.length = 0
  · have h1 : ((l.length : Int) == 0) = true := by rw [h0]; rfl
    have : corr l 0 0 = true := by rw [List.eq_nil_of_length_eq_zero h0]; rfl
    rw [this]
    go_enter Try.func64, Try.ntmps64
    go_wp2
    go_ret
    exact ⟨rfl, Below.refl _ _⟩
  · have h1 : ((l.length : Int) == 0) = false := by rw [beq_eq_false_iff_ne]; omega
    have hi := wrap_pred (n := l.length) (by omega) (by omega)
    have HC := Keep.mk h
    have hz : l.length - 1 < l.length := by omega
    have hz' : ((l.length - 1 : Nat) : Int) < (l.length : Int) := by omega
    clear h
    obtain ⟨b, o, rfl, hb, c0, c1, c2⟩ := HC.out.at_ (l.length - 1) (by omega)
    rw [show l.getD (l.length - 1) .z = lastS l from rfl] at c0 c1 c2
    cases hc : corr l 0 0
    · go_enter Try.func64, Try.ntmps64
      go_wp2_with fail
      refine (delta_anc _ _ _ _ HC.out).mono ?_
      rintro e w1 ⟨rfl, hB1⟩
      rw [← hB1.cell (p := ⟨b, _, none⟩) hb] at c0 c1 c2
      have HB1 := Keep.mk hB1
      clear hB1
      go_wp2
      all_goals go_ret
      all_goals exact ⟨ret_bool (by simp), (by repeat' (first | exact HB1.out | (apply below_new) | (refine below_drewN ?_ _) | (refine below_drew ?_) | (refine below_set ?_ (by first | exact Nat.le_refl _ | omega | (simp; done) | (simp; omega)) _)))⟩
    · have hp := Keep.mk (corr_pos l 0 0 (by omega) hc (by omega))
      go_enter Try.func64, Try.ntmps64
      go_wp2_with fail
      refine (delta_anc _ _ _ _ HC.out).mono ?_
      rintro e w1 ⟨rfl, hB1⟩
      rw [← hB1.cell (p := ⟨b, _, none⟩) hb] at c0 c1 c2
      have HB1 := Keep.mk hB1
      clear hB1
      go_wp2
      go_ret
      exact ⟨ret_bool (by simp; exact hp.out.1), (by repeat' (first | exact HB1.out | (apply below_new) | (refine below_drewN ?_ _) | (refine below_drew ?_) | (refine below_set ?_ (by first | exact Nat.le_refl _ | omega | (simp; done) | (simp; omega)) _)))⟩
set_option maxHeartbeats 4000000 in
theorem role_Check (w : World) (s : Site) (A : Option Addr) (c : Nat) (h : SpansAt w A c s.li) :
    Calls Try.prog 44 #[.agg #[.int .i64 s.nu, .int .i64 s.ro, .int .i64 s.ep, .int .i64 s.ap, .slice A s.li.length c, .int .i64 s.so, .bool s.al, .bool s.co]] w fun e w' => e = .returned (.int .i64 (checkS s)) ∧ Below w.heap.size w w' := by
  have HC := Keep.mk h
  have hl := h.len
  clear h
  cases h1 : inB s.nu 0 3
  · have hv : checkS s = 2 := by simp [checkS, h1]
    rw [hv]
    go_enter Try.func44, Try.ntmps44
    go_wp2_with (first | (go_at_call 63; refine (role_in _ _ _ _).mono ?_; rintro e w' ⟨rfl, rfl⟩) | (go_at_call 66; refine (role_receives _ _).mono ?_; rintro e w' ⟨rfl, rfl⟩))
    go_ret
    exact ⟨rfl, below_new (Below.refl _ _) _⟩
  cases h2 : inB s.ro 0 5
  · have hv : checkS s = 18 := by simp [checkS, h1, h2]
    rw [hv]
    go_enter Try.func44, Try.ntmps44
    go_wp2_with (first | (go_at_call 63; refine (role_in _ _ _ _).mono ?_; rintro e w' ⟨rfl, rfl⟩) | (go_at_call 66; refine (role_receives _ _).mono ?_; rintro e w' ⟨rfl, rfl⟩))
    go_ret
    exact ⟨rfl, below_new (Below.refl _ _) _⟩
  cases h3 : inB s.ep 0 1073741824
  · have hv : checkS s = 2 := by simp [checkS, h1, h2, h3]
    rw [hv]
    go_enter Try.func44, Try.ntmps44
    go_wp2_with (first | (go_at_call 63; refine (role_in _ _ _ _).mono ?_; rintro e w' ⟨rfl, rfl⟩) | (go_at_call 66; refine (role_receives _ _).mono ?_; rintro e w' ⟨rfl, rfl⟩))
    go_ret
    exact ⟨rfl, below_new (Below.refl _ _) _⟩
  cases h4 : inB s.ap 0 1073741824
  · have hv : checkS s = 2 := by simp [checkS, h1, h2, h3, h4]
    rw [hv]
    go_enter Try.func44, Try.ntmps44
    go_wp2_with (first | (go_at_call 63; refine (role_in _ _ _ _).mono ?_; rintro e w' ⟨rfl, rfl⟩) | (go_at_call 66; refine (role_receives _ _).mono ?_; rintro e w' ⟨rfl, rfl⟩))
    go_ret
    exact ⟨rfl, below_new (Below.refl _ _) _⟩
  by_cases h5 : s.ep = 0 ∧ s.ro ≠ 0
  · have hv : checkS s = 2 := by simp [checkS, h1, h2, h3, h4, h5]
    rw [hv]
    have h6 : (s.ep == 0) = true := by simp [h5]
    have h7 : (s.ro != 0) = true := by simp [h5]
    clear h5
    go_enter Try.func44, Try.ntmps44
    go_wp2_with (first | (go_at_call 63; refine (role_in _ _ _ _).mono ?_; rintro e w' ⟨rfl, rfl⟩) | (go_at_call 66; refine (role_receives _ _).mono ?_; rintro e w' ⟨rfl, rfl⟩))
    go_ret
    exact ⟨rfl, below_new (Below.refl _ _) _⟩
  have HV := Keep.mk (show checkS s = if corr s.li 0 0 = true then if s.ep < (lastS s.li).ep then 13 else if (lastS s.li).to_ ≠ s.ap then 22 else if recv s.ro = true then (if otherS s s.so = true then 0 else 1) else if s.so = -1 then 0 else 1 else 3 by simp only [checkS, h1, h2, h3, h4, h5, not_false_eq_true, and_self, if_true])
  have h6 : (s.ep == 0 && s.ro != 0) = false := by simpa using h5
  clear h5
  cases h7 : (s.ep == 0)
  all_goals
    (try (rw [h7, Bool.true_and] at h6))
    (try (rw [h7, Bool.false_and] at h6; clear h6))
    cases h8 : corr s.li 0 0
    · rw [h8] at HV
      go_enter Try.func44, Try.ntmps44
      go_wp2_with (first | (go_at_call 63; refine (role_in _ _ _ _).mono ?_; rintro e w' ⟨rfl, rfl⟩) | (go_at_call 66; refine (role_receives _ _).mono ?_; rintro e w' ⟨rfl, rfl⟩) | (go_at_call 64; refine (role_correct _ _ _ _ (HC.out.alloc _)).mono ?_; rintro e w1 ⟨rfl, hB⟩; obtain ⟨hcl, hfz⟩ := bcell hB; have HB := Keep.mk (below_then (below_new (Below.refl w.heap.size w) _) hB); have hsz := HB.out.size))
      go_ret
      exact ⟨ret_int HV.out.symm, HB.out⟩
    · rw [h8, if_pos rfl] at HV
      go_enter Try.func44, Try.ntmps44
      go_wp2_with (first | (go_at_call 63; refine (role_in _ _ _ _).mono ?_; rintro e w' ⟨rfl, rfl⟩) | (go_at_call 66; refine (role_receives _ _).mono ?_; rintro e w' ⟨rfl, rfl⟩) | (go_at_call 64; refine (role_correct _ _ _ _ (HC.out.alloc _)).mono ?_; rintro e w1 ⟨rfl, hB⟩; obtain ⟨hcl, hfz⟩ := bcell hB; have HB := Keep.mk (below_then (below_new (Below.refl w.heap.size w) _) hB); have hsz := HB.out.size))
      obtain ⟨hf0, hf2⟩ := span_field (lastS s.li).ep (lastS s.li).fr (lastS s.li).to_
      have K1 : Held w w.heap.size [.int .i64 s.nu, .int .i64 s.ro, .int .i64 s.ep, .int .i64 s.ap, .slice A s.li.length c, .int .i64 s.so, .bool s.al, .bool s.co] 57 w1 := (Held.new (Below.refl w.heap.size w) _ _).step hB
      go_region_held3 (fun W => W.cell? ⟨w.heap.size, 4, none⟩ = some (.slice A s.li.length c) ∧ W.cell? ⟨w.heap.size, 2, none⟩ = some (.int .i64 s.ep) ∧ Held w w.heap.size [.int .i64 s.nu, .int .i64 s.ro, .int .i64 s.ep, .int .i64 s.ap, .slice A s.li.length c, .int .i64 s.so, .bool s.al, .bool s.co] 57 W)
        ((first | exact ⟨K1.cell 4 _ rfl, K1.cell 2 _ rfl, K1.drew⟩ | exact ⟨(K1.drew.step ‹Below w1.drew.heap.size w1.drew _›).cell 4 _ rfl, (K1.drew.step ‹Below w1.drew.heap.size w1.drew _›).cell 2 _ rfl, K1.drew.step ‹Below w1.drew.heap.size w1.drew _›⟩ | (trace_state; fail)))
        (first | (go_at_call 65; refine (role_head _ _ _ _ (HC.out.below K1.drew.bel)).mono ?_; rintro e w' ⟨rfl, hb⟩))
      have K2 := K1.drew.step ‹Below w1.drew.heap.size w1.drew _›
      clear hcl hfz HB hsz hB K1
      have ha2 := K2.cell 2 _ rfl
      have ha3 := K2.cell 3 _ rfl
      have ha4 := K2.cell 4 _ rfl
      by_cases h9 : s.ep < (lastS s.li).ep
      · rw [if_pos h9] at HV
        go_wp2
        go_ret
        exact ⟨ret_int HV.out.symm, K2.bel⟩
      rw [if_neg h9] at HV
      go_wp2_with fail
      go_region_held3 (fun W => W.cell? ⟨w.heap.size, 4, none⟩ = some (.slice A s.li.length c) ∧ W.cell? ⟨w.heap.size, 3, none⟩ = some (.int .i64 s.ap) ∧ Held w w.heap.size [.int .i64 s.nu, .int .i64 s.ro, .int .i64 s.ep, .int .i64 s.ap, .slice A s.li.length c, .int .i64 s.so, .bool s.al, .bool s.co] 57 W)
        ((first | exact ⟨K2.cell 4 _ rfl, K2.cell 3 _ rfl, K2.drew⟩ | exact ⟨(K2.drew.step ‹Below (World.heap (World.drew _)).size (World.drew _) _›).cell 4 _ rfl, (K2.drew.step ‹Below (World.heap (World.drew _)).size (World.drew _) _›).cell 3 _ rfl, K2.drew.step ‹Below (World.heap (World.drew _)).size (World.drew _) _›⟩ | (trace_state; fail)))
        (first | (go_at_call 65; refine (role_head _ _ _ _ (HC.out.below K2.drew.bel)).mono ?_; rintro e w3 ⟨rfl, hb3⟩))
      have K3 := K2.drew.step hb3
      clear ha2 ha3 ha4 hb3 K2
      have ha1 := K3.cell 1 _ rfl
      have ha5 := K3.cell 5 _ rfl
      by_cases h10 : (lastS s.li).to_ = s.ap
      · rw [if_neg (not_not_intro h10)] at HV
        have h11 : ((lastS s.li).to_ != s.ap) = false := by rw [h10]; simp
        have HC' := Keep.mk (HC.out.below K3.bel)
        have ha0 := K3.cell 0 _ rfl
        have ha2 := K3.cell 2 _ rfl
        have ha3 := K3.cell 3 _ rfl
        have ha4 := K3.cell 4 _ rfl
        have ha6 := K3.cell 6 _ rfl
        have ha7 := K3.cell 7 _ rfl
        have h10' := Keep.mk h10
        clear h10
        cases h12 : recv s.ro
        · rw [h12, if_neg (by decide)] at HV
          cases h13 : (s.so != -1)
          · rw [if_pos (by simpa using h13)] at HV
            go_wp2_with (first | (go_at_call 66; refine (role_receives _ _).mono ?_; rintro e w' ⟨rfl, rfl⟩) | (go_at_call 67; refine (role_other s A c s.so _).mono ?_; rintro e w4 ⟨rfl, hb4⟩; have HB := Keep.mk (below_then K3.bel hb4); have hz1 := (K3.step hb4).cell 1 _ rfl; have hz5 := (K3.step hb4).cell 5 _ rfl; clear hb4))
            go_ret
            exact ⟨ret_int HV.out.symm, K3.bel⟩
          · rw [if_neg (by simpa using h13)] at HV
            go_wp2_with (first | (go_at_call 66; refine (role_receives _ _).mono ?_; rintro e w' ⟨rfl, rfl⟩) | (go_at_call 67; refine (role_other s A c s.so _).mono ?_; rintro e w4 ⟨rfl, hb4⟩; have HB := Keep.mk (below_then K3.bel hb4); have hz1 := (K3.step hb4).cell 1 _ rfl; have hz5 := (K3.step hb4).cell 5 _ rfl; clear hb4))
            go_ret
            exact ⟨ret_int HV.out.symm, K3.bel⟩
        · rw [h12, if_pos rfl] at HV
          cases h13 : otherS s s.so
          · rw [h13, if_neg (by decide)] at HV
            go_wp2_with (first | (go_at_call 66; refine (role_receives _ _).mono ?_; rintro e w' ⟨rfl, rfl⟩) | (go_at_call 67; refine (role_other s A c s.so _).mono ?_; rintro e w4 ⟨rfl, hb4⟩; have HB := Keep.mk (below_then K3.bel hb4); have hz1 := (K3.step hb4).cell 1 _ rfl; have hz5 := (K3.step hb4).cell 5 _ rfl; clear hb4))
            go_ret
            exact ⟨ret_int HV.out.symm, HB.out⟩
          · rw [h13, if_pos rfl] at HV
            go_wp2_with (first | (go_at_call 66; refine (role_receives _ _).mono ?_; rintro e w' ⟨rfl, rfl⟩) | (go_at_call 67; refine (role_other s A c s.so _).mono ?_; rintro e w4 ⟨rfl, hb4⟩; have HB := Keep.mk (below_then K3.bel hb4); have hz1 := (K3.step hb4).cell 1 _ rfl; have hz5 := (K3.step hb4).cell 5 _ rfl; clear hb4))
            go_ret
            exact ⟨ret_int HV.out.symm, HB.out⟩
      · rw [if_pos h10] at HV
        have h11 : ((lastS s.li).to_ != s.ap) = true := by simpa using h10
        clear h10
        go_wp2
        go_ret
        exact ⟨ret_int HV.out.symm, K3.bel⟩
end Go.Proofs.Ytijhkgabonkmfaa
