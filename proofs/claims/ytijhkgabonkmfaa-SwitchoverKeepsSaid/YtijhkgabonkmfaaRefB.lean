/- Contracts: the reference's Head and Check. -/
import Derived.Test.YtijhkgabonkmfaaRefA
namespace Go.Proofs.Ytijhkgabonkmfaa
open Go.RowKit
set_option linter.unusedSimpArgs false
set_option linter.unusedVariables false
set_option maxHeartbeats 2000000 in
theorem ref_Head (w : World) (A : Option Addr) (c : Nat) (l : List Span) (h : SpansAt w A c l) :
    Calls Try.prog 75 #[.slice A l.length c] w fun e w' => e = .returned (.tuple #[.int .i64 (lastS l).ep, .int .i64 (lastS l).to_]) ∧ Below w.heap.size w w' := by
  have hl := h.len
  by_cases h0 : l.length = 0
  · have : lastS l = .z := by simp [lastS, List.eq_nil_of_length_eq_zero h0, Span.z]
    rw [this]
    have h1 : ((l.length : Int) == 0) = true := by rw [h0]; rfl
    go_enter Try.func75, Try.ntmps75
    go_wp2
    go_ret2
    exact ⟨rfl, Below.refl _ _⟩
  · obtain ⟨b, o, rfl, hb, c0, c1, c2⟩ := h.at_ (l.length - 1) (by omega)
    have h1 : ((l.length : Int) == 0) = false := by rw [beq_eq_false_iff_ne]; omega
    have hi := wrap_pred (n := l.length) (by omega) (by omega)
    have hi2 : ((l.length - 1 : Nat) : Int) < (l.length : Int) := by omega
    rw [show l.getD (l.length - 1) .z = lastS l from rfl] at c0 c1 c2
    go_enter Try.func75, Try.ntmps75
    go_wp2_with fail
    go_quiet (fail)
    go_wp2
    go_ret2
    exact ⟨rfl, (by repeat' (first | exact Below.refl _ _ | (apply below_new) | (refine below_drewN ?_ _) | (refine below_drew ?_) | (refine below_set ?_ (by first | exact Nat.le_refl _ | omega | (simp; done) | (simp; omega)) _)))⟩
theorem inB_false_ways (n : Int) : inB n 0 5 = false → (decide (n < 0) = true) ∨ (decide (n < 0) = false ∧ decide (5 < n) = true) := by
  intro h
  simp only [inB, Bool.and_eq_false_iff, decide_eq_false_iff_not] at h
  by_cases a : n < 0
  · left; simpa using a
  · right; exact ⟨by simpa using a, by simp; omega⟩
theorem inB_true_ways (n : Int) : inB n 0 5 = true → decide (n < 0) = false ∧ decide (5 < n) = false := by
  intro h
  simp only [inB, Bool.and_eq_true, decide_eq_true_eq] at h
  simp; omega
set_option maxHeartbeats 8000000 in
theorem ref_Check (w : World) (s : Site) (A : Option Addr) (c : Nat) (h : SpansAt w A c s.li) :
    Calls Try.prog 54 #[.agg #[.int .i64 s.nu, .int .i64 s.ro, .int .i64 s.ep, .int .i64 s.ap, .slice A s.li.length c, .int .i64 s.so, .bool s.al, .bool s.co]] w fun e w' => e = .returned (.int .i64 (checkS s)) ∧ Below w.heap.size w w' := by
  have HC := Keep.mk h
  have hl := h.len
  clear h
  cases h1 : inB s.nu 0 3
  · have hv : checkS s = 2 := by simp [checkS, h1]
    rw [hv]
    go_enter Try.func54, Try.ntmps54
    go_wp2_with (first
      | (go_at_call 72; refine (ref_site _ _).mono ?_; rintro e w' ⟨rfl, rfl⟩)
      | (go_at_call 73; refine (ref_time _ _).mono ?_; rintro e w' ⟨rfl, rfl⟩)
      | (go_at_call 76; refine (ref_Receives _ _).mono ?_; rintro e w' ⟨rfl, rfl⟩)
      | (go_at_call 74; refine (ref_Lineage _ _ _ _ (HC.out.alloc _)).mono ?_; rintro e w1 ⟨rfl, hB⟩; have K := (Held.new (Below.refl w.heap.size w) [.int .i64 s.nu, .int .i64 s.ro, .int .i64 s.ep, .int .i64 s.ap, .slice A s.li.length c, .int .i64 s.so, .bool s.al, .bool s.co] 57).step hB; obtain ⟨hcl, hfz⟩ := bcell hB; clear hB)
      | (go_at_call 75; refine (ref_Head _ _ _ _ (HC.out.below K.bel)).mono ?_; rintro e w2 ⟨rfl, hB⟩; replace K := K.step hB; clear hcl hfz hB; have k0 := K.cell 0 _ rfl; have k1 := K.cell 1 _ rfl; have k2 := K.cell 2 _ rfl; have k3 := K.cell 3 _ rfl; have k4 := K.cell 4 _ rfl; have k5 := K.cell 5 _ rfl))
    go_ret
    exact ⟨rfl, below_new (Below.refl _ _) _⟩
  cases h2 : inB s.ro 0 5
  · have hv : checkS s = 18 := by simp [checkS, h1, h2]
    rw [hv]
    rcases inB_false_ways _ h2 with a1 | ⟨a1, a2⟩
    all_goals
      go_enter Try.func54, Try.ntmps54
      go_wp2_with (first
      | (go_at_call 72; refine (ref_site _ _).mono ?_; rintro e w' ⟨rfl, rfl⟩)
      | (go_at_call 73; refine (ref_time _ _).mono ?_; rintro e w' ⟨rfl, rfl⟩)
      | (go_at_call 76; refine (ref_Receives _ _).mono ?_; rintro e w' ⟨rfl, rfl⟩)
      | (go_at_call 74; refine (ref_Lineage _ _ _ _ (HC.out.alloc _)).mono ?_; rintro e w1 ⟨rfl, hB⟩; have K := (Held.new (Below.refl w.heap.size w) [.int .i64 s.nu, .int .i64 s.ro, .int .i64 s.ep, .int .i64 s.ap, .slice A s.li.length c, .int .i64 s.so, .bool s.al, .bool s.co] 57).step hB; obtain ⟨hcl, hfz⟩ := bcell hB; clear hB)
      | (go_at_call 75; refine (ref_Head _ _ _ _ (HC.out.below K.bel)).mono ?_; rintro e w2 ⟨rfl, hB⟩; replace K := K.step hB; clear hcl hfz hB; have k0 := K.cell 0 _ rfl; have k1 := K.cell 1 _ rfl; have k2 := K.cell 2 _ rfl; have k3 := K.cell 3 _ rfl; have k4 := K.cell 4 _ rfl; have k5 := K.cell 5 _ rfl))
      go_ret
      exact ⟨rfl, below_new (Below.refl _ _) _⟩
  obtain ⟨a1, a2⟩ := inB_true_ways _ h2
  cases h3 : inB s.ep 0 1073741824
  · have hv : checkS s = 2 := by simp [checkS, h1, h2, h3]
    rw [hv]
    go_enter Try.func54, Try.ntmps54
    go_wp2_with (first
      | (go_at_call 72; refine (ref_site _ _).mono ?_; rintro e w' ⟨rfl, rfl⟩)
      | (go_at_call 73; refine (ref_time _ _).mono ?_; rintro e w' ⟨rfl, rfl⟩)
      | (go_at_call 76; refine (ref_Receives _ _).mono ?_; rintro e w' ⟨rfl, rfl⟩)
      | (go_at_call 74; refine (ref_Lineage _ _ _ _ (HC.out.alloc _)).mono ?_; rintro e w1 ⟨rfl, hB⟩; have K := (Held.new (Below.refl w.heap.size w) [.int .i64 s.nu, .int .i64 s.ro, .int .i64 s.ep, .int .i64 s.ap, .slice A s.li.length c, .int .i64 s.so, .bool s.al, .bool s.co] 57).step hB; obtain ⟨hcl, hfz⟩ := bcell hB; clear hB)
      | (go_at_call 75; refine (ref_Head _ _ _ _ (HC.out.below K.bel)).mono ?_; rintro e w2 ⟨rfl, hB⟩; replace K := K.step hB; clear hcl hfz hB; have k0 := K.cell 0 _ rfl; have k1 := K.cell 1 _ rfl; have k2 := K.cell 2 _ rfl; have k3 := K.cell 3 _ rfl; have k4 := K.cell 4 _ rfl; have k5 := K.cell 5 _ rfl))
    go_ret
    exact ⟨rfl, below_new (Below.refl _ _) _⟩
  cases h4 : inB s.ap 0 1073741824
  · have hv : checkS s = 2 := by simp [checkS, h1, h2, h3, h4]
    rw [hv]
    go_enter Try.func54, Try.ntmps54
    go_wp2_with (first
      | (go_at_call 72; refine (ref_site _ _).mono ?_; rintro e w' ⟨rfl, rfl⟩)
      | (go_at_call 73; refine (ref_time _ _).mono ?_; rintro e w' ⟨rfl, rfl⟩)
      | (go_at_call 76; refine (ref_Receives _ _).mono ?_; rintro e w' ⟨rfl, rfl⟩)
      | (go_at_call 74; refine (ref_Lineage _ _ _ _ (HC.out.alloc _)).mono ?_; rintro e w1 ⟨rfl, hB⟩; have K := (Held.new (Below.refl w.heap.size w) [.int .i64 s.nu, .int .i64 s.ro, .int .i64 s.ep, .int .i64 s.ap, .slice A s.li.length c, .int .i64 s.so, .bool s.al, .bool s.co] 57).step hB; obtain ⟨hcl, hfz⟩ := bcell hB; clear hB)
      | (go_at_call 75; refine (ref_Head _ _ _ _ (HC.out.below K.bel)).mono ?_; rintro e w2 ⟨rfl, hB⟩; replace K := K.step hB; clear hcl hfz hB; have k0 := K.cell 0 _ rfl; have k1 := K.cell 1 _ rfl; have k2 := K.cell 2 _ rfl; have k3 := K.cell 3 _ rfl; have k4 := K.cell 4 _ rfl; have k5 := K.cell 5 _ rfl))
    go_ret
    exact ⟨rfl, below_new (Below.refl _ _) _⟩
  by_cases h5 : s.ep = 0 ∧ s.ro ≠ 0
  · have hv : checkS s = 2 := by simp [checkS, h1, h2, h3, h4, h5]
    rw [hv]
    have h6 : (s.ep == 0) = true := by simp [h5]
    have h7 : (s.ro != 0) = true := by simp [h5]
    clear h5
    go_enter Try.func54, Try.ntmps54
    go_wp2_with (first
      | (go_at_call 72; refine (ref_site _ _).mono ?_; rintro e w' ⟨rfl, rfl⟩)
      | (go_at_call 73; refine (ref_time _ _).mono ?_; rintro e w' ⟨rfl, rfl⟩)
      | (go_at_call 76; refine (ref_Receives _ _).mono ?_; rintro e w' ⟨rfl, rfl⟩)
      | (go_at_call 74; refine (ref_Lineage _ _ _ _ (HC.out.alloc _)).mono ?_; rintro e w1 ⟨rfl, hB⟩; have K := (Held.new (Below.refl w.heap.size w) [.int .i64 s.nu, .int .i64 s.ro, .int .i64 s.ep, .int .i64 s.ap, .slice A s.li.length c, .int .i64 s.so, .bool s.al, .bool s.co] 57).step hB; obtain ⟨hcl, hfz⟩ := bcell hB; clear hB)
      | (go_at_call 75; refine (ref_Head _ _ _ _ (HC.out.below K.bel)).mono ?_; rintro e w2 ⟨rfl, hB⟩; replace K := K.step hB; clear hcl hfz hB; have k0 := K.cell 0 _ rfl; have k1 := K.cell 1 _ rfl; have k2 := K.cell 2 _ rfl; have k3 := K.cell 3 _ rfl; have k4 := K.cell 4 _ rfl; have k5 := K.cell 5 _ rfl))
    go_ret
    exact ⟨rfl, below_new (Below.refl _ _) _⟩
  have HV := Keep.mk (show checkS s = if corr s.li 0 0 = true then if s.ep < (lastS s.li).ep then 13 else if (lastS s.li).to_ ≠ s.ap then 22 else if recv s.ro = true then (if otherS s s.so = true then 0 else 1) else if s.so = -1 then 0 else 1 else 3 by simp only [checkS, h1, h2, h3, h4, h5, not_false_eq_true, and_self, if_true])
  have h6 : (s.ep == 0 && s.ro != 0) = false := by simpa using h5
  clear h5
  cases h7 : (s.ep == 0)
  all_goals
    (try (rw [h7, Bool.true_and] at h6))
    (try (rw [h7, Bool.false_and] at h6; clear h6))
    cases h8 : corr s.li 0 0
    · rw [h8] at HV
      go_enter Try.func54, Try.ntmps54
      go_wp2_with (first
      | (go_at_call 72; refine (ref_site _ _).mono ?_; rintro e w' ⟨rfl, rfl⟩)
      | (go_at_call 73; refine (ref_time _ _).mono ?_; rintro e w' ⟨rfl, rfl⟩)
      | (go_at_call 76; refine (ref_Receives _ _).mono ?_; rintro e w' ⟨rfl, rfl⟩)
      | (go_at_call 74; refine (ref_Lineage _ _ _ _ (HC.out.alloc _)).mono ?_; rintro e w1 ⟨rfl, hB⟩; have K := (Held.new (Below.refl w.heap.size w) [.int .i64 s.nu, .int .i64 s.ro, .int .i64 s.ep, .int .i64 s.ap, .slice A s.li.length c, .int .i64 s.so, .bool s.al, .bool s.co] 57).step hB; obtain ⟨hcl, hfz⟩ := bcell hB; clear hB)
      | (go_at_call 75; refine (ref_Head _ _ _ _ (HC.out.below K.bel)).mono ?_; rintro e w2 ⟨rfl, hB⟩; replace K := K.step hB; clear hcl hfz hB; have k0 := K.cell 0 _ rfl; have k1 := K.cell 1 _ rfl; have k2 := K.cell 2 _ rfl; have k3 := K.cell 3 _ rfl; have k4 := K.cell 4 _ rfl; have k5 := K.cell 5 _ rfl))
      go_ret
      exact ⟨ret_int HV.out.symm, K.bel⟩
    rw [h8, if_pos rfl] at HV
    by_cases h9 : s.ep < (lastS s.li).ep
    · rw [if_pos h9] at HV
      have h9' : decide (s.ep < (lastS s.li).ep) = true := by simpa using h9
      go_enter Try.func54, Try.ntmps54
      go_wp2_with (first
      | (go_at_call 72; refine (ref_site _ _).mono ?_; rintro e w' ⟨rfl, rfl⟩)
      | (go_at_call 73; refine (ref_time _ _).mono ?_; rintro e w' ⟨rfl, rfl⟩)
      | (go_at_call 76; refine (ref_Receives _ _).mono ?_; rintro e w' ⟨rfl, rfl⟩)
      | (go_at_call 74; refine (ref_Lineage _ _ _ _ (HC.out.alloc _)).mono ?_; rintro e w1 ⟨rfl, hB⟩; have K := (Held.new (Below.refl w.heap.size w) [.int .i64 s.nu, .int .i64 s.ro, .int .i64 s.ep, .int .i64 s.ap, .slice A s.li.length c, .int .i64 s.so, .bool s.al, .bool s.co] 57).step hB; obtain ⟨hcl, hfz⟩ := bcell hB; clear hB)
      | (go_at_call 75; refine (ref_Head _ _ _ _ (HC.out.below K.bel)).mono ?_; rintro e w2 ⟨rfl, hB⟩; replace K := K.step hB; clear hcl hfz hB; have k0 := K.cell 0 _ rfl; have k1 := K.cell 1 _ rfl; have k2 := K.cell 2 _ rfl; have k3 := K.cell 3 _ rfl; have k4 := K.cell 4 _ rfl; have k5 := K.cell 5 _ rfl))
      go_ret
      exact ⟨ret_int HV.out.symm, K.bel⟩
    rw [if_neg h9] at HV
    have h9' : decide (s.ep < (lastS s.li).ep) = false := by simpa using h9
    clear h9
    by_cases h10 : (lastS s.li).to_ = s.ap
    · rw [if_neg (not_not_intro h10)] at HV
      have h11 : ((lastS s.li).to_ != s.ap) = false := by rw [h10]; simp
      clear h10
      cases h12 : recv s.ro
      · rw [h12, if_neg (by decide)] at HV
        cases h13 : (s.so != -1)
        · rw [if_pos (by simpa using h13)] at HV
          go_enter Try.func54, Try.ntmps54
          go_wp2_with (first
      | (go_at_call 72; refine (ref_site _ _).mono ?_; rintro e w' ⟨rfl, rfl⟩)
      | (go_at_call 73; refine (ref_time _ _).mono ?_; rintro e w' ⟨rfl, rfl⟩)
      | (go_at_call 76; refine (ref_Receives _ _).mono ?_; rintro e w' ⟨rfl, rfl⟩)
      | (go_at_call 74; refine (ref_Lineage _ _ _ _ (HC.out.alloc _)).mono ?_; rintro e w1 ⟨rfl, hB⟩; have K := (Held.new (Below.refl w.heap.size w) [.int .i64 s.nu, .int .i64 s.ro, .int .i64 s.ep, .int .i64 s.ap, .slice A s.li.length c, .int .i64 s.so, .bool s.al, .bool s.co] 57).step hB; obtain ⟨hcl, hfz⟩ := bcell hB; clear hB)
      | (go_at_call 75; refine (ref_Head _ _ _ _ (HC.out.below K.bel)).mono ?_; rintro e w2 ⟨rfl, hB⟩; replace K := K.step hB; clear hcl hfz hB; have k0 := K.cell 0 _ rfl; have k1 := K.cell 1 _ rfl; have k2 := K.cell 2 _ rfl; have k3 := K.cell 3 _ rfl; have k4 := K.cell 4 _ rfl; have k5 := K.cell 5 _ rfl))
          go_ret
          exact ⟨ret_int HV.out.symm, K.bel⟩
        · rw [if_neg (by simpa using h13)] at HV
          go_enter Try.func54, Try.ntmps54
          go_wp2_with (first
      | (go_at_call 72; refine (ref_site _ _).mono ?_; rintro e w' ⟨rfl, rfl⟩)
      | (go_at_call 73; refine (ref_time _ _).mono ?_; rintro e w' ⟨rfl, rfl⟩)
      | (go_at_call 76; refine (ref_Receives _ _).mono ?_; rintro e w' ⟨rfl, rfl⟩)
      | (go_at_call 74; refine (ref_Lineage _ _ _ _ (HC.out.alloc _)).mono ?_; rintro e w1 ⟨rfl, hB⟩; have K := (Held.new (Below.refl w.heap.size w) [.int .i64 s.nu, .int .i64 s.ro, .int .i64 s.ep, .int .i64 s.ap, .slice A s.li.length c, .int .i64 s.so, .bool s.al, .bool s.co] 57).step hB; obtain ⟨hcl, hfz⟩ := bcell hB; clear hB)
      | (go_at_call 75; refine (ref_Head _ _ _ _ (HC.out.below K.bel)).mono ?_; rintro e w2 ⟨rfl, hB⟩; replace K := K.step hB; clear hcl hfz hB; have k0 := K.cell 0 _ rfl; have k1 := K.cell 1 _ rfl; have k2 := K.cell 2 _ rfl; have k3 := K.cell 3 _ rfl; have k4 := K.cell 4 _ rfl; have k5 := K.cell 5 _ rfl))
          go_ret
          exact ⟨ret_int HV.out.symm, K.bel⟩
      · rw [h12, if_pos rfl] at HV
        cases h13 : inB s.so 0 3
        · have h14 : otherS s s.so = false := by simp [otherS, h13]
          rw [h14, if_neg (by decide)] at HV
          clear h14
          go_enter Try.func54, Try.ntmps54
          go_wp2_with (first
      | (go_at_call 72; refine (ref_site _ _).mono ?_; rintro e w' ⟨rfl, rfl⟩)
      | (go_at_call 73; refine (ref_time _ _).mono ?_; rintro e w' ⟨rfl, rfl⟩)
      | (go_at_call 76; refine (ref_Receives _ _).mono ?_; rintro e w' ⟨rfl, rfl⟩)
      | (go_at_call 74; refine (ref_Lineage _ _ _ _ (HC.out.alloc _)).mono ?_; rintro e w1 ⟨rfl, hB⟩; have K := (Held.new (Below.refl w.heap.size w) [.int .i64 s.nu, .int .i64 s.ro, .int .i64 s.ep, .int .i64 s.ap, .slice A s.li.length c, .int .i64 s.so, .bool s.al, .bool s.co] 57).step hB; obtain ⟨hcl, hfz⟩ := bcell hB; clear hB)
      | (go_at_call 75; refine (ref_Head _ _ _ _ (HC.out.below K.bel)).mono ?_; rintro e w2 ⟨rfl, hB⟩; replace K := K.step hB; clear hcl hfz hB; have k0 := K.cell 0 _ rfl; have k1 := K.cell 1 _ rfl; have k2 := K.cell 2 _ rfl; have k3 := K.cell 3 _ rfl; have k4 := K.cell 4 _ rfl; have k5 := K.cell 5 _ rfl))
          go_ret
          exact ⟨ret_int HV.out.symm, K.bel⟩
        · cases h15 : (s.so == s.nu)
          · have h14 : otherS s s.so = true := by simp only [otherS, h13, Bool.true_and, bne, h15, Bool.not_false]
            rw [h14, if_pos rfl] at HV
            clear h14
            go_enter Try.func54, Try.ntmps54
            go_wp2_with (first
      | (go_at_call 72; refine (ref_site _ _).mono ?_; rintro e w' ⟨rfl, rfl⟩)
      | (go_at_call 73; refine (ref_time _ _).mono ?_; rintro e w' ⟨rfl, rfl⟩)
      | (go_at_call 76; refine (ref_Receives _ _).mono ?_; rintro e w' ⟨rfl, rfl⟩)
      | (go_at_call 74; refine (ref_Lineage _ _ _ _ (HC.out.alloc _)).mono ?_; rintro e w1 ⟨rfl, hB⟩; have K := (Held.new (Below.refl w.heap.size w) [.int .i64 s.nu, .int .i64 s.ro, .int .i64 s.ep, .int .i64 s.ap, .slice A s.li.length c, .int .i64 s.so, .bool s.al, .bool s.co] 57).step hB; obtain ⟨hcl, hfz⟩ := bcell hB; clear hB)
      | (go_at_call 75; refine (ref_Head _ _ _ _ (HC.out.below K.bel)).mono ?_; rintro e w2 ⟨rfl, hB⟩; replace K := K.step hB; clear hcl hfz hB; have k0 := K.cell 0 _ rfl; have k1 := K.cell 1 _ rfl; have k2 := K.cell 2 _ rfl; have k3 := K.cell 3 _ rfl; have k4 := K.cell 4 _ rfl; have k5 := K.cell 5 _ rfl))
            go_ret
            exact ⟨ret_int HV.out.symm, K.bel⟩
          · have h14 : otherS s s.so = false := by simp only [otherS, h13, Bool.true_and, bne, h15, Bool.not_true]
            rw [h14, if_neg (by decide)] at HV
            clear h14
            go_enter Try.func54, Try.ntmps54
            go_wp2_with (first
      | (go_at_call 72; refine (ref_site _ _).mono ?_; rintro e w' ⟨rfl, rfl⟩)
      | (go_at_call 73; refine (ref_time _ _).mono ?_; rintro e w' ⟨rfl, rfl⟩)
      | (go_at_call 76; refine (ref_Receives _ _).mono ?_; rintro e w' ⟨rfl, rfl⟩)
      | (go_at_call 74; refine (ref_Lineage _ _ _ _ (HC.out.alloc _)).mono ?_; rintro e w1 ⟨rfl, hB⟩; have K := (Held.new (Below.refl w.heap.size w) [.int .i64 s.nu, .int .i64 s.ro, .int .i64 s.ep, .int .i64 s.ap, .slice A s.li.length c, .int .i64 s.so, .bool s.al, .bool s.co] 57).step hB; obtain ⟨hcl, hfz⟩ := bcell hB; clear hB)
      | (go_at_call 75; refine (ref_Head _ _ _ _ (HC.out.below K.bel)).mono ?_; rintro e w2 ⟨rfl, hB⟩; replace K := K.step hB; clear hcl hfz hB; have k0 := K.cell 0 _ rfl; have k1 := K.cell 1 _ rfl; have k2 := K.cell 2 _ rfl; have k3 := K.cell 3 _ rfl; have k4 := K.cell 4 _ rfl; have k5 := K.cell 5 _ rfl))
            go_ret
            exact ⟨ret_int HV.out.symm, K.bel⟩
    · rw [if_pos h10] at HV
      have h11 : ((lastS s.li).to_ != s.ap) = true := by simpa using h10
      clear h10
      go_enter Try.func54, Try.ntmps54
      go_wp2_with (first
      | (go_at_call 72; refine (ref_site _ _).mono ?_; rintro e w' ⟨rfl, rfl⟩)
      | (go_at_call 73; refine (ref_time _ _).mono ?_; rintro e w' ⟨rfl, rfl⟩)
      | (go_at_call 76; refine (ref_Receives _ _).mono ?_; rintro e w' ⟨rfl, rfl⟩)
      | (go_at_call 74; refine (ref_Lineage _ _ _ _ (HC.out.alloc _)).mono ?_; rintro e w1 ⟨rfl, hB⟩; have K := (Held.new (Below.refl w.heap.size w) [.int .i64 s.nu, .int .i64 s.ro, .int .i64 s.ep, .int .i64 s.ap, .slice A s.li.length c, .int .i64 s.so, .bool s.al, .bool s.co] 57).step hB; obtain ⟨hcl, hfz⟩ := bcell hB; clear hB)
      | (go_at_call 75; refine (ref_Head _ _ _ _ (HC.out.below K.bel)).mono ?_; rintro e w2 ⟨rfl, hB⟩; replace K := K.step hB; clear hcl hfz hB; have k0 := K.cell 0 _ rfl; have k1 := K.cell 1 _ rfl; have k2 := K.cell 2 _ rfl; have k3 := K.cell 3 _ rfl; have k4 := K.cell 4 _ rfl; have k5 := K.cell 5 _ rfl))
      go_ret
      exact ⟨ret_int HV.out.symm, K.bel⟩
end Go.Proofs.Ytijhkgabonkmfaa
