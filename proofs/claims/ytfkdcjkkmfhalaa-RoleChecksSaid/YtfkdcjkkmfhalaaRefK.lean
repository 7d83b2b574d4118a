/- Contract: the reference's Allowed. -/
import Derived.Test.YtfkdcjkkmfhalaaRefJ
namespace Go.Proofs.Ytfkdcjkkmfhalaa
open Go.RowKit
set_option linter.unusedSimpArgs false
set_option linter.unusedVariables false
theorem allowed_off (s : Site) (o : Int) (h : checkS s ≠ 0 ∨ s.al = false) : allowedS s o = false := by
  unfold allowedS
  rcases h with h | h
  · have : (checkS s == 0) = false := by simpa using h
    simp [this]
  · simp [h]
theorem allowed_ways (s : Site) (o : Int) (h0 : checkS s = 0) (ha : s.al = true) :
    ((s.ro == 1) = true ∧ (o == 0) = true ∧ allowedS s o = true) ∨
    ((s.ro == 1) = true ∧ (o == 0) = false ∧ (o == 1) = true ∧ allowedS s o = true) ∨
    ((s.ro == 1) = true ∧ (o == 0) = false ∧ (o == 1) = false ∧ allowedS s o = (o == 4)) ∨
    ((s.ro == 1) = false ∧ (s.ro == 2) = true ∧ (o == 2) = true ∧ s.co = true ∧ allowedS s o = true) ∨
    ((s.ro == 1) = false ∧ (s.ro == 2) = true ∧ (o == 2) = true ∧ s.co = false ∧ (o == 3) = false ∧ allowedS s o = (o == 4)) ∨
    ((s.ro == 1) = false ∧ (s.ro == 2) = true ∧ (o == 2) = false ∧ True ∧ (o == 3) = true ∧ allowedS s o = true) ∨
    ((s.ro == 1) = false ∧ (s.ro == 2) = true ∧ (o == 2) = false ∧ True ∧ (o == 3) = false ∧ allowedS s o = (o == 4)) ∨
    ((s.ro == 1) = false ∧ (s.ro == 2) = false ∧ (s.ro == 3) = true ∧ True ∧ (o == 3) = true ∧ allowedS s o = true) ∨
    ((s.ro == 1) = false ∧ (s.ro == 2) = false ∧ (s.ro == 3) = true ∧ True ∧ (o == 3) = false ∧ allowedS s o = (o == 4)) ∨
    ((s.ro == 1) = false ∧ (s.ro == 2) = false ∧ (s.ro == 3) = false ∧ (s.ro == 4) = true ∧ (o == 2) = true ∧ allowedS s o = s.co) ∨
    ((s.ro == 1) = false ∧ (s.ro == 2) = false ∧ (s.ro == 3) = false ∧ (s.ro == 4) = true ∧ (o == 2) = false ∧ allowedS s o = false) ∨
    ((s.ro == 1) = false ∧ (s.ro == 2) = false ∧ (s.ro == 3) = false ∧ (s.ro == 4) = false ∧ True ∧ allowedS s o = false) := by
  have hv : allowedS s o = (if s.ro = 1 then (o == 0 || o == 1 || o == 4) else if s.ro = 2 then ((o == 2 && s.co) || o == 3 || o == 4) else if s.ro = 3 then (o == 3 || o == 4) else if s.ro = 4 then (o == 2 && s.co) else false) := by
    unfold allowedS; simp [h0, ha]
  rw [hv]
  by_cases r1 : s.ro = 1
  · by_cases a : o = 0
    · simp [r1, a]
    · by_cases b : o = 1
      · simp [r1, b]
      · simp [r1, a, b]
  by_cases r2 : s.ro = 2
  · by_cases a : o = 2
    · cases s.co <;> simp [r2, a]
    · by_cases b : o = 3
      · simp [r2, b]
      · simp [r2, a, b]
  by_cases r3 : s.ro = 3
  · by_cases b : o = 3
    · simp [r3, b]
    · simp [r3, b]
  by_cases r4 : s.ro = 4
  · by_cases b : o = 2
    · simp [r4, b]
    · simp [r4, b]
  simp [r1, r2, r3, r4]
set_option maxHeartbeats 4000000 in
theorem ref_Allowed (w : World) (s : Site) (A : Option Addr) (c : Nat) (o : Int) (h : SpansAt w A c s.li) :
    Calls Try.prog 33 #[.agg #[.int .i64 s.nu, .int .i64 s.ro, .int .i64 s.ep, .int .i64 s.ap, .slice A s.li.length c, .int .i64 s.so, .bool s.al, .bool s.co], .int .i64 o] w fun e w' => e = .returned (.bool (allowedS s o)) ∧ Below w.heap.size w w' := by
  have HC := Keep.mk h
  clear h
  by_cases h0 : checkS s = 0
  · have e0 : (checkS s != 0) = false := by simp [h0]
    by_cases hal : s.al = true
    · have hw := allowed_ways s o h0 hal
      have HAL := Keep.mk hal
      clear hal h0
      rcases hw with ⟨q1, q2, hv⟩ | ⟨q1, q2, q3, hv⟩ | ⟨q1, q2, q3, hv⟩ | ⟨q1, q2, q3, hco, hv⟩ | ⟨q1, q2, q3, hco, q4, hv⟩ | ⟨q1, q2, q3, q4, q5, hv⟩ | ⟨q1, q2, q3, q4, q5, hv⟩ | ⟨q1, q2, q3, q4, q5, hv⟩ | ⟨q1, q2, q3, q4, q5, hv⟩ | ⟨q1, q2, q3, q4, q5, hv⟩ | ⟨q1, q2, q3, q4, q5, hv⟩ | ⟨q1, q2, q3, q4, q5, hv⟩
      all_goals
        have HV := Keep.mk hv
        clear hv
        try (have HCO := Keep.mk hco; clear hco)
        go_enter Try.func33, Try.ntmps33
        go_wp2_with (go_at_call 32; (with_reducible refine (ref_Check _ s A c (HC.out.alloc _)).mono ?_); rintro e w1 ⟨rfl, hB⟩; have K := (Held.new (Below.refl w.heap.size w) [.int .i64 s.nu, .int .i64 s.ro, .int .i64 s.ep, .int .i64 s.ap, .slice A s.li.length c, .int .i64 s.so, .bool s.al, .bool s.co] 24).step hB; obtain ⟨⟨p0, p1, p2, p3, p4, p5, p6, p7⟩, p8⟩ := K.c8; (try (rw [HAL.out] at p6)); (try (rw [HCO.out] at p7)); have KB := Keep.mk K.bel; clear hB K)
        go_ret
        exact ⟨by rw [HV.out]; rfl, KB.out⟩
    · replace hal : s.al = false := by simpa using hal
      have HV := Keep.mk (allowed_off s o (.inr hal))
      have HAL := Keep.mk hal
      clear hal h0
      rw [HV.out]
      go_enter Try.func33, Try.ntmps33
      go_wp2_with (go_at_call 32; (with_reducible refine (ref_Check _ s A c (HC.out.alloc _)).mono ?_); rintro e w1 ⟨rfl, hB⟩; have K := (Held.new (Below.refl w.heap.size w) [.int .i64 s.nu, .int .i64 s.ro, .int .i64 s.ep, .int .i64 s.ap, .slice A s.li.length c, .int .i64 s.so, .bool s.al, .bool s.co] 24).step hB; obtain ⟨⟨p0, p1, p2, p3, p4, p5, p6, p7⟩, p8⟩ := K.c8; (try (rw [HAL.out] at p6)); (try (rw [HCO.out] at p7)); have KB := Keep.mk K.bel; clear hB K)
      go_ret
      exact ⟨rfl, KB.out⟩
  · have e0 : (checkS s != 0) = true := by simpa using h0
    have HV := Keep.mk (allowed_off s o (.inl h0))
    clear h0
    rw [HV.out]
    go_enter Try.func33, Try.ntmps33
    go_wp2_with (go_at_call 32; (with_reducible refine (ref_Check _ s A c (HC.out.alloc _)).mono ?_); rintro e w1 ⟨rfl, hB⟩; have K := (Held.new (Below.refl w.heap.size w) [.int .i64 s.nu, .int .i64 s.ro, .int .i64 s.ep, .int .i64 s.ap, .slice A s.li.length c, .int .i64 s.so, .bool s.al, .bool s.co] 24).step hB; obtain ⟨⟨p0, p1, p2, p3, p4, p5, p6, p7⟩, p8⟩ := K.c8; (try (rw [HAL.out] at p6)); (try (rw [HCO.out] at p7)); have KB := Keep.mk K.bel; clear hB K)
    go_ret
    exact ⟨rfl, KB.out⟩
end Go.Proofs.Ytfkdcjkkmfhalaa
