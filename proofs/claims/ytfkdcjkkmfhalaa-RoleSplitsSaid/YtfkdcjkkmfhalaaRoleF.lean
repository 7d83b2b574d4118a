/- Contracts: role.Rejoin. -/
import Derived.Test.YtfkdcjkkmfhalaaRoleE
namespace Go.Proofs.Ytfkdcjkkmfhalaa
open Go.RowKit
set_option linter.unusedSimpArgs false
set_option linter.unusedVariables false
theorem okR_ways (s : Site) : ((s.ro != 1) = false ∧ (s.ro == 3) = false ∧ okR s = false) ∨ ((s.ro != 1) = true ∧ okR s = (s.ro != 2)) := by
  unfold okR
  cases h : (s.ro != 1)
  · left; simp at h; simp [h]
  · right; simp
theorem okE_ways (s : Site) (e : Int) : (decide (s.ep ≤ e) = false ∧ okE s e = false) ∨ (decide (s.ep ≤ e) = true ∧ okE s e = (e != 0)) := by
  unfold okE
  cases decide (s.ep ≤ e) <;> simp
theorem next_ways (s : Site) (e : Int) : ((s.ro == 3) = false ∧ (if s.ro = 3 ∧ e = s.ep then (2 : Int) else 4) = 4) ∨ ((s.ro == 3) = true ∧ (e == s.ep) = true ∧ (if s.ro = 3 ∧ e = s.ep then (2 : Int) else 4) = 2) ∨ ((s.ro == 3) = true ∧ (e == s.ep) = false ∧ (if s.ro = 3 ∧ e = s.ep then (2 : Int) else 4) = 4) := by
  cases h1 : (s.ro == 3)
  · left; simp at h1; simp [h1]
  · right
    cases h2 : (e == s.ep)
    · right; simp at h2; simp [h2]
    · left; simp at h1 h2; simp [h1, h2]
set_option maxHeartbeats 8000000 in
theorem role_Rejoin (w : World) (s : Site) (A : Option Addr) (c : Nat) (ep src : Int) (h : SpansAt w A c s.li) :
    Calls Try.prog 26 #[.agg #[.int .i64 s.nu, .int .i64 s.ro, .int .i64 s.ep, .int .i64 s.ap, .slice A s.li.length c, .int .i64 s.so, .bool s.al, .bool s.co], .int .i64 ep, .int .i64 src] w (SiteRes w.heap.size w (rejoinS s ep src)) := by
  have HC := Keep.mk h
  have hl := h.len
  clear h
  rcases okR_ways s with ⟨h1, h5, hr⟩ | ⟨h1, hr⟩ <;> rcases okE_ways s ep with ⟨h2, he⟩ | ⟨h2, he⟩ <;> rcases next_ways s ep with ⟨h3, hn⟩ | ⟨h3, h4, hn⟩ | ⟨h3, h4, hn⟩
  all_goals first | (exfalso; rw [h3] at h5; cases h5; done) | skip
  all_goals
    have HV := Keep.mk (rejoin_val s ep src _ _ _ hr he hn)
    clear hr he hn
    try clear h5
    go_enter Try.func26, Try.ntmps26
    go_wp2_with (first
      | (go_at_call 39; refine (role_begin _ s _ _ ((HC.out.alloc _).alloc _)).mono ?_; rintro e w1 ⟨g, rfl, T⟩; obtain ⟨hcl, hfz⟩ := bcell T.bel)
      | (go_at_call 40; refine (tr_demand _ _ _ _ _ _ _ (by assumption)).mono ?_; rintro e w2 ⟨rfl, T⟩; obtain ⟨hcl, hfz⟩ := bcell T.bel)
      | (go_at_call 44; refine (role_other s _ _ _ _).mono ?_; rintro e w2 ⟨rfl, hb⟩; have T := Tr.step (by assumption) hb; clear hb; obtain ⟨hcl, hfz⟩ := bcell T.bel)
      | (go_at_call 41; refine (tr_become _ _ _ _ _ _ _ _ (by assumption)).mono ?_; rintro e w2 ⟨rfl, T⟩; obtain ⟨hcl, hfz⟩ := bcell T.bel)
      | (go_at_call 42; refine (tr_end _ _ _ _ _ _ HV.out (by assumption)).mono ?_; rintro e w3 ⟨A3, c3, rfl, hsp, hb⟩; have HS := Keep.mk hsp; have HB := Keep.mk (below_then T.bel hb); obtain ⟨hcl, hfz⟩ := bcell HB.out; clear hsp hb))
    have S := site_stored ((Held.new1 w _ [.int .i64 0, .int .i64 0, .int .i64 0, .int .i64 0, .slice none 0 0, .int .i64 0, .bool false, .bool false] 24).step HB.out) (rejoinS s ep src).1 A3 c3 HS.out
    exact bodyPost_ret (results_row_tmp rfl _ _ (w.heap.size + 1) 24 _ _ rfl S.1.blk Try.underlying24 rfl (by kernel_rfl)) rfl ⟨A3, c3, rfl, S.2.mono (by simp; omega), S.1.bel⟩
end Go.Proofs.Ytfkdcjkkmfhalaa
