/- Contracts: the reference's Rejoin; SameLineage, Same. -/
import Derived.Test.YtfkdcjkkmfhalaaRefD
import Derived.Test.YtfkdcjkkmfhalaaRoleF
import Derived.Laws.StructEq
namespace Go.Proofs.Ytfkdcjkkmfhalaa
open Go.RowKit
set_option linter.unusedSimpArgs false
set_option linter.unusedVariables false
theorem rejoin_err (s : Site) (ep src : Int) (k : Int) (h1 : checkS s = 0) (h2 : (okR s = false ∧ k = 18) ∨ (okR s = true ∧ okE s ep = false ∧ k = 13) ∨ (okR s = true ∧ okE s ep = true ∧ 1073741824 < ep ∧ k = 2) ∨ (okR s = true ∧ okE s ep = true ∧ ¬ 1073741824 < ep ∧ otherS s src = false ∧ k = 1)) : rejoinS s ep src = (zS, k) := by
  unfold rejoinS
  rw [if_neg (not_not_intro h1)]
  rcases h2 with ⟨a, rfl⟩ | ⟨a, b, rfl⟩ | ⟨a, b, c, rfl⟩ | ⟨a, b, c, d, rfl⟩
  · rw [if_pos a]
  · rw [if_neg (by simp [a]), if_pos b]
  · rw [if_neg (by simp [a]), if_neg (by simp [b]), if_pos (by omega)]
  · rw [if_neg (by simp [a]), if_neg (by simp [b]), if_neg (by omega), if_pos d]
theorem rejoin_ok (s : Site) (ep src : Int) (r : Int) (h1 : checkS s = 0) (a : okR s = true) (b : okE s ep = true) (c : ¬ 1073741824 < ep) (d : otherS s src = true) (hr : (if s.ro = 3 ∧ ep = s.ep then (2 : Int) else 4) = r) : rejoinS s ep src = ({ s with ro := r, ep := ep, so := src }, 0) := by
  unfold rejoinS
  rw [if_neg (not_not_intro h1), if_neg (by simp [a]), if_neg (by simp [b]), if_neg (by omega), if_neg (by simp [d]), hr]
set_option maxHeartbeats 2000000 in
theorem ref_Rejoin (w : World) (s : Site) (A : Option Addr) (c : Nat) (ep src : Int) (h : SpansAt w A c s.li) :
    Calls Try.prog 27 #[.agg #[.int .i64 s.nu, .int .i64 s.ro, .int .i64 s.ep, .int .i64 s.ap, .slice A s.li.length c, .int .i64 s.so, .bool s.al, .bool s.co], .int .i64 ep, .int .i64 src] w (SiteRes w.heap.size w (rejoinS s ep src)) := by
  have HC := Keep.mk h
  have hl := h.len
  clear h
  by_cases h1 : checkS s = 0
  · have h1' : (checkS s != 0) = false := by simp [h1]
    cases h2 : (s.ro == 1)
    case true =>
      rw [rejoin_err s ep src 18 h1 (.inl ⟨by simp only [okR, bne, h2]; rfl, rfl⟩)]
      clear h1
      go_enter Try.func27, Try.ntmps27
      go_wp2_with (first
      | (go_at_call 32; refine (ref_Check _ s _ _ ((HC.out.alloc _).alloc _)).mono ?_; rintro e w1 ⟨rfl, hB⟩; have K0 := ((Held.new (Below.refl w.heap.size w) [.int .i64 s.nu, .int .i64 s.ro, .int .i64 s.ep, .int .i64 s.ap, .slice A s.li.length c, .int .i64 s.so, .bool s.al, .bool s.co] 24).alloc (.cells #[.int .i64 0, .int .i64 0, .int .i64 0, .int .i64 0, .slice none 0 0, .int .i64 0, .bool false, .bool false] 24)).step hB; have K1 := (Held.new1 w _ [.int .i64 0, .int .i64 0, .int .i64 0, .int .i64 0, .slice none 0 0, .int .i64 0, .bool false, .bool false] 24).step hB; clear hB; obtain ⟨⟨p0, p1, p2, p3, p4, p5, p6, p7⟩, p8⟩ := K0.c8; obtain ⟨⟨q0, q1, q2, q3, q4, q5, q6, q7⟩, q8⟩ := K1.c8; have hlt0 := K0.lt; have hlt1 := K1.lt; have KK := Keep.mk (And.intro K0 K1); clear K0 K1)
      | (go_at_call 45; refine (ref_site _ _).mono ?_; rintro e w' ⟨rfl, rfl⟩)
      | (go_at_call 43; refine (ref_Copy _ s _ _ (HC.out.below KK.out.1.bel)).mono ?_; rintro e w2 ⟨A2, c2, rfl, hO, hB⟩; have HO := Keep.mk (hO.mono KK.out.1.bel.size); have K0 := KK.out.1.step hB; have K1 := KK.out.2.step hB; clear hO hB KK p0 p1 p2 p3 p4 p5 p6 p7 p8 q0 q1 q2 q3 q4 q5 q6 q7 q8; obtain ⟨⟨p0, p1, p2, p3, p4, p5, p6, p7⟩, p8⟩ := K0.c8; obtain ⟨⟨q0, q1, q2, q3, q4, q5, q6, q7⟩, q8⟩ := K1.c8; have hlt0 := K0.lt; have hlt1 := K1.lt; have KK := Keep.mk (And.intro K0 K1); clear K0 K1))
      exact bodyPost_ret (results_row_tmp rfl _ _ (w.heap.size + 1) 24 _ _ rfl (site_stored KK.out.2 zS none 0 (OwnSp.nil _ w.heap.size)).1.blk Try.underlying24 rfl (by kernel_rfl)) rfl ⟨none, 0, rfl, (site_stored KK.out.2 zS none 0 (OwnSp.nil _ w.heap.size)).2, (site_stored KK.out.2 zS none 0 (OwnSp.nil _ w.heap.size)).1.bel⟩
    cases h2' : (s.ro == 2)
    case true =>
      rw [rejoin_err s ep src 18 h1 (.inl ⟨by simp only [okR, bne, h2, h2']; rfl, rfl⟩)]
      clear h1
      go_enter Try.func27, Try.ntmps27
      go_wp2_with (first
      | (go_at_call 32; refine (ref_Check _ s _ _ ((HC.out.alloc _).alloc _)).mono ?_; rintro e w1 ⟨rfl, hB⟩; have K0 := ((Held.new (Below.refl w.heap.size w) [.int .i64 s.nu, .int .i64 s.ro, .int .i64 s.ep, .int .i64 s.ap, .slice A s.li.length c, .int .i64 s.so, .bool s.al, .bool s.co] 24).alloc (.cells #[.int .i64 0, .int .i64 0, .int .i64 0, .int .i64 0, .slice none 0 0, .int .i64 0, .bool false, .bool false] 24)).step hB; have K1 := (Held.new1 w _ [.int .i64 0, .int .i64 0, .int .i64 0, .int .i64 0, .slice none 0 0, .int .i64 0, .bool false, .bool false] 24).step hB; clear hB; obtain ⟨⟨p0, p1, p2, p3, p4, p5, p6, p7⟩, p8⟩ := K0.c8; obtain ⟨⟨q0, q1, q2, q3, q4, q5, q6, q7⟩, q8⟩ := K1.c8; have hlt0 := K0.lt; have hlt1 := K1.lt; have KK := Keep.mk (And.intro K0 K1); clear K0 K1)
      | (go_at_call 45; refine (ref_site _ _).mono ?_; rintro e w' ⟨rfl, rfl⟩)
      | (go_at_call 43; refine (ref_Copy _ s _ _ (HC.out.below KK.out.1.bel)).mono ?_; rintro e w2 ⟨A2, c2, rfl, hO, hB⟩; have HO := Keep.mk (hO.mono KK.out.1.bel.size); have K0 := KK.out.1.step hB; have K1 := KK.out.2.step hB; clear hO hB KK p0 p1 p2 p3 p4 p5 p6 p7 p8 q0 q1 q2 q3 q4 q5 q6 q7 q8; obtain ⟨⟨p0, p1, p2, p3, p4, p5, p6, p7⟩, p8⟩ := K0.c8; obtain ⟨⟨q0, q1, q2, q3, q4, q5, q6, q7⟩, q8⟩ := K1.c8; have hlt0 := K0.lt; have hlt1 := K1.lt; have KK := Keep.mk (And.intro K0 K1); clear K0 K1))
      exact bodyPost_ret (results_row_tmp rfl _ _ (w.heap.size + 1) 24 _ _ rfl (site_stored KK.out.2 zS none 0 (OwnSp.nil _ w.heap.size)).1.blk Try.underlying24 rfl (by kernel_rfl)) rfl ⟨none, 0, rfl, (site_stored KK.out.2 zS none 0 (OwnSp.nil _ w.heap.size)).2, (site_stored KK.out.2 zS none 0 (OwnSp.nil _ w.heap.size)).1.bel⟩
    have hr : okR s = true := by simp only [okR, bne, h2, h2']; rfl
    by_cases h3 : ep < s.ep
    · rw [rejoin_err s ep src 13 h1 (.inr (.inl ⟨hr, by simp [okE]; omega, rfl⟩))]
      have g3 : decide (ep < s.ep) = true := by simp [h3]
      clear h1 hr h3
      go_enter Try.func27, Try.ntmps27
      go_wp2_with (first
      | (go_at_call 32; refine (ref_Check _ s _ _ ((HC.out.alloc _).alloc _)).mono ?_; rintro e w1 ⟨rfl, hB⟩; have K0 := ((Held.new (Below.refl w.heap.size w) [.int .i64 s.nu, .int .i64 s.ro, .int .i64 s.ep, .int .i64 s.ap, .slice A s.li.length c, .int .i64 s.so, .bool s.al, .bool s.co] 24).alloc (.cells #[.int .i64 0, .int .i64 0, .int .i64 0, .int .i64 0, .slice none 0 0, .int .i64 0, .bool false, .bool false] 24)).step hB; have K1 := (Held.new1 w _ [.int .i64 0, .int .i64 0, .int .i64 0, .int .i64 0, .slice none 0 0, .int .i64 0, .bool false, .bool false] 24).step hB; clear hB; obtain ⟨⟨p0, p1, p2, p3, p4, p5, p6, p7⟩, p8⟩ := K0.c8; obtain ⟨⟨q0, q1, q2, q3, q4, q5, q6, q7⟩, q8⟩ := K1.c8; have hlt0 := K0.lt; have hlt1 := K1.lt; have KK := Keep.mk (And.intro K0 K1); clear K0 K1)
      | (go_at_call 45; refine (ref_site _ _).mono ?_; rintro e w' ⟨rfl, rfl⟩)
      | (go_at_call 43; refine (ref_Copy _ s _ _ (HC.out.below KK.out.1.bel)).mono ?_; rintro e w2 ⟨A2, c2, rfl, hO, hB⟩; have HO := Keep.mk (hO.mono KK.out.1.bel.size); have K0 := KK.out.1.step hB; have K1 := KK.out.2.step hB; clear hO hB KK p0 p1 p2 p3 p4 p5 p6 p7 p8 q0 q1 q2 q3 q4 q5 q6 q7 q8; obtain ⟨⟨p0, p1, p2, p3, p4, p5, p6, p7⟩, p8⟩ := K0.c8; obtain ⟨⟨q0, q1, q2, q3, q4, q5, q6, q7⟩, q8⟩ := K1.c8; have hlt0 := K0.lt; have hlt1 := K1.lt; have KK := Keep.mk (And.intro K0 K1); clear K0 K1))
      exact bodyPost_ret (results_row_tmp rfl _ _ (w.heap.size + 1) 24 _ _ rfl (site_stored KK.out.2 zS none 0 (OwnSp.nil _ w.heap.size)).1.blk Try.underlying24 rfl (by kernel_rfl)) rfl ⟨none, 0, rfl, (site_stored KK.out.2 zS none 0 (OwnSp.nil _ w.heap.size)).2, (site_stored KK.out.2 zS none 0 (OwnSp.nil _ w.heap.size)).1.bel⟩
    have g3 : decide (ep < s.ep) = false := by simp [h3]
    cases h3' : (ep == 0)
    case true =>
      rw [rejoin_err s ep src 13 h1 (.inr (.inl ⟨hr, by simp only [okE, bne, h3']; simp, rfl⟩))]
      clear h1 hr h3
      go_enter Try.func27, Try.ntmps27
      go_wp2_with (first
      | (go_at_call 32; refine (ref_Check _ s _ _ ((HC.out.alloc _).alloc _)).mono ?_; rintro e w1 ⟨rfl, hB⟩; have K0 := ((Held.new (Below.refl w.heap.size w) [.int .i64 s.nu, .int .i64 s.ro, .int .i64 s.ep, .int .i64 s.ap, .slice A s.li.length c, .int .i64 s.so, .bool s.al, .bool s.co] 24).alloc (.cells #[.int .i64 0, .int .i64 0, .int .i64 0, .int .i64 0, .slice none 0 0, .int .i64 0, .bool false, .bool false] 24)).step hB; have K1 := (Held.new1 w _ [.int .i64 0, .int .i64 0, .int .i64 0, .int .i64 0, .slice none 0 0, .int .i64 0, .bool false, .bool false] 24).step hB; clear hB; obtain ⟨⟨p0, p1, p2, p3, p4, p5, p6, p7⟩, p8⟩ := K0.c8; obtain ⟨⟨q0, q1, q2, q3, q4, q5, q6, q7⟩, q8⟩ := K1.c8; have hlt0 := K0.lt; have hlt1 := K1.lt; have KK := Keep.mk (And.intro K0 K1); clear K0 K1)
      | (go_at_call 45; refine (ref_site _ _).mono ?_; rintro e w' ⟨rfl, rfl⟩)
      | (go_at_call 43; refine (ref_Copy _ s _ _ (HC.out.below KK.out.1.bel)).mono ?_; rintro e w2 ⟨A2, c2, rfl, hO, hB⟩; have HO := Keep.mk (hO.mono KK.out.1.bel.size); have K0 := KK.out.1.step hB; have K1 := KK.out.2.step hB; clear hO hB KK p0 p1 p2 p3 p4 p5 p6 p7 p8 q0 q1 q2 q3 q4 q5 q6 q7 q8; obtain ⟨⟨p0, p1, p2, p3, p4, p5, p6, p7⟩, p8⟩ := K0.c8; obtain ⟨⟨q0, q1, q2, q3, q4, q5, q6, q7⟩, q8⟩ := K1.c8; have hlt0 := K0.lt; have hlt1 := K1.lt; have KK := Keep.mk (And.intro K0 K1); clear K0 K1))
      exact bodyPost_ret (results_row_tmp rfl _ _ (w.heap.size + 1) 24 _ _ rfl (site_stored KK.out.2 zS none 0 (OwnSp.nil _ w.heap.size)).1.blk Try.underlying24 rfl (by kernel_rfl)) rfl ⟨none, 0, rfl, (site_stored KK.out.2 zS none 0 (OwnSp.nil _ w.heap.size)).2, (site_stored KK.out.2 zS none 0 (OwnSp.nil _ w.heap.size)).1.bel⟩
    have he : okE s ep = true := by
      have : s.ep ≤ ep := by omega
      simp only [okE, bne, h3', this]; simp
    by_cases h4 : 1073741824 < ep
    · rw [rejoin_err s ep src 2 h1 (.inr (.inr (.inl ⟨hr, he, h4, rfl⟩)))]
      have g4 : decide (1073741824 < ep) = true := by simp [h4]
      clear h1 hr h3 he h4
      go_enter Try.func27, Try.ntmps27
      go_wp2_with (first
      | (go_at_call 32; refine (ref_Check _ s _ _ ((HC.out.alloc _).alloc _)).mono ?_; rintro e w1 ⟨rfl, hB⟩; have K0 := ((Held.new (Below.refl w.heap.size w) [.int .i64 s.nu, .int .i64 s.ro, .int .i64 s.ep, .int .i64 s.ap, .slice A s.li.length c, .int .i64 s.so, .bool s.al, .bool s.co] 24).alloc (.cells #[.int .i64 0, .int .i64 0, .int .i64 0, .int .i64 0, .slice none 0 0, .int .i64 0, .bool false, .bool false] 24)).step hB; have K1 := (Held.new1 w _ [.int .i64 0, .int .i64 0, .int .i64 0, .int .i64 0, .slice none 0 0, .int .i64 0, .bool false, .bool false] 24).step hB; clear hB; obtain ⟨⟨p0, p1, p2, p3, p4, p5, p6, p7⟩, p8⟩ := K0.c8; obtain ⟨⟨q0, q1, q2, q3, q4, q5, q6, q7⟩, q8⟩ := K1.c8; have hlt0 := K0.lt; have hlt1 := K1.lt; have KK := Keep.mk (And.intro K0 K1); clear K0 K1)
      | (go_at_call 45; refine (ref_site _ _).mono ?_; rintro e w' ⟨rfl, rfl⟩)
      | (go_at_call 43; refine (ref_Copy _ s _ _ (HC.out.below KK.out.1.bel)).mono ?_; rintro e w2 ⟨A2, c2, rfl, hO, hB⟩; have HO := Keep.mk (hO.mono KK.out.1.bel.size); have K0 := KK.out.1.step hB; have K1 := KK.out.2.step hB; clear hO hB KK p0 p1 p2 p3 p4 p5 p6 p7 p8 q0 q1 q2 q3 q4 q5 q6 q7 q8; obtain ⟨⟨p0, p1, p2, p3, p4, p5, p6, p7⟩, p8⟩ := K0.c8; obtain ⟨⟨q0, q1, q2, q3, q4, q5, q6, q7⟩, q8⟩ := K1.c8; have hlt0 := K0.lt; have hlt1 := K1.lt; have KK := Keep.mk (And.intro K0 K1); clear K0 K1))
      exact bodyPost_ret (results_row_tmp rfl _ _ (w.heap.size + 1) 24 _ _ rfl (site_stored KK.out.2 zS none 0 (OwnSp.nil _ w.heap.size)).1.blk Try.underlying24 rfl (by kernel_rfl)) rfl ⟨none, 0, rfl, (site_stored KK.out.2 zS none 0 (OwnSp.nil _ w.heap.size)).2, (site_stored KK.out.2 zS none 0 (OwnSp.nil _ w.heap.size)).1.bel⟩
    have g4 : decide (1073741824 < ep) = false := by simp [h4]
    cases h6 : inB src 0 3
    · rw [rejoin_err s ep src 1 h1 (.inr (.inr (.inr ⟨hr, he, h4, by simp [otherS, h6], rfl⟩)))]
      clear h1 hr h3 he h4
      go_enter Try.func27, Try.ntmps27
      go_wp2_with (first
      | (go_at_call 32; refine (ref_Check _ s _ _ ((HC.out.alloc _).alloc _)).mono ?_; rintro e w1 ⟨rfl, hB⟩; have K0 := ((Held.new (Below.refl w.heap.size w) [.int .i64 s.nu, .int .i64 s.ro, .int .i64 s.ep, .int .i64 s.ap, .slice A s.li.length c, .int .i64 s.so, .bool s.al, .bool s.co] 24).alloc (.cells #[.int .i64 0, .int .i64 0, .int .i64 0, .int .i64 0, .slice none 0 0, .int .i64 0, .bool false, .bool false] 24)).step hB; have K1 := (Held.new1 w _ [.int .i64 0, .int .i64 0, .int .i64 0, .int .i64 0, .slice none 0 0, .int .i64 0, .bool false, .bool false] 24).step hB; clear hB; obtain ⟨⟨p0, p1, p2, p3, p4, p5, p6, p7⟩, p8⟩ := K0.c8; obtain ⟨⟨q0, q1, q2, q3, q4, q5, q6, q7⟩, q8⟩ := K1.c8; have hlt0 := K0.lt; have hlt1 := K1.lt; have KK := Keep.mk (And.intro K0 K1); clear K0 K1)
      | (go_at_call 45; refine (ref_site _ _).mono ?_; rintro e w' ⟨rfl, rfl⟩)
      | (go_at_call 43; refine (ref_Copy _ s _ _ (HC.out.below KK.out.1.bel)).mono ?_; rintro e w2 ⟨A2, c2, rfl, hO, hB⟩; have HO := Keep.mk (hO.mono KK.out.1.bel.size); have K0 := KK.out.1.step hB; have K1 := KK.out.2.step hB; clear hO hB KK p0 p1 p2 p3 p4 p5 p6 p7 p8 q0 q1 q2 q3 q4 q5 q6 q7 q8; obtain ⟨⟨p0, p1, p2, p3, p4, p5, p6, p7⟩, p8⟩ := K0.c8; obtain ⟨⟨q0, q1, q2, q3, q4, q5, q6, q7⟩, q8⟩ := K1.c8; have hlt0 := K0.lt; have hlt1 := K1.lt; have KK := Keep.mk (And.intro K0 K1); clear K0 K1))
      exact bodyPost_ret (results_row_tmp rfl _ _ (w.heap.size + 1) 24 _ _ rfl (site_stored KK.out.2 zS none 0 (OwnSp.nil _ w.heap.size)).1.blk Try.underlying24 rfl (by kernel_rfl)) rfl ⟨none, 0, rfl, (site_stored KK.out.2 zS none 0 (OwnSp.nil _ w.heap.size)).2, (site_stored KK.out.2 zS none 0 (OwnSp.nil _ w.heap.size)).1.bel⟩
    cases h7 : (src == s.nu)
    case true =>
      rw [rejoin_err s ep src 1 h1 (.inr (.inr (.inr ⟨hr, he, h4, by simp only [otherS, h6, bne, h7]; simp, rfl⟩)))]
      clear h1 hr h3 he h4
      go_enter Try.func27, Try.ntmps27
      go_wp2_with (first
      | (go_at_call 32; refine (ref_Check _ s _ _ ((HC.out.alloc _).alloc _)).mono ?_; rintro e w1 ⟨rfl, hB⟩; have K0 := ((Held.new (Below.refl w.heap.size w) [.int .i64 s.nu, .int .i64 s.ro, .int .i64 s.ep, .int .i64 s.ap, .slice A s.li.length c, .int .i64 s.so, .bool s.al, .bool s.co] 24).alloc (.cells #[.int .i64 0, .int .i64 0, .int .i64 0, .int .i64 0, .slice none 0 0, .int .i64 0, .bool false, .bool false] 24)).step hB; have K1 := (Held.new1 w _ [.int .i64 0, .int .i64 0, .int .i64 0, .int .i64 0, .slice none 0 0, .int .i64 0, .bool false, .bool false] 24).step hB; clear hB; obtain ⟨⟨p0, p1, p2, p3, p4, p5, p6, p7⟩, p8⟩ := K0.c8; obtain ⟨⟨q0, q1, q2, q3, q4, q5, q6, q7⟩, q8⟩ := K1.c8; have hlt0 := K0.lt; have hlt1 := K1.lt; have KK := Keep.mk (And.intro K0 K1); clear K0 K1)
      | (go_at_call 45; refine (ref_site _ _).mono ?_; rintro e w' ⟨rfl, rfl⟩)
      | (go_at_call 43; refine (ref_Copy _ s _ _ (HC.out.below KK.out.1.bel)).mono ?_; rintro e w2 ⟨A2, c2, rfl, hO, hB⟩; have HO := Keep.mk (hO.mono KK.out.1.bel.size); have K0 := KK.out.1.step hB; have K1 := KK.out.2.step hB; clear hO hB KK p0 p1 p2 p3 p4 p5 p6 p7 p8 q0 q1 q2 q3 q4 q5 q6 q7 q8; obtain ⟨⟨p0, p1, p2, p3, p4, p5, p6, p7⟩, p8⟩ := K0.c8; obtain ⟨⟨q0, q1, q2, q3, q4, q5, q6, q7⟩, q8⟩ := K1.c8; have hlt0 := K0.lt; have hlt1 := K1.lt; have KK := Keep.mk (And.intro K0 K1); clear K0 K1))
      exact bodyPost_ret (results_row_tmp rfl _ _ (w.heap.size + 1) 24 _ _ rfl (site_stored KK.out.2 zS none 0 (OwnSp.nil _ w.heap.size)).1.blk Try.underlying24 rfl (by kernel_rfl)) rfl ⟨none, 0, rfl, (site_stored KK.out.2 zS none 0 (OwnSp.nil _ w.heap.size)).2, (site_stored KK.out.2 zS none 0 (OwnSp.nil _ w.heap.size)).1.bel⟩
    have ho : otherS s src = true := by simp only [otherS, h6, bne, h7]; simp
    rcases next_ways s ep with ⟨k3, hn⟩ | ⟨k3, k4, hn⟩ | ⟨k3, k4, hn⟩
    · rw [rejoin_ok s ep src 4 h1 hr he h4 ho hn]
      clear h1 hr h3 he h4 ho hn
      go_enter Try.func27, Try.ntmps27
      go_wp2_with (first
      | (go_at_call 32; refine (ref_Check _ s _ _ ((HC.out.alloc _).alloc _)).mono ?_; rintro e w1 ⟨rfl, hB⟩; have K0 := ((Held.new (Below.refl w.heap.size w) [.int .i64 s.nu, .int .i64 s.ro, .int .i64 s.ep, .int .i64 s.ap, .slice A s.li.length c, .int .i64 s.so, .bool s.al, .bool s.co] 24).alloc (.cells #[.int .i64 0, .int .i64 0, .int .i64 0, .int .i64 0, .slice none 0 0, .int .i64 0, .bool false, .bool false] 24)).step hB; have K1 := (Held.new1 w _ [.int .i64 0, .int .i64 0, .int .i64 0, .int .i64 0, .slice none 0 0, .int .i64 0, .bool false, .bool false] 24).step hB; clear hB; obtain ⟨⟨p0, p1, p2, p3, p4, p5, p6, p7⟩, p8⟩ := K0.c8; obtain ⟨⟨q0, q1, q2, q3, q4, q5, q6, q7⟩, q8⟩ := K1.c8; have hlt0 := K0.lt; have hlt1 := K1.lt; have KK := Keep.mk (And.intro K0 K1); clear K0 K1)
      | (go_at_call 45; refine (ref_site _ _).mono ?_; rintro e w' ⟨rfl, rfl⟩)
      | (go_at_call 43; refine (ref_Copy _ s _ _ (HC.out.below KK.out.1.bel)).mono ?_; rintro e w2 ⟨A2, c2, rfl, hO, hB⟩; have HO := Keep.mk (hO.mono KK.out.1.bel.size); have K0 := KK.out.1.step hB; have K1 := KK.out.2.step hB; clear hO hB KK p0 p1 p2 p3 p4 p5 p6 p7 p8 q0 q1 q2 q3 q4 q5 q6 q7 q8; obtain ⟨⟨p0, p1, p2, p3, p4, p5, p6, p7⟩, p8⟩ := K0.c8; obtain ⟨⟨q0, q1, q2, q3, q4, q5, q6, q7⟩, q8⟩ := K1.c8; have hlt0 := K0.lt; have hlt1 := K1.lt; have KK := Keep.mk (And.intro K0 K1); clear K0 K1))
      exact bodyPost_ret (results_row_tmp rfl _ _ (w.heap.size + 1) 24 _ _ rfl ((site_stored KK.out.2 ({ s with ro := 4, ep := ep, so := src } : Site) A2 c2 HO.out).1.alloc _).blk Try.underlying24 rfl (by kernel_rfl)) rfl ⟨A2, c2, rfl, (site_stored KK.out.2 ({ s with ro := 4, ep := ep, so := src } : Site) A2 c2 HO.out).2.step (below_new (Below.refl _ _) _), ((site_stored KK.out.2 ({ s with ro := 4, ep := ep, so := src } : Site) A2 c2 HO.out).1.alloc _).bel⟩
    · rw [rejoin_ok s ep src 2 h1 hr he h4 ho hn]
      clear h1 hr h3 he h4 ho hn
      go_enter Try.func27, Try.ntmps27
      go_wp2_with (first
      | (go_at_call 32; refine (ref_Check _ s _ _ ((HC.out.alloc _).alloc _)).mono ?_; rintro e w1 ⟨rfl, hB⟩; have K0 := ((Held.new (Below.refl w.heap.size w) [.int .i64 s.nu, .int .i64 s.ro, .int .i64 s.ep, .int .i64 s.ap, .slice A s.li.length c, .int .i64 s.so, .bool s.al, .bool s.co] 24).alloc (.cells #[.int .i64 0, .int .i64 0, .int .i64 0, .int .i64 0, .slice none 0 0, .int .i64 0, .bool false, .bool false] 24)).step hB; have K1 := (Held.new1 w _ [.int .i64 0, .int .i64 0, .int .i64 0, .int .i64 0, .slice none 0 0, .int .i64 0, .bool false, .bool false] 24).step hB; clear hB; obtain ⟨⟨p0, p1, p2, p3, p4, p5, p6, p7⟩, p8⟩ := K0.c8; obtain ⟨⟨q0, q1, q2, q3, q4, q5, q6, q7⟩, q8⟩ := K1.c8; have hlt0 := K0.lt; have hlt1 := K1.lt; have KK := Keep.mk (And.intro K0 K1); clear K0 K1)
      | (go_at_call 45; refine (ref_site _ _).mono ?_; rintro e w' ⟨rfl, rfl⟩)
      | (go_at_call 43; refine (ref_Copy _ s _ _ (HC.out.below KK.out.1.bel)).mono ?_; rintro e w2 ⟨A2, c2, rfl, hO, hB⟩; have HO := Keep.mk (hO.mono KK.out.1.bel.size); have K0 := KK.out.1.step hB; have K1 := KK.out.2.step hB; clear hO hB KK p0 p1 p2 p3 p4 p5 p6 p7 p8 q0 q1 q2 q3 q4 q5 q6 q7 q8; obtain ⟨⟨p0, p1, p2, p3, p4, p5, p6, p7⟩, p8⟩ := K0.c8; obtain ⟨⟨q0, q1, q2, q3, q4, q5, q6, q7⟩, q8⟩ := K1.c8; have hlt0 := K0.lt; have hlt1 := K1.lt; have KK := Keep.mk (And.intro K0 K1); clear K0 K1))
      exact bodyPost_ret (results_row_tmp rfl _ _ (w.heap.size + 1) 24 _ _ rfl ((site_stored KK.out.2 ({ s with ro := 2, ep := ep, so := src } : Site) A2 c2 HO.out).1.alloc _).blk Try.underlying24 rfl (by kernel_rfl)) rfl ⟨A2, c2, rfl, (site_stored KK.out.2 ({ s with ro := 2, ep := ep, so := src } : Site) A2 c2 HO.out).2.step (below_new (Below.refl _ _) _), ((site_stored KK.out.2 ({ s with ro := 2, ep := ep, so := src } : Site) A2 c2 HO.out).1.alloc _).bel⟩
    · rw [rejoin_ok s ep src 4 h1 hr he h4 ho hn]
      clear h1 hr h3 he h4 ho hn
      go_enter Try.func27, Try.ntmps27
      go_wp2_with (first
      | (go_at_call 32; refine (ref_Check _ s _ _ ((HC.out.alloc _).alloc _)).mono ?_; rintro e w1 ⟨rfl, hB⟩; have K0 := ((Held.new (Below.refl w.heap.size w) [.int .i64 s.nu, .int .i64 s.ro, .int .i64 s.ep, .int .i64 s.ap, .slice A s.li.length c, .int .i64 s.so, .bool s.al, .bool s.co] 24).alloc (.cells #[.int .i64 0, .int .i64 0, .int .i64 0, .int .i64 0, .slice none 0 0, .int .i64 0, .bool false, .bool false] 24)).step hB; have K1 := (Held.new1 w _ [.int .i64 0, .int .i64 0, .int .i64 0, .int .i64 0, .slice none 0 0, .int .i64 0, .bool false, .bool false] 24).step hB; clear hB; obtain ⟨⟨p0, p1, p2, p3, p4, p5, p6, p7⟩, p8⟩ := K0.c8; obtain ⟨⟨q0, q1, q2, q3, q4, q5, q6, q7⟩, q8⟩ := K1.c8; have hlt0 := K0.lt; have hlt1 := K1.lt; have KK := Keep.mk (And.intro K0 K1); clear K0 K1)
      | (go_at_call 45; refine (ref_site _ _).mono ?_; rintro e w' ⟨rfl, rfl⟩)
      | (go_at_call 43; refine (ref_Copy _ s _ _ (HC.out.below KK.out.1.bel)).mono ?_; rintro e w2 ⟨A2, c2, rfl, hO, hB⟩; have HO := Keep.mk (hO.mono KK.out.1.bel.size); have K0 := KK.out.1.step hB; have K1 := KK.out.2.step hB; clear hO hB KK p0 p1 p2 p3 p4 p5 p6 p7 p8 q0 q1 q2 q3 q4 q5 q6 q7 q8; obtain ⟨⟨p0, p1, p2, p3, p4, p5, p6, p7⟩, p8⟩ := K0.c8; obtain ⟨⟨q0, q1, q2, q3, q4, q5, q6, q7⟩, q8⟩ := K1.c8; have hlt0 := K0.lt; have hlt1 := K1.lt; have KK := Keep.mk (And.intro K0 K1); clear K0 K1))
      exact bodyPost_ret (results_row_tmp rfl _ _ (w.heap.size + 1) 24 _ _ rfl ((site_stored KK.out.2 ({ s with ro := 4, ep := ep, so := src } : Site) A2 c2 HO.out).1.alloc _).blk Try.underlying24 rfl (by kernel_rfl)) rfl ⟨A2, c2, rfl, (site_stored KK.out.2 ({ s with ro := 4, ep := ep, so := src } : Site) A2 c2 HO.out).2.step (below_new (Below.refl _ _) _), ((site_stored KK.out.2 ({ s with ro := 4, ep := ep, so := src } : Site) A2 c2 HO.out).1.alloc _).bel⟩
  · have hv : rejoinS s ep src = (zS, checkS s) := by simp [rejoinS, h1]
    rw [hv]
    have h1' : (checkS s != 0) = true := by simpa using h1
    clear h1 hv
    go_enter Try.func27, Try.ntmps27
    go_wp2_with (first
      | (go_at_call 32; refine (ref_Check _ s _ _ ((HC.out.alloc _).alloc _)).mono ?_; rintro e w1 ⟨rfl, hB⟩; have K0 := ((Held.new (Below.refl w.heap.size w) [.int .i64 s.nu, .int .i64 s.ro, .int .i64 s.ep, .int .i64 s.ap, .slice A s.li.length c, .int .i64 s.so, .bool s.al, .bool s.co] 24).alloc (.cells #[.int .i64 0, .int .i64 0, .int .i64 0, .int .i64 0, .slice none 0 0, .int .i64 0, .bool false, .bool false] 24)).step hB; have K1 := (Held.new1 w _ [.int .i64 0, .int .i64 0, .int .i64 0, .int .i64 0, .slice none 0 0, .int .i64 0, .bool false, .bool false] 24).step hB; clear hB; obtain ⟨⟨p0, p1, p2, p3, p4, p5, p6, p7⟩, p8⟩ := K0.c8; obtain ⟨⟨q0, q1, q2, q3, q4, q5, q6, q7⟩, q8⟩ := K1.c8; have hlt0 := K0.lt; have hlt1 := K1.lt; have KK := Keep.mk (And.intro K0 K1); clear K0 K1)
      | (go_at_call 45; refine (ref_site _ _).mono ?_; rintro e w' ⟨rfl, rfl⟩)
      | (go_at_call 43; refine (ref_Copy _ s _ _ (HC.out.below KK.out.1.bel)).mono ?_; rintro e w2 ⟨A2, c2, rfl, hO, hB⟩; have HO := Keep.mk (hO.mono KK.out.1.bel.size); have K0 := KK.out.1.step hB; have K1 := KK.out.2.step hB; clear hO hB KK p0 p1 p2 p3 p4 p5 p6 p7 p8 q0 q1 q2 q3 q4 q5 q6 q7 q8; obtain ⟨⟨p0, p1, p2, p3, p4, p5, p6, p7⟩, p8⟩ := K0.c8; obtain ⟨⟨q0, q1, q2, q3, q4, q5, q6, q7⟩, q8⟩ := K1.c8; have hlt0 := K0.lt; have hlt1 := K1.lt; have KK := Keep.mk (And.intro K0 K1); clear K0 K1))
    exact bodyPost_ret (results_row_tmp rfl _ _ (w.heap.size + 1) 24 _ _ rfl (site_stored KK.out.2 zS none 0 (OwnSp.nil _ w.heap.size)).1.blk Try.underlying24 rfl (by kernel_rfl)) rfl ⟨none, 0, rfl, (site_stored KK.out.2 zS none 0 (OwnSp.nil _ w.heap.size)).2, (site_stored KK.out.2 zS none 0 (OwnSp.nil _ w.heap.size)).1.bel⟩
/-! ### equality of spans -/
section
variable {P : Program} {w : World} {d : Nat} {xs ys : Array Value} {f : Field} {fs : List Field} {a b : Value} {r s : Bool}
theorem eqf_nil : (Op.eqFields d xs ys []).run P w = .ok true w := by simp [Op.eqFields]
theorem eqf_cons (hn : (f.name == "_") = false) (ha : (part f.type xs f.offset).run P w = .ok a w) (hb : (part f.type ys f.offset).run P w = .ok b w) (he : (Op.equalIn d f.type a b).run P w = .ok r w) (hr : (Op.eqFields d xs ys fs).run P w = .ok s w) : (Op.eqFields d xs ys (f :: fs)).run P w = .ok (r && s) w := by
  have hn' : f.name ≠ "_" := by simpa using hn
  rw [Op.eqFields]
  simp only [if_pos hn', Sem.run_bind, ha, hb, he, Result.andThen_ok]
  cases r
  · simp
  · simpa using hr
theorem eqIn_of {t : TypeId} {fs : Array Field} (hu : P.underlying t = some (.struct fs)) (hp : P.stoodInHeld t = false) (h : (Op.eqFields d xs ys fs.toList).run P w = .ok r w) : (Op.equalIn (d + 1) t (.agg xs) (.agg ys)).run P w = .ok r w := by
  have hf : P.fieldsOf t = fs := by simp [Program.fieldsOf, hu]
  rw [run_equalIn_struct (P := P) w d t xs ys (by rw [hf]; exact hu) hp, hf]
  exact h
end
def spanEq (x y : Span) : Bool := x.ep == y.ep && (x.fr == y.fr && (x.to_ == y.to_ && true))
theorem eqIn_span (d : Nat) (w : World) (x y : Span) : (Op.equalIn (d + 2) 61 (.agg #[.int .i64 x.ep, .int .i64 x.fr, .int .i64 x.to_]) (.agg #[.int .i64 y.ep, .int .i64 y.fr, .int .i64 y.to_])).run Try.prog w = .ok (spanEq x y) w := by
  refine eqIn_of Try.underlying61 (by kernel_rfl) ?_
  refine eqf_cons (by rfl) (by go_simp; rfl) (by go_simp; rfl) (by go_simp) ?_
  refine eqf_cons (by rfl) (by go_simp; rfl) (by go_simp; rfl) (by go_simp) ?_
  refine eqf_cons (by rfl) (by go_simp; rfl) (by go_simp; rfl) (by go_simp) eqf_nil
theorem neq_span (w : World) (x y : Span) : (binOp .neq 61 (.agg #[.int .i64 x.ep, .int .i64 x.fr, .int .i64 x.to_]) (.agg #[.int .i64 y.ep, .int .i64 y.fr, .int .i64 y.to_])).run Try.prog w = .ok (.bool (!spanEq x y)) w := by
  have h := eqIn_span 9998 w x y
  simp only [binOp]
  simp [Op.equal, Op.maxDepth, h]
theorem eql_span (w : World) (x y : Span) : (binOp .eql 61 (.agg #[.int .i64 x.ep, .int .i64 x.fr, .int .i64 x.to_]) (.agg #[.int .i64 y.ep, .int .i64 y.fr, .int .i64 y.to_])).run Try.prog w = .ok (.bool (spanEq x y)) w := by
  have h := eqIn_span 9998 w x y
  simp only [binOp]
  simp [Op.equal, Op.maxDepth, h]
theorem spanEq_iff (x y : Span) : spanEq x y = true ↔ x = y := by
  obtain ⟨a, b, c⟩ := x
  obtain ⟨d, e, f⟩ := y
  simp [spanEq]
/-- two lineages are equal -/
def sameL : List Span → List Span → Bool
  | [], [] => true
  | x :: r, y :: q => spanEq x y && sameL r q
  | _, _ => false
theorem sameL_iff : ∀ (a b : List Span), sameL a b = true ↔ a = b
  | [], [] => by simp [sameL]
  | [], _ :: _ => by simp [sameL]
  | _ :: _, [] => by simp [sameL]
  | x :: r, y :: q => by simp [sameL, spanEq_iff, sameL_iff r q]
theorem sameL_len {a b : List Span} (h : a.length ≠ b.length) : sameL a b = false := by
  cases hs : sameL a b
  · rfl
  · rw [sameL_iff] at hs; subst hs; exact absurd rfl h
set_option maxHeartbeats 1000000 in
theorem ref_SameLineage (w : World) (A B : Option Addr) (c d : Nat) (l m : List Span) (h : SpansAt w A c l) (h' : SpansAt w B d m) :
    Calls Try.prog 46 #[.slice A l.length c, .slice B m.length d] w fun e w' => e = .returned (.bool (sameL l m)) ∧ Below w.heap.size w w' := by
  have hl := h.len
  have hm := h'.len
  have HC := Keep.mk h
  have HD := Keep.mk h'
  clear h h'
  by_cases h0 : l.length = m.length
  · have h1 : ((l.length : Int) != (m.length : Int)) = false := by simp [h0]
    go_enter Try.func46, Try.ntmps46
    have H0 := Keep.mk h0
    clear h0
    go_wp2_with fail
    go_loopg [5] l.length (fun g i wr => ∃ k : Nat, g = l.length - k ∧ k ≤ l.length ∧ i = .int .i64 k ∧ Keep (sameL l m = sameL (l.drop k) (m.drop k)) ∧ Keep (Below w.heap.size w wr))
    case atStart => exact ⟨0, by omega, by omega, rfl, ⟨rfl⟩, ⟨Below.refl _ _⟩⟩
    case round =>
      obtain ⟨k, rfl, hk, rfl, H3, H8⟩ := hrel
      by_cases hlt : k < l.length
      · have hlt' : (k : Int) < (l.length : Int) := by omega
        have hltm : (k : Int) < (m.length : Int) := by have := H0.out; omega
        have hltn : k < m.length := by omega
        obtain ⟨b, o, hA, hb, c0, c1, c2⟩ := HC.out.at_ k hlt
        obtain ⟨b', o', hA', hb', d0, d1, d2⟩ := HD.out.at_ k hltn
        subst hA hA'
        rw [← H8.out.cell (p := ⟨b, _, none⟩) hb] at c0 c1 c2
        rw [← H8.out.cell (p := ⟨b', _, none⟩) hb'] at d0 d1 d2
        have hx := Keep.mk (drop_getD hlt rfl)
        have hy := Keep.mk (drop_getD hltn rfl)
        generalize l.getD k Span.z = x at c0 c1 c2 hx
        generalize m.getD k Span.z = y at d0 d1 d2 hy
        have HE := fun w => neq_span w x y
        cases hs : spanEq x y
        · rw [hs] at HE
          simp only [Bool.not_false] at HE
          have hs := Keep.mk hs
          go_wp2_with fail
          go_quiet (fail)
          go_wp2
          go_ret
          exact ⟨ret_bool (by rw [H3.out, hx.out, hy.out, sameL, hs.out]; rfl), (by repeat' (first | exact H8.out | (apply below_new) | (refine below_drewN ?_ _) | (refine below_drew ?_) | (refine below_set ?_ (by first | exact Nat.le_refl _ | omega | (simp; done) | (simp; omega)) _)))⟩
        · rw [hs] at HE
          simp only [Bool.not_true] at HE
          have hs := Keep.mk hs
          go_wp2_with fail
          go_quiet (fail)
          go_wp2
          go_roundg (l.length - (k + 1))
          case measure => omega
          case rel => exact ⟨k + 1, rfl, by omega, by go_num, ⟨by rw [H3.out, hx.out, hy.out, sameL, hs.out]; rfl⟩, ⟨(by repeat' (first | exact H8.out | (apply below_new) | (refine below_drewN ?_ _) | (refine below_drew ?_) | (refine below_set ?_ (by first | exact Nat.le_refl _ | omega | (simp; done) | (simp; omega)) _)))⟩⟩
      · have : k = l.length := by omega
        subst this
        go_wp2
        go_ret
        exact ⟨ret_bool (by rw [H3.out, List.drop_length, H0.out, List.drop_length]; rfl), H8.out⟩
  · have h1 : ((l.length : Int) != (m.length : Int)) = true := by simp; omega
    rw [sameL_len h0]
    clear h0
    go_enter Try.func46, Try.ntmps46
    go_wp2
    go_ret
    exact ⟨rfl, Below.refl _ _⟩
end Go.Proofs.Ytfkdcjkkmfhalaa
