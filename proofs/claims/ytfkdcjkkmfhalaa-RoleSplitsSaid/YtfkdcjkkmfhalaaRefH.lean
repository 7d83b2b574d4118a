/- Contract: the reference's Apply. -/
import Derived.Test.YtfkdcjkkmfhalaaRefG
namespace Go.Proofs.Ytfkdcjkkmfhalaa
open Go.RowKit
set_option linter.unusedSimpArgs false
set_option linter.unusedVariables false
theorem checkS_last {s : Site} (h : checkS s = 0) : (lastS s.li).to_ = s.ap := by
  unfold checkS at h
  split at h
  · split at h
    · split at h
      · split at h
        · split at h
          · exact absurd h (by decide)
          · split at h
            · exact absurd h (by decide)
            · rename_i hh; simpa using hh
        · exact absurd h (by decide)
      · exact absurd h (by decide)
    · exact absurd h (by decide)
  · exact absurd h (by decide)
theorem apply_err (s : Site) (e n : Int) (k : Int) (h1 : checkS s = 0) (h2 : (okA s = false ∧ k = 18) ∨ (okA s = true ∧ okAE s e = false ∧ k = 13) ∨ (okA s = true ∧ okAE s e = true ∧ (1073741824 < e ∨ 1073741824 < n) ∧ k = 2) ∨ (okA s = true ∧ okAE s e = true ∧ ¬ 1073741824 < e ∧ ¬ 1073741824 < n ∧ n ≤ s.ap ∧ k = 8)) : applyS s e n = (zS, k) := by
  unfold applyS
  rw [if_neg (not_not_intro h1)]
  rcases h2 with ⟨a, rfl⟩ | ⟨a, b, rfl⟩ | ⟨a, b, c, rfl⟩ | ⟨a, b, c, d, f, rfl⟩
  · rw [if_pos a]
  · rw [if_neg (by simp [a]), if_pos b]
  · rw [if_neg (by simp [a]), if_neg (by simp [b]), if_pos (by omega)]
  · rw [if_neg (by simp [a]), if_neg (by simp [b]), if_neg (by omega), if_pos (by omega)]
theorem apply_ok (s : Site) (e n : Int) (h1 : checkS s = 0) (a : okA s = true) (b : okAE s e = true) (c : ¬ 1073741824 < e) (d : ¬ 1073741824 < n) (f : ¬ n ≤ s.ap) : applyS s e n = ({ s with ep := e, ap := n, li := extendR s.li e n }, 0) := by
  unfold applyS
  rw [if_neg (not_not_intro h1), if_neg (by simp [a]), if_neg (by simp [b]), if_neg (by omega), if_neg (by omega), extendR_go _ _ _ (by rw [checkS_last h1]; omega), checkS_last h1]
set_option maxHeartbeats 2000000 in
theorem ref_Apply (w : World) (s : Site) (A : Option Addr) (c : Nat) (ep n : Int) (hls : s.li.length ≤ 1000000) (h : SpansAt w A c s.li) :
    Calls Try.prog 21 #[.agg #[.int .i64 s.nu, .int .i64 s.ro, .int .i64 s.ep, .int .i64 s.ap, .slice A s.li.length c, .int .i64 s.so, .bool s.al, .bool s.co], .int .i64 ep, .int .i64 n] w (SiteRes w.heap.size w (applyS s ep n)) := by
  have HC := Keep.mk h
  have hl := h.len
  clear h
  by_cases h1 : checkS s = 0
  · have h1' : (checkS s != 0) = false := by simp [h1]
    cases r1 : (s.ro == 1)
    · have g1 : (s.ro != 1) = true := by simp only [bne, r1, Bool.not_false]
      cases r2 : (s.ro == 2)
      · have g2 : (s.ro != 2) = true := by simp only [bne, r2, Bool.not_false]
        rw [apply_err s ep n 18 h1 (.inl ⟨by simp only [okA, r1, r2]; rfl, rfl⟩)]
        clear h1
        go_enter Try.func21, Try.ntmps21
        go_wp2_with (first
      | (go_at_call 32; refine (ref_Check _ s _ _ ((HC.out.alloc _).alloc _)).mono ?_; rintro e w1 ⟨rfl, hB⟩; have K0 := ((Held.new (Below.refl w.heap.size w) [.int .i64 s.nu, .int .i64 s.ro, .int .i64 s.ep, .int .i64 s.ap, .slice A s.li.length c, .int .i64 s.so, .bool s.al, .bool s.co] 24).alloc (.cells #[.int .i64 0, .int .i64 0, .int .i64 0, .int .i64 0, .slice none 0 0, .int .i64 0, .bool false, .bool false] 24)).step hB; have K1 := (Held.new1 w _ [.int .i64 0, .int .i64 0, .int .i64 0, .int .i64 0, .slice none 0 0, .int .i64 0, .bool false, .bool false] 24).step hB; clear hB; obtain ⟨⟨p0, p1, p2, p3, p4, p5, p6, p7⟩, p8⟩ := K0.c8; obtain ⟨⟨q0, q1, q2, q3, q4, q5, q6, q7⟩, q8⟩ := K1.c8; have hlt0 := K0.lt; have hlt1 := K1.lt; have KK := Keep.mk (And.intro K0 K1); clear K0 K1)
      | (go_at_call 45; refine (ref_site _ _).mono ?_; rintro e w' ⟨rfl, rfl⟩)
      | (go_at_call 43; refine (ref_Copy _ s _ _ (HC.out.below KK.out.1.bel)).mono ?_; rintro e w2 ⟨A2, c2, rfl, hO, hB⟩; have HO := Keep.mk (hO.mono KK.out.1.bel.size); have K0 := KK.out.1.step hB; have K1 := KK.out.2.step hB; clear hO hB KK p0 p1 p2 p3 p4 p5 p6 p7 p8 q0 q1 q2 q3 q4 q5 q6 q7 q8; obtain ⟨⟨p0, p1, p2, p3, p4, p5, p6, p7⟩, p8⟩ := K0.c8; obtain ⟨⟨q0, q1, q2, q3, q4, q5, q6, q7⟩, q8⟩ := K1.c8; have hlt0 := K0.lt; have hlt1 := K1.lt; have KK := Keep.mk (And.intro K0 K1); clear K0 K1))
        exact bodyPost_ret (results_row_tmp rfl _ _ (w.heap.size + 1) 24 _ _ rfl (site_stored KK.out.2 zS none 0 (OwnSp.nil _ w.heap.size)).1.blk Try.underlying24 rfl (by kernel_rfl)) rfl ⟨none, 0, rfl, (site_stored KK.out.2 zS none 0 (OwnSp.nil _ w.heap.size)).2, (site_stored KK.out.2 zS none 0 (OwnSp.nil _ w.heap.size)).1.bel⟩
      have g2 : (s.ro != 2) = false := by simp only [bne, r2, Bool.not_true]
      have ha : okA s = true := by simp only [okA, r1, r2]; rfl
      by_cases h3 : ep < s.ep
      · rw [apply_err s ep n 13 h1 (.inr (.inl ⟨ha, by simp [okAE]; omega, rfl⟩))]
        have g3 : decide (ep < s.ep) = true := by simp [h3]
        clear h1 ha h3
        go_enter Try.func21, Try.ntmps21
        go_wp2_with (first
      | (go_at_call 32; refine (ref_Check _ s _ _ ((HC.out.alloc _).alloc _)).mono ?_; rintro e w1 ⟨rfl, hB⟩; have K0 := ((Held.new (Below.refl w.heap.size w) [.int .i64 s.nu, .int .i64 s.ro, .int .i64 s.ep, .int .i64 s.ap, .slice A s.li.length c, .int .i64 s.so, .bool s.al, .bool s.co] 24).alloc (.cells #[.int .i64 0, .int .i64 0, .int .i64 0, .int .i64 0, .slice none 0 0, .int .i64 0, .bool false, .bool false] 24)).step hB; have K1 := (Held.new1 w _ [.int .i64 0, .int .i64 0, .int .i64 0, .int .i64 0, .slice none 0 0, .int .i64 0, .bool false, .bool false] 24).step hB; clear hB; obtain ⟨⟨p0, p1, p2, p3, p4, p5, p6, p7⟩, p8⟩ := K0.c8; obtain ⟨⟨q0, q1, q2, q3, q4, q5, q6, q7⟩, q8⟩ := K1.c8; have hlt0 := K0.lt; have hlt1 := K1.lt; have KK := Keep.mk (And.intro K0 K1); clear K0 K1)
      | (go_at_call 45; refine (ref_site _ _).mono ?_; rintro e w' ⟨rfl, rfl⟩)
      | (go_at_call 43; refine (ref_Copy _ s _ _ (HC.out.below KK.out.1.bel)).mono ?_; rintro e w2 ⟨A2, c2, rfl, hO, hB⟩; have HO := Keep.mk (hO.mono KK.out.1.bel.size); have K0 := KK.out.1.step hB; have K1 := KK.out.2.step hB; clear hO hB KK p0 p1 p2 p3 p4 p5 p6 p7 p8 q0 q1 q2 q3 q4 q5 q6 q7 q8; obtain ⟨⟨p0, p1, p2, p3, p4, p5, p6, p7⟩, p8⟩ := K0.c8; obtain ⟨⟨q0, q1, q2, q3, q4, q5, q6, q7⟩, q8⟩ := K1.c8; have hlt0 := K0.lt; have hlt1 := K1.lt; have KK := Keep.mk (And.intro K0 K1); clear K0 K1))
        exact bodyPost_ret (results_row_tmp rfl _ _ (w.heap.size + 1) 24 _ _ rfl (site_stored KK.out.2 zS none 0 (OwnSp.nil _ w.heap.size)).1.blk Try.underlying24 rfl (by kernel_rfl)) rfl ⟨none, 0, rfl, (site_stored KK.out.2 zS none 0 (OwnSp.nil _ w.heap.size)).2, (site_stored KK.out.2 zS none 0 (OwnSp.nil _ w.heap.size)).1.bel⟩
      have g3 : decide (ep < s.ep) = false := by simp [h3]
      cases r4 : (ep == 0)
      case true =>
        rw [apply_err s ep n 13 h1 (.inr (.inl ⟨ha, by simp only [okAE, bne, r4]; simp, rfl⟩))]
        clear h1 ha h3
        go_enter Try.func21, Try.ntmps21
        go_wp2_with (first
      | (go_at_call 32; refine (ref_Check _ s _ _ ((HC.out.alloc _).alloc _)).mono ?_; rintro e w1 ⟨rfl, hB⟩; have K0 := ((Held.new (Below.refl w.heap.size w) [.int .i64 s.nu, .int .i64 s.ro, .int .i64 s.ep, .int .i64 s.ap, .slice A s.li.length c, .int .i64 s.so, .bool s.al, .bool s.co] 24).alloc (.cells #[.int .i64 0, .int .i64 0, .int .i64 0, .int .i64 0, .slice none 0 0, .int .i64 0, .bool false, .bool false] 24)).step hB; have K1 := (Held.new1 w _ [.int .i64 0, .int .i64 0, .int .i64 0, .int .i64 0, .slice none 0 0, .int .i64 0, .bool false, .bool false] 24).step hB; clear hB; obtain ⟨⟨p0, p1, p2, p3, p4, p5, p6, p7⟩, p8⟩ := K0.c8; obtain ⟨⟨q0, q1, q2, q3, q4, q5, q6, q7⟩, q8⟩ := K1.c8; have hlt0 := K0.lt; have hlt1 := K1.lt; have KK := Keep.mk (And.intro K0 K1); clear K0 K1)
      | (go_at_call 45; refine (ref_site _ _).mono ?_; rintro e w' ⟨rfl, rfl⟩)
      | (go_at_call 43; refine (ref_Copy _ s _ _ (HC.out.below KK.out.1.bel)).mono ?_; rintro e w2 ⟨A2, c2, rfl, hO, hB⟩; have HO := Keep.mk (hO.mono KK.out.1.bel.size); have K0 := KK.out.1.step hB; have K1 := KK.out.2.step hB; clear hO hB KK p0 p1 p2 p3 p4 p5 p6 p7 p8 q0 q1 q2 q3 q4 q5 q6 q7 q8; obtain ⟨⟨p0, p1, p2, p3, p4, p5, p6, p7⟩, p8⟩ := K0.c8; obtain ⟨⟨q0, q1, q2, q3, q4, q5, q6, q7⟩, q8⟩ := K1.c8; have hlt0 := K0.lt; have hlt1 := K1.lt; have KK := Keep.mk (And.intro K0 K1); clear K0 K1))
        exact bodyPost_ret (results_row_tmp rfl _ _ (w.heap.size + 1) 24 _ _ rfl (site_stored KK.out.2 zS none 0 (OwnSp.nil _ w.heap.size)).1.blk Try.underlying24 rfl (by kernel_rfl)) rfl ⟨none, 0, rfl, (site_stored KK.out.2 zS none 0 (OwnSp.nil _ w.heap.size)).2, (site_stored KK.out.2 zS none 0 (OwnSp.nil _ w.heap.size)).1.bel⟩
      have he : okAE s ep = true := by
        have : s.ep ≤ ep := by omega
        simp only [okAE, bne, r4, r1, this]; simp
      by_cases h6 : 1073741824 < ep
      · rw [apply_err s ep n 2 h1 (.inr (.inr (.inl ⟨ha, he, .inl h6, rfl⟩)))]
        have g6 : decide (1073741824 < ep) = true := by simp [h6]
        clear h1 ha h3 he h6
        go_enter Try.func21, Try.ntmps21
        go_wp2_with (first
      | (go_at_call 32; refine (ref_Check _ s _ _ ((HC.out.alloc _).alloc _)).mono ?_; rintro e w1 ⟨rfl, hB⟩; have K0 := ((Held.new (Below.refl w.heap.size w) [.int .i64 s.nu, .int .i64 s.ro, .int .i64 s.ep, .int .i64 s.ap, .slice A s.li.length c, .int .i64 s.so, .bool s.al, .bool s.co] 24).alloc (.cells #[.int .i64 0, .int .i64 0, .int .i64 0, .int .i64 0, .slice none 0 0, .int .i64 0, .bool false, .bool false] 24)).step hB; have K1 := (Held.new1 w _ [.int .i64 0, .int .i64 0, .int .i64 0, .int .i64 0, .slice none 0 0, .int .i64 0, .bool false, .bool false] 24).step hB; clear hB; obtain ⟨⟨p0, p1, p2, p3, p4, p5, p6, p7⟩, p8⟩ := K0.c8; obtain ⟨⟨q0, q1, q2, q3, q4, q5, q6, q7⟩, q8⟩ := K1.c8; have hlt0 := K0.lt; have hlt1 := K1.lt; have KK := Keep.mk (And.intro K0 K1); clear K0 K1)
      | (go_at_call 45; refine (ref_site _ _).mono ?_; rintro e w' ⟨rfl, rfl⟩)
      | (go_at_call 43; refine (ref_Copy _ s _ _ (HC.out.below KK.out.1.bel)).mono ?_; rintro e w2 ⟨A2, c2, rfl, hO, hB⟩; have HO := Keep.mk (hO.mono KK.out.1.bel.size); have K0 := KK.out.1.step hB; have K1 := KK.out.2.step hB; clear hO hB KK p0 p1 p2 p3 p4 p5 p6 p7 p8 q0 q1 q2 q3 q4 q5 q6 q7 q8; obtain ⟨⟨p0, p1, p2, p3, p4, p5, p6, p7⟩, p8⟩ := K0.c8; obtain ⟨⟨q0, q1, q2, q3, q4, q5, q6, q7⟩, q8⟩ := K1.c8; have hlt0 := K0.lt; have hlt1 := K1.lt; have KK := Keep.mk (And.intro K0 K1); clear K0 K1))
        exact bodyPost_ret (results_row_tmp rfl _ _ (w.heap.size + 1) 24 _ _ rfl (site_stored KK.out.2 zS none 0 (OwnSp.nil _ w.heap.size)).1.blk Try.underlying24 rfl (by kernel_rfl)) rfl ⟨none, 0, rfl, (site_stored KK.out.2 zS none 0 (OwnSp.nil _ w.heap.size)).2, (site_stored KK.out.2 zS none 0 (OwnSp.nil _ w.heap.size)).1.bel⟩
      have g6 : decide (1073741824 < ep) = false := by simp [h6]
      by_cases h7 : 1073741824 < n
      · rw [apply_err s ep n 2 h1 (.inr (.inr (.inl ⟨ha, he, .inr h7, rfl⟩)))]
        have g7 : decide (1073741824 < n) = true := by simp [h7]
        clear h1 ha h3 he h6 h7
        go_enter Try.func21, Try.ntmps21
        go_wp2_with (first
      | (go_at_call 32; refine (ref_Check _ s _ _ ((HC.out.alloc _).alloc _)).mono ?_; rintro e w1 ⟨rfl, hB⟩; have K0 := ((Held.new (Below.refl w.heap.size w) [.int .i64 s.nu, .int .i64 s.ro, .int .i64 s.ep, .int .i64 s.ap, .slice A s.li.length c, .int .i64 s.so, .bool s.al, .bool s.co] 24).alloc (.cells #[.int .i64 0, .int .i64 0, .int .i64 0, .int .i64 0, .slice none 0 0, .int .i64 0, .bool false, .bool false] 24)).step hB; have K1 := (Held.new1 w _ [.int .i64 0, .int .i64 0, .int .i64 0, .int .i64 0, .slice none 0 0, .int .i64 0, .bool false, .bool false] 24).step hB; clear hB; obtain ⟨⟨p0, p1, p2, p3, p4, p5, p6, p7⟩, p8⟩ := K0.c8; obtain ⟨⟨q0, q1, q2, q3, q4, q5, q6, q7⟩, q8⟩ := K1.c8; have hlt0 := K0.lt; have hlt1 := K1.lt; have KK := Keep.mk (And.intro K0 K1); clear K0 K1)
      | (go_at_call 45; refine (ref_site _ _).mono ?_; rintro e w' ⟨rfl, rfl⟩)
      | (go_at_call 43; refine (ref_Copy _ s _ _ (HC.out.below KK.out.1.bel)).mono ?_; rintro e w2 ⟨A2, c2, rfl, hO, hB⟩; have HO := Keep.mk (hO.mono KK.out.1.bel.size); have K0 := KK.out.1.step hB; have K1 := KK.out.2.step hB; clear hO hB KK p0 p1 p2 p3 p4 p5 p6 p7 p8 q0 q1 q2 q3 q4 q5 q6 q7 q8; obtain ⟨⟨p0, p1, p2, p3, p4, p5, p6, p7⟩, p8⟩ := K0.c8; obtain ⟨⟨q0, q1, q2, q3, q4, q5, q6, q7⟩, q8⟩ := K1.c8; have hlt0 := K0.lt; have hlt1 := K1.lt; have KK := Keep.mk (And.intro K0 K1); clear K0 K1))
        exact bodyPost_ret (results_row_tmp rfl _ _ (w.heap.size + 1) 24 _ _ rfl (site_stored KK.out.2 zS none 0 (OwnSp.nil _ w.heap.size)).1.blk Try.underlying24 rfl (by kernel_rfl)) rfl ⟨none, 0, rfl, (site_stored KK.out.2 zS none 0 (OwnSp.nil _ w.heap.size)).2, (site_stored KK.out.2 zS none 0 (OwnSp.nil _ w.heap.size)).1.bel⟩
      have g7 : decide (1073741824 < n) = false := by simp [h7]
      by_cases h8 : n ≤ s.ap
      · rw [apply_err s ep n 8 h1 (.inr (.inr (.inr ⟨ha, he, h6, h7, h8, rfl⟩)))]
        have g8 : decide (n ≤ s.ap) = true := by simp [h8]
        clear h1 ha h3 he h6 h7 h8
        go_enter Try.func21, Try.ntmps21
        go_wp2_with (first
      | (go_at_call 32; refine (ref_Check _ s _ _ ((HC.out.alloc _).alloc _)).mono ?_; rintro e w1 ⟨rfl, hB⟩; have K0 := ((Held.new (Below.refl w.heap.size w) [.int .i64 s.nu, .int .i64 s.ro, .int .i64 s.ep, .int .i64 s.ap, .slice A s.li.length c, .int .i64 s.so, .bool s.al, .bool s.co] 24).alloc (.cells #[.int .i64 0, .int .i64 0, .int .i64 0, .int .i64 0, .slice none 0 0, .int .i64 0, .bool false, .bool false] 24)).step hB; have K1 := (Held.new1 w _ [.int .i64 0, .int .i64 0, .int .i64 0, .int .i64 0, .slice none 0 0, .int .i64 0, .bool false, .bool false] 24).step hB; clear hB; obtain ⟨⟨p0, p1, p2, p3, p4, p5, p6, p7⟩, p8⟩ := K0.c8; obtain ⟨⟨q0, q1, q2, q3, q4, q5, q6, q7⟩, q8⟩ := K1.c8; have hlt0 := K0.lt; have hlt1 := K1.lt; have KK := Keep.mk (And.intro K0 K1); clear K0 K1)
      | (go_at_call 45; refine (ref_site _ _).mono ?_; rintro e w' ⟨rfl, rfl⟩)
      | (go_at_call 43; refine (ref_Copy _ s _ _ (HC.out.below KK.out.1.bel)).mono ?_; rintro e w2 ⟨A2, c2, rfl, hO, hB⟩; have HO := Keep.mk (hO.mono KK.out.1.bel.size); have K0 := KK.out.1.step hB; have K1 := KK.out.2.step hB; clear hO hB KK p0 p1 p2 p3 p4 p5 p6 p7 p8 q0 q1 q2 q3 q4 q5 q6 q7 q8; obtain ⟨⟨p0, p1, p2, p3, p4, p5, p6, p7⟩, p8⟩ := K0.c8; obtain ⟨⟨q0, q1, q2, q3, q4, q5, q6, q7⟩, q8⟩ := K1.c8; have hlt0 := K0.lt; have hlt1 := K1.lt; have KK := Keep.mk (And.intro K0 K1); clear K0 K1))
        exact bodyPost_ret (results_row_tmp rfl _ _ (w.heap.size + 1) 24 _ _ rfl (site_stored KK.out.2 zS none 0 (OwnSp.nil _ w.heap.size)).1.blk Try.underlying24 rfl (by kernel_rfl)) rfl ⟨none, 0, rfl, (site_stored KK.out.2 zS none 0 (OwnSp.nil _ w.heap.size)).2, (site_stored KK.out.2 zS none 0 (OwnSp.nil _ w.heap.size)).1.bel⟩
      have g8 : decide (n ≤ s.ap) = false := by simp [h8]
      rw [apply_ok s ep n h1 ha he h6 h7 h8]
      have HBD := Keep.mk (show 0 ≤ (lastS s.li).to_ ∧ (lastS s.li).to_ ≤ 1073741824 by rw [checkS_last h1]; have := checkS_zero h1; omega)
      clear h1 ha h3 he h6 h7 h8
      go_enter Try.func21, Try.ntmps21
      go_wp2_with (first
      | (go_at_call 32; refine (ref_Check _ s _ _ ((HC.out.alloc _).alloc _)).mono ?_; rintro e w1 ⟨rfl, hB⟩; have K0 := ((Held.new (Below.refl w.heap.size w) [.int .i64 s.nu, .int .i64 s.ro, .int .i64 s.ep, .int .i64 s.ap, .slice A s.li.length c, .int .i64 s.so, .bool s.al, .bool s.co] 24).alloc (.cells #[.int .i64 0, .int .i64 0, .int .i64 0, .int .i64 0, .slice none 0 0, .int .i64 0, .bool false, .bool false] 24)).step hB; have K1 := (Held.new1 w _ [.int .i64 0, .int .i64 0, .int .i64 0, .int .i64 0, .slice none 0 0, .int .i64 0, .bool false, .bool false] 24).step hB; clear hB; obtain ⟨⟨p0, p1, p2, p3, p4, p5, p6, p7⟩, p8⟩ := K0.c8; obtain ⟨⟨q0, q1, q2, q3, q4, q5, q6, q7⟩, q8⟩ := K1.c8; have hlt0 := K0.lt; have hlt1 := K1.lt; have KK := Keep.mk (And.intro K0 K1); clear K0 K1)
      | (go_at_call 45; refine (ref_site _ _).mono ?_; rintro e w' ⟨rfl, rfl⟩)
      | (go_at_call 43; refine (ref_Copy _ s _ _ (HC.out.below KK.out.1.bel)).mono ?_; rintro e w2 ⟨A2, c2, rfl, hO, hB⟩; have HO := Keep.mk (hO.mono KK.out.1.bel.size); have K0 := KK.out.1.step hB; have K1 := KK.out.2.step hB; clear hO hB KK p0 p1 p2 p3 p4 p5 p6 p7 p8 q0 q1 q2 q3 q4 q5 q6 q7 q8; obtain ⟨⟨p0, p1, p2, p3, p4, p5, p6, p7⟩, p8⟩ := K0.c8; obtain ⟨⟨q0, q1, q2, q3, q4, q5, q6, q7⟩, q8⟩ := K1.c8; have hlt0 := K0.lt; have hlt1 := K1.lt; have KK := Keep.mk (And.intro K0 K1); clear K0 K1)
      | (go_at_call 52; refine (ref_extend _ A c s.li ep n HBD.out hls (HC.out.below (below_new KK.out.1.bel (.cells #[.int .i64 s.nu, .int .i64 s.ro, .int .i64 s.ep, .int .i64 s.ap, .slice A2 s.li.length c2, .int .i64 s.so, .bool s.al, .bool s.co] 24)))).mono ?_; rintro e w4 ⟨A4, c4, rfl, hO4, hB4⟩; have K9 := (Held.new KK.out.1.bel [.int .i64 s.nu, .int .i64 s.ro, .int .i64 s.ep, .int .i64 s.ap, .slice A2 s.li.length c2, .int .i64 s.so, .bool s.al, .bool s.co] 24).step hB4; have HO4 := Keep.mk (hO4.mono (Nat.le_trans KK.out.1.bel.size (by simp))); have K0 := (KK.out.1.alloc (.cells #[.int .i64 s.nu, .int .i64 s.ro, .int .i64 s.ep, .int .i64 s.ap, .slice A2 s.li.length c2, .int .i64 s.so, .bool s.al, .bool s.co] 24)).step hB4; have K1 := (KK.out.2.alloc (.cells #[.int .i64 s.nu, .int .i64 s.ro, .int .i64 s.ep, .int .i64 s.ap, .slice A2 s.li.length c2, .int .i64 s.so, .bool s.al, .bool s.co] 24)).step hB4; obtain ⟨⟨x0, x1, x2, x3, x4, x5, x6, x7⟩, x8⟩ := K9.c8; have hge := KK.out.1.bel.size; have hne : w.heap.size + 1 ≠ w2.heap.size := (by have := KK.out.2.lt; omega); have HK9 := Keep.mk K9; clear hO4 hB4 KK K9 p0 p1 p2 p3 p4 p5 p6 p7 p8 q0 q1 q2 q3 q4 q5 q6 q7 q8; obtain ⟨⟨p0, p1, p2, p3, p4, p5, p6, p7⟩, p8⟩ := K0.c8; obtain ⟨⟨q0, q1, q2, q3, q4, q5, q6, q7⟩, q8⟩ := K1.c8; have hlt0 := K0.lt; have hlt1 := K1.lt; have KK := Keep.mk (And.intro K0 K1); clear K0 K1))
      exact bodyPost_ret (results_row_tmp rfl _ _ (w.heap.size + 1) 24 _ _ rfl (site_stored (((KK.out.2.setOther hge hne _).setOther hge hne _).setOther hge hne _) ({ s with ep := ep, ap := n, li := extendR s.li ep n } : Site) A4 c4 (((HO4.out.setOther (j := 2) HK9.out.blk (by decide) (.int .i64 ep)).setOther (j := 3) (HK9.out.set 2 (.int .i64 ep)).blk (by decide) (.int .i64 n)).setOther (j := 4) ((HK9.out.set 2 (.int .i64 ep)).set 3 (.int .i64 n)).blk (by decide) (.slice A4 (extendR s.li ep n).length c4))).1.blk Try.underlying24 rfl (by kernel_rfl)) rfl ⟨A4, c4, rfl, (site_stored (((KK.out.2.setOther hge hne _).setOther hge hne _).setOther hge hne _) ({ s with ep := ep, ap := n, li := extendR s.li ep n } : Site) A4 c4 (((HO4.out.setOther (j := 2) HK9.out.blk (by decide) (.int .i64 ep)).setOther (j := 3) (HK9.out.set 2 (.int .i64 ep)).blk (by decide) (.int .i64 n)).setOther (j := 4) ((HK9.out.set 2 (.int .i64 ep)).set 3 (.int .i64 n)).blk (by decide) (.slice A4 (extendR s.li ep n).length c4))).2, (site_stored (((KK.out.2.setOther hge hne _).setOther hge hne _).setOther hge hne _) ({ s with ep := ep, ap := n, li := extendR s.li ep n } : Site) A4 c4 (((HO4.out.setOther (j := 2) HK9.out.blk (by decide) (.int .i64 ep)).setOther (j := 3) (HK9.out.set 2 (.int .i64 ep)).blk (by decide) (.int .i64 n)).setOther (j := 4) ((HK9.out.set 2 (.int .i64 ep)).set 3 (.int .i64 n)).blk (by decide) (.slice A4 (extendR s.li ep n).length c4))).1.bel⟩
    · have g1 : (s.ro != 1) = false := by simp only [bne, r1, Bool.not_true]
      have ha : okA s = true := by simp only [okA, r1]; rfl
      by_cases h3 : ep < s.ep
      · rw [apply_err s ep n 13 h1 (.inr (.inl ⟨ha, by simp [okAE]; omega, rfl⟩))]
        have g3 : decide (ep < s.ep) = true := by simp [h3]
        clear h1 ha h3
        go_enter Try.func21, Try.ntmps21
        go_wp2_with (first
      | (go_at_call 32; refine (ref_Check _ s _ _ ((HC.out.alloc _).alloc _)).mono ?_; rintro e w1 ⟨rfl, hB⟩; have K0 := ((Held.new (Below.refl w.heap.size w) [.int .i64 s.nu, .int .i64 s.ro, .int .i64 s.ep, .int .i64 s.ap, .slice A s.li.length c, .int .i64 s.so, .bool s.al, .bool s.co] 24).alloc (.cells #[.int .i64 0, .int .i64 0, .int .i64 0, .int .i64 0, .slice none 0 0, .int .i64 0, .bool false, .bool false] 24)).step hB; have K1 := (Held.new1 w _ [.int .i64 0, .int .i64 0, .int .i64 0, .int .i64 0, .slice none 0 0, .int .i64 0, .bool false, .bool false] 24).step hB; clear hB; obtain ⟨⟨p0, p1, p2, p3, p4, p5, p6, p7⟩, p8⟩ := K0.c8; obtain ⟨⟨q0, q1, q2, q3, q4, q5, q6, q7⟩, q8⟩ := K1.c8; have hlt0 := K0.lt; have hlt1 := K1.lt; have KK := Keep.mk (And.intro K0 K1); clear K0 K1)
      | (go_at_call 45; refine (ref_site _ _).mono ?_; rintro e w' ⟨rfl, rfl⟩)
      | (go_at_call 43; refine (ref_Copy _ s _ _ (HC.out.below KK.out.1.bel)).mono ?_; rintro e w2 ⟨A2, c2, rfl, hO, hB⟩; have HO := Keep.mk (hO.mono KK.out.1.bel.size); have K0 := KK.out.1.step hB; have K1 := KK.out.2.step hB; clear hO hB KK p0 p1 p2 p3 p4 p5 p6 p7 p8 q0 q1 q2 q3 q4 q5 q6 q7 q8; obtain ⟨⟨p0, p1, p2, p3, p4, p5, p6, p7⟩, p8⟩ := K0.c8; obtain ⟨⟨q0, q1, q2, q3, q4, q5, q6, q7⟩, q8⟩ := K1.c8; have hlt0 := K0.lt; have hlt1 := K1.lt; have KK := Keep.mk (And.intro K0 K1); clear K0 K1))
        exact bodyPost_ret (results_row_tmp rfl _ _ (w.heap.size + 1) 24 _ _ rfl (site_stored KK.out.2 zS none 0 (OwnSp.nil _ w.heap.size)).1.blk Try.underlying24 rfl (by kernel_rfl)) rfl ⟨none, 0, rfl, (site_stored KK.out.2 zS none 0 (OwnSp.nil _ w.heap.size)).2, (site_stored KK.out.2 zS none 0 (OwnSp.nil _ w.heap.size)).1.bel⟩
      have g3 : decide (ep < s.ep) = false := by simp [h3]
      cases r4 : (ep == 0)
      case true =>
        rw [apply_err s ep n 13 h1 (.inr (.inl ⟨ha, by simp only [okAE, bne, r4]; simp, rfl⟩))]
        clear h1 ha h3
        go_enter Try.func21, Try.ntmps21
        go_wp2_with (first
      | (go_at_call 32; refine (ref_Check _ s _ _ ((HC.out.alloc _).alloc _)).mono ?_; rintro e w1 ⟨rfl, hB⟩; have K0 := ((Held.new (Below.refl w.heap.size w) [.int .i64 s.nu, .int .i64 s.ro, .int .i64 s.ep, .int .i64 s.ap, .slice A s.li.length c, .int .i64 s.so, .bool s.al, .bool s.co] 24).alloc (.cells #[.int .i64 0, .int .i64 0, .int .i64 0, .int .i64 0, .slice none 0 0, .int .i64 0, .bool false, .bool false] 24)).step hB; have K1 := (Held.new1 w _ [.int .i64 0, .int .i64 0, .int .i64 0, .int .i64 0, .slice none 0 0, .int .i64 0, .bool false, .bool false] 24).step hB; clear hB; obtain ⟨⟨p0, p1, p2, p3, p4, p5, p6, p7⟩, p8⟩ := K0.c8; obtain ⟨⟨q0, q1, q2, q3, q4, q5, q6, q7⟩, q8⟩ := K1.c8; have hlt0 := K0.lt; have hlt1 := K1.lt; have KK := Keep.mk (And.intro K0 K1); clear K0 K1)
      | (go_at_call 45; refine (ref_site _ _).mono ?_; rintro e w' ⟨rfl, rfl⟩)
      | (go_at_call 43; refine (ref_Copy _ s _ _ (HC.out.below KK.out.1.bel)).mono ?_; rintro e w2 ⟨A2, c2, rfl, hO, hB⟩; have HO := Keep.mk (hO.mono KK.out.1.bel.size); have K0 := KK.out.1.step hB; have K1 := KK.out.2.step hB; clear hO hB KK p0 p1 p2 p3 p4 p5 p6 p7 p8 q0 q1 q2 q3 q4 q5 q6 q7 q8; obtain ⟨⟨p0, p1, p2, p3, p4, p5, p6, p7⟩, p8⟩ := K0.c8; obtain ⟨⟨q0, q1, q2, q3, q4, q5, q6, q7⟩, q8⟩ := K1.c8; have hlt0 := K0.lt; have hlt1 := K1.lt; have KK := Keep.mk (And.intro K0 K1); clear K0 K1))
        exact bodyPost_ret (results_row_tmp rfl _ _ (w.heap.size + 1) 24 _ _ rfl (site_stored KK.out.2 zS none 0 (OwnSp.nil _ w.heap.size)).1.blk Try.underlying24 rfl (by kernel_rfl)) rfl ⟨none, 0, rfl, (site_stored KK.out.2 zS none 0 (OwnSp.nil _ w.heap.size)).2, (site_stored KK.out.2 zS none 0 (OwnSp.nil _ w.heap.size)).1.bel⟩
      cases r5 : (ep == s.ep)
      · have g5 : (ep != s.ep) = true := by simp only [bne, r5, Bool.not_false]
        rw [apply_err s ep n 13 h1 (.inr (.inl ⟨ha, by simp only [okAE, bne, r1, r5]; simp, rfl⟩))]
        clear h1 ha h3
        go_enter Try.func21, Try.ntmps21
        go_wp2_with (first
      | (go_at_call 32; refine (ref_Check _ s _ _ ((HC.out.alloc _).alloc _)).mono ?_; rintro e w1 ⟨rfl, hB⟩; have K0 := ((Held.new (Below.refl w.heap.size w) [.int .i64 s.nu, .int .i64 s.ro, .int .i64 s.ep, .int .i64 s.ap, .slice A s.li.length c, .int .i64 s.so, .bool s.al, .bool s.co] 24).alloc (.cells #[.int .i64 0, .int .i64 0, .int .i64 0, .int .i64 0, .slice none 0 0, .int .i64 0, .bool false, .bool false] 24)).step hB; have K1 := (Held.new1 w _ [.int .i64 0, .int .i64 0, .int .i64 0, .int .i64 0, .slice none 0 0, .int .i64 0, .bool false, .bool false] 24).step hB; clear hB; obtain ⟨⟨p0, p1, p2, p3, p4, p5, p6, p7⟩, p8⟩ := K0.c8; obtain ⟨⟨q0, q1, q2, q3, q4, q5, q6, q7⟩, q8⟩ := K1.c8; have hlt0 := K0.lt; have hlt1 := K1.lt; have KK := Keep.mk (And.intro K0 K1); clear K0 K1)
      | (go_at_call 45; refine (ref_site _ _).mono ?_; rintro e w' ⟨rfl, rfl⟩)
      | (go_at_call 43; refine (ref_Copy _ s _ _ (HC.out.below KK.out.1.bel)).mono ?_; rintro e w2 ⟨A2, c2, rfl, hO, hB⟩; have HO := Keep.mk (hO.mono KK.out.1.bel.size); have K0 := KK.out.1.step hB; have K1 := KK.out.2.step hB; clear hO hB KK p0 p1 p2 p3 p4 p5 p6 p7 p8 q0 q1 q2 q3 q4 q5 q6 q7 q8; obtain ⟨⟨p0, p1, p2, p3, p4, p5, p6, p7⟩, p8⟩ := K0.c8; obtain ⟨⟨q0, q1, q2, q3, q4, q5, q6, q7⟩, q8⟩ := K1.c8; have hlt0 := K0.lt; have hlt1 := K1.lt; have KK := Keep.mk (And.intro K0 K1); clear K0 K1))
        exact bodyPost_ret (results_row_tmp rfl _ _ (w.heap.size + 1) 24 _ _ rfl (site_stored KK.out.2 zS none 0 (OwnSp.nil _ w.heap.size)).1.blk Try.underlying24 rfl (by kernel_rfl)) rfl ⟨none, 0, rfl, (site_stored KK.out.2 zS none 0 (OwnSp.nil _ w.heap.size)).2, (site_stored KK.out.2 zS none 0 (OwnSp.nil _ w.heap.size)).1.bel⟩
      have g5 : (ep != s.ep) = false := by simp only [bne, r5, Bool.not_true]
      have he : okAE s ep = true := by
        have : s.ep ≤ ep := by omega
        simp only [okAE, bne, r4, r1, r5, this]; simp
      by_cases h6 : 1073741824 < ep
      · rw [apply_err s ep n 2 h1 (.inr (.inr (.inl ⟨ha, he, .inl h6, rfl⟩)))]
        have g6 : decide (1073741824 < ep) = true := by simp [h6]
        clear h1 ha h3 he h6
        go_enter Try.func21, Try.ntmps21
        go_wp2_with (first
      | (go_at_call 32; refine (ref_Check _ s _ _ ((HC.out.alloc _).alloc _)).mono ?_; rintro e w1 ⟨rfl, hB⟩; have K0 := ((Held.new (Below.refl w.heap.size w) [.int .i64 s.nu, .int .i64 s.ro, .int .i64 s.ep, .int .i64 s.ap, .slice A s.li.length c, .int .i64 s.so, .bool s.al, .bool s.co] 24).alloc (.cells #[.int .i64 0, .int .i64 0, .int .i64 0, .int .i64 0, .slice none 0 0, .int .i64 0, .bool false, .bool false] 24)).step hB; have K1 := (Held.new1 w _ [.int .i64 0, .int .i64 0, .int .i64 0, .int .i64 0, .slice none 0 0, .int .i64 0, .bool false, .bool false] 24).step hB; clear hB; obtain ⟨⟨p0, p1, p2, p3, p4, p5, p6, p7⟩, p8⟩ := K0.c8; obtain ⟨⟨q0, q1, q2, q3, q4, q5, q6, q7⟩, q8⟩ := K1.c8; have hlt0 := K0.lt; have hlt1 := K1.lt; have KK := Keep.mk (And.intro K0 K1); clear K0 K1)
      | (go_at_call 45; refine (ref_site _ _).mono ?_; rintro e w' ⟨rfl, rfl⟩)
      | (go_at_call 43; refine (ref_Copy _ s _ _ (HC.out.below KK.out.1.bel)).mono ?_; rintro e w2 ⟨A2, c2, rfl, hO, hB⟩; have HO := Keep.mk (hO.mono KK.out.1.bel.size); have K0 := KK.out.1.step hB; have K1 := KK.out.2.step hB; clear hO hB KK p0 p1 p2 p3 p4 p5 p6 p7 p8 q0 q1 q2 q3 q4 q5 q6 q7 q8; obtain ⟨⟨p0, p1, p2, p3, p4, p5, p6, p7⟩, p8⟩ := K0.c8; obtain ⟨⟨q0, q1, q2, q3, q4, q5, q6, q7⟩, q8⟩ := K1.c8; have hlt0 := K0.lt; have hlt1 := K1.lt; have KK := Keep.mk (And.intro K0 K1); clear K0 K1))
        exact bodyPost_ret (results_row_tmp rfl _ _ (w.heap.size + 1) 24 _ _ rfl (site_stored KK.out.2 zS none 0 (OwnSp.nil _ w.heap.size)).1.blk Try.underlying24 rfl (by kernel_rfl)) rfl ⟨none, 0, rfl, (site_stored KK.out.2 zS none 0 (OwnSp.nil _ w.heap.size)).2, (site_stored KK.out.2 zS none 0 (OwnSp.nil _ w.heap.size)).1.bel⟩
      have g6 : decide (1073741824 < ep) = false := by simp [h6]
      by_cases h7 : 1073741824 < n
      · rw [apply_err s ep n 2 h1 (.inr (.inr (.inl ⟨ha, he, .inr h7, rfl⟩)))]
        have g7 : decide (1073741824 < n) = true := by simp [h7]
        clear h1 ha h3 he h6 h7
        go_enter Try.func21, Try.ntmps21
        go_wp2_with (first
      | (go_at_call 32; refine (ref_Check _ s _ _ ((HC.out.alloc _).alloc _)).mono ?_; rintro e w1 ⟨rfl, hB⟩; have K0 := ((Held.new (Below.refl w.heap.size w) [.int .i64 s.nu, .int .i64 s.ro, .int .i64 s.ep, .int .i64 s.ap, .slice A s.li.length c, .int .i64 s.so, .bool s.al, .bool s.co] 24).alloc (.cells #[.int .i64 0, .int .i64 0, .int .i64 0, .int .i64 0, .slice none 0 0, .int .i64 0, .bool false, .bool false] 24)).step hB; have K1 := (Held.new1 w _ [.int .i64 0, .int .i64 0, .int .i64 0, .int .i64 0, .slice none 0 0, .int .i64 0, .bool false, .bool false] 24).step hB; clear hB; obtain ⟨⟨p0, p1, p2, p3, p4, p5, p6, p7⟩, p8⟩ := K0.c8; obtain ⟨⟨q0, q1, q2, q3, q4, q5, q6, q7⟩, q8⟩ := K1.c8; have hlt0 := K0.lt; have hlt1 := K1.lt; have KK := Keep.mk (And.intro K0 K1); clear K0 K1)
      | (go_at_call 45; refine (ref_site _ _).mono ?_; rintro e w' ⟨rfl, rfl⟩)
      | (go_at_call 43; refine (ref_Copy _ s _ _ (HC.out.below KK.out.1.bel)).mono ?_; rintro e w2 ⟨A2, c2, rfl, hO, hB⟩; have HO := Keep.mk (hO.mono KK.out.1.bel.size); have K0 := KK.out.1.step hB; have K1 := KK.out.2.step hB; clear hO hB KK p0 p1 p2 p3 p4 p5 p6 p7 p8 q0 q1 q2 q3 q4 q5 q6 q7 q8; obtain ⟨⟨p0, p1, p2, p3, p4, p5, p6, p7⟩, p8⟩ := K0.c8; obtain ⟨⟨q0, q1, q2, q3, q4, q5, q6, q7⟩, q8⟩ := K1.c8; have hlt0 := K0.lt; have hlt1 := K1.lt; have KK := Keep.mk (And.intro K0 K1); clear K0 K1))
        exact bodyPost_ret (results_row_tmp rfl _ _ (w.heap.size + 1) 24 _ _ rfl (site_stored KK.out.2 zS none 0 (OwnSp.nil _ w.heap.size)).1.blk Try.underlying24 rfl (by kernel_rfl)) rfl ⟨none, 0, rfl, (site_stored KK.out.2 zS none 0 (OwnSp.nil _ w.heap.size)).2, (site_stored KK.out.2 zS none 0 (OwnSp.nil _ w.heap.size)).1.bel⟩
      have g7 : decide (1073741824 < n) = false := by simp [h7]
      by_cases h8 : n ≤ s.ap
      · rw [apply_err s ep n 8 h1 (.inr (.inr (.inr ⟨ha, he, h6, h7, h8, rfl⟩)))]
        have g8 : decide (n ≤ s.ap) = true := by simp [h8]
        clear h1 ha h3 he h6 h7 h8
        go_enter Try.func21, Try.ntmps21
        go_wp2_with (first
      | (go_at_call 32; refine (ref_Check _ s _ _ ((HC.out.alloc _).alloc _)).mono ?_; rintro e w1 ⟨rfl, hB⟩; have K0 := ((Held.new (Below.refl w.heap.size w) [.int .i64 s.nu, .int .i64 s.ro, .int .i64 s.ep, .int .i64 s.ap, .slice A s.li.length c, .int .i64 s.so, .bool s.al, .bool s.co] 24).alloc (.cells #[.int .i64 0, .int .i64 0, .int .i64 0, .int .i64 0, .slice none 0 0, .int .i64 0, .bool false, .bool false] 24)).step hB; have K1 := (Held.new1 w _ [.int .i64 0, .int .i64 0, .int .i64 0, .int .i64 0, .slice none 0 0, .int .i64 0, .bool false, .bool false] 24).step hB; clear hB; obtain ⟨⟨p0, p1, p2, p3, p4, p5, p6, p7⟩, p8⟩ := K0.c8; obtain ⟨⟨q0, q1, q2, q3, q4, q5, q6, q7⟩, q8⟩ := K1.c8; have hlt0 := K0.lt; have hlt1 := K1.lt; have KK := Keep.mk (And.intro K0 K1); clear K0 K1)
      | (go_at_call 45; refine (ref_site _ _).mono ?_; rintro e w' ⟨rfl, rfl⟩)
      | (go_at_call 43; refine (ref_Copy _ s _ _ (HC.out.below KK.out.1.bel)).mono ?_; rintro e w2 ⟨A2, c2, rfl, hO, hB⟩; have HO := Keep.mk (hO.mono KK.out.1.bel.size); have K0 := KK.out.1.step hB; have K1 := KK.out.2.step hB; clear hO hB KK p0 p1 p2 p3 p4 p5 p6 p7 p8 q0 q1 q2 q3 q4 q5 q6 q7 q8; obtain ⟨⟨p0, p1, p2, p3, p4, p5, p6, p7⟩, p8⟩ := K0.c8; obtain ⟨⟨q0, q1, q2, q3, q4, q5, q6, q7⟩, q8⟩ := K1.c8; have hlt0 := K0.lt; have hlt1 := K1.lt; have KK := Keep.mk (And.intro K0 K1); clear K0 K1))
        exact bodyPost_ret (results_row_tmp rfl _ _ (w.heap.size + 1) 24 _ _ rfl (site_stored KK.out.2 zS none 0 (OwnSp.nil _ w.heap.size)).1.blk Try.underlying24 rfl (by kernel_rfl)) rfl ⟨none, 0, rfl, (site_stored KK.out.2 zS none 0 (OwnSp.nil _ w.heap.size)).2, (site_stored KK.out.2 zS none 0 (OwnSp.nil _ w.heap.size)).1.bel⟩
      have g8 : decide (n ≤ s.ap) = false := by simp [h8]
      rw [apply_ok s ep n h1 ha he h6 h7 h8]
      have HBD := Keep.mk (show 0 ≤ (lastS s.li).to_ ∧ (lastS s.li).to_ ≤ 1073741824 by rw [checkS_last h1]; have := checkS_zero h1; omega)
      clear h1 ha h3 he h6 h7 h8
      go_enter Try.func21, Try.ntmps21
      go_wp2_with (first
      | (go_at_call 32; refine (ref_Check _ s _ _ ((HC.out.alloc _).alloc _)).mono ?_; rintro e w1 ⟨rfl, hB⟩; have K0 := ((Held.new (Below.refl w.heap.size w) [.int .i64 s.nu, .int .i64 s.ro, .int .i64 s.ep, .int .i64 s.ap, .slice A s.li.length c, .int .i64 s.so, .bool s.al, .bool s.co] 24).alloc (.cells #[.int .i64 0, .int .i64 0, .int .i64 0, .int .i64 0, .slice none 0 0, .int .i64 0, .bool false, .bool false] 24)).step hB; have K1 := (Held.new1 w _ [.int .i64 0, .int .i64 0, .int .i64 0, .int .i64 0, .slice none 0 0, .int .i64 0, .bool false, .bool false] 24).step hB; clear hB; obtain ⟨⟨p0, p1, p2, p3, p4, p5, p6, p7⟩, p8⟩ := K0.c8; obtain ⟨⟨q0, q1, q2, q3, q4, q5, q6, q7⟩, q8⟩ := K1.c8; have hlt0 := K0.lt; have hlt1 := K1.lt; have KK := Keep.mk (And.intro K0 K1); clear K0 K1)
      | (go_at_call 45; refine (ref_site _ _).mono ?_; rintro e w' ⟨rfl, rfl⟩)
      | (go_at_call 43; refine (ref_Copy _ s _ _ (HC.out.below KK.out.1.bel)).mono ?_; rintro e w2 ⟨A2, c2, rfl, hO, hB⟩; have HO := Keep.mk (hO.mono KK.out.1.bel.size); have K0 := KK.out.1.step hB; have K1 := KK.out.2.step hB; clear hO hB KK p0 p1 p2 p3 p4 p5 p6 p7 p8 q0 q1 q2 q3 q4 q5 q6 q7 q8; obtain ⟨⟨p0, p1, p2, p3, p4, p5, p6, p7⟩, p8⟩ := K0.c8; obtain ⟨⟨q0, q1, q2, q3, q4, q5, q6, q7⟩, q8⟩ := K1.c8; have hlt0 := K0.lt; have hlt1 := K1.lt; have KK := Keep.mk (And.intro K0 K1); clear K0 K1)
      | (go_at_call 52; refine (ref_extend _ A c s.li ep n HBD.out hls (HC.out.below (below_new KK.out.1.bel (.cells #[.int .i64 s.nu, .int .i64 s.ro, .int .i64 s.ep, .int .i64 s.ap, .slice A2 s.li.length c2, .int .i64 s.so, .bool s.al, .bool s.co] 24)))).mono ?_; rintro e w4 ⟨A4, c4, rfl, hO4, hB4⟩; have K9 := (Held.new KK.out.1.bel [.int .i64 s.nu, .int .i64 s.ro, .int .i64 s.ep, .int .i64 s.ap, .slice A2 s.li.length c2, .int .i64 s.so, .bool s.al, .bool s.co] 24).step hB4; have HO4 := Keep.mk (hO4.mono (Nat.le_trans KK.out.1.bel.size (by simp))); have K0 := (KK.out.1.alloc (.cells #[.int .i64 s.nu, .int .i64 s.ro, .int .i64 s.ep, .int .i64 s.ap, .slice A2 s.li.length c2, .int .i64 s.so, .bool s.al, .bool s.co] 24)).step hB4; have K1 := (KK.out.2.alloc (.cells #[.int .i64 s.nu, .int .i64 s.ro, .int .i64 s.ep, .int .i64 s.ap, .slice A2 s.li.length c2, .int .i64 s.so, .bool s.al, .bool s.co] 24)).step hB4; obtain ⟨⟨x0, x1, x2, x3, x4, x5, x6, x7⟩, x8⟩ := K9.c8; have hge := KK.out.1.bel.size; have hne : w.heap.size + 1 ≠ w2.heap.size := (by have := KK.out.2.lt; omega); have HK9 := Keep.mk K9; clear hO4 hB4 KK K9 p0 p1 p2 p3 p4 p5 p6 p7 p8 q0 q1 q2 q3 q4 q5 q6 q7 q8; obtain ⟨⟨p0, p1, p2, p3, p4, p5, p6, p7⟩, p8⟩ := K0.c8; obtain ⟨⟨q0, q1, q2, q3, q4, q5, q6, q7⟩, q8⟩ := K1.c8; have hlt0 := K0.lt; have hlt1 := K1.lt; have KK := Keep.mk (And.intro K0 K1); clear K0 K1))
      exact bodyPost_ret (results_row_tmp rfl _ _ (w.heap.size + 1) 24 _ _ rfl (site_stored (((KK.out.2.setOther hge hne _).setOther hge hne _).setOther hge hne _) ({ s with ep := ep, ap := n, li := extendR s.li ep n } : Site) A4 c4 (((HO4.out.setOther (j := 2) HK9.out.blk (by decide) (.int .i64 ep)).setOther (j := 3) (HK9.out.set 2 (.int .i64 ep)).blk (by decide) (.int .i64 n)).setOther (j := 4) ((HK9.out.set 2 (.int .i64 ep)).set 3 (.int .i64 n)).blk (by decide) (.slice A4 (extendR s.li ep n).length c4))).1.blk Try.underlying24 rfl (by kernel_rfl)) rfl ⟨A4, c4, rfl, (site_stored (((KK.out.2.setOther hge hne _).setOther hge hne _).setOther hge hne _) ({ s with ep := ep, ap := n, li := extendR s.li ep n } : Site) A4 c4 (((HO4.out.setOther (j := 2) HK9.out.blk (by decide) (.int .i64 ep)).setOther (j := 3) (HK9.out.set 2 (.int .i64 ep)).blk (by decide) (.int .i64 n)).setOther (j := 4) ((HK9.out.set 2 (.int .i64 ep)).set 3 (.int .i64 n)).blk (by decide) (.slice A4 (extendR s.li ep n).length c4))).2, (site_stored (((KK.out.2.setOther hge hne _).setOther hge hne _).setOther hge hne _) ({ s with ep := ep, ap := n, li := extendR s.li ep n } : Site) A4 c4 (((HO4.out.setOther (j := 2) HK9.out.blk (by decide) (.int .i64 ep)).setOther (j := 3) (HK9.out.set 2 (.int .i64 ep)).blk (by decide) (.int .i64 n)).setOther (j := 4) ((HK9.out.set 2 (.int .i64 ep)).set 3 (.int .i64 n)).blk (by decide) (.slice A4 (extendR s.li ep n).length c4))).1.bel⟩
  · have hv : applyS s ep n = (zS, checkS s) := by simp [applyS, h1]
    rw [hv]
    have h1' : (checkS s != 0) = true := by simpa using h1
    clear h1 hv
    go_enter Try.func21, Try.ntmps21
    go_wp2_with (first
      | (go_at_call 32; refine (ref_Check _ s _ _ ((HC.out.alloc _).alloc _)).mono ?_; rintro e w1 ⟨rfl, hB⟩; have K0 := ((Held.new (Below.refl w.heap.size w) [.int .i64 s.nu, .int .i64 s.ro, .int .i64 s.ep, .int .i64 s.ap, .slice A s.li.length c, .int .i64 s.so, .bool s.al, .bool s.co] 24).alloc (.cells #[.int .i64 0, .int .i64 0, .int .i64 0, .int .i64 0, .slice none 0 0, .int .i64 0, .bool false, .bool false] 24)).step hB; have K1 := (Held.new1 w _ [.int .i64 0, .int .i64 0, .int .i64 0, .int .i64 0, .slice none 0 0, .int .i64 0, .bool false, .bool false] 24).step hB; clear hB; obtain ⟨⟨p0, p1, p2, p3, p4, p5, p6, p7⟩, p8⟩ := K0.c8; obtain ⟨⟨q0, q1, q2, q3, q4, q5, q6, q7⟩, q8⟩ := K1.c8; have hlt0 := K0.lt; have hlt1 := K1.lt; have KK := Keep.mk (And.intro K0 K1); clear K0 K1)
      | (go_at_call 45; refine (ref_site _ _).mono ?_; rintro e w' ⟨rfl, rfl⟩)
      | (go_at_call 43; refine (ref_Copy _ s _ _ (HC.out.below KK.out.1.bel)).mono ?_; rintro e w2 ⟨A2, c2, rfl, hO, hB⟩; have HO := Keep.mk (hO.mono KK.out.1.bel.size); have K0 := KK.out.1.step hB; have K1 := KK.out.2.step hB; clear hO hB KK p0 p1 p2 p3 p4 p5 p6 p7 p8 q0 q1 q2 q3 q4 q5 q6 q7 q8; obtain ⟨⟨p0, p1, p2, p3, p4, p5, p6, p7⟩, p8⟩ := K0.c8; obtain ⟨⟨q0, q1, q2, q3, q4, q5, q6, q7⟩, q8⟩ := K1.c8; have hlt0 := K0.lt; have hlt1 := K1.lt; have KK := Keep.mk (And.intro K0 K1); clear K0 K1))
    exact bodyPost_ret (results_row_tmp rfl _ _ (w.heap.size + 1) 24 _ _ rfl (site_stored KK.out.2 zS none 0 (OwnSp.nil _ w.heap.size)).1.blk Try.underlying24 rfl (by kernel_rfl)) rfl ⟨none, 0, rfl, (site_stored KK.out.2 zS none 0 (OwnSp.nil _ w.heap.size)).2, (site_stored KK.out.2 zS none 0 (OwnSp.nil _ w.heap.size)).1.bel⟩
end Go.Proofs.Ytfkdcjkkmfhalaa
